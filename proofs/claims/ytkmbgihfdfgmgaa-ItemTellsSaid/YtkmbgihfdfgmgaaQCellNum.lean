import Derived.Test.YtkmbgihfdfgmgaaQCellSpec
import Derived.Test.YtkmbgihfdfgmgaaM1
import Derived.Test.YtkmbgihfdfgmgaaM9
namespace Go.Proofs.Ytkmbgihfdfgmgaa.P
end Go.Proofs.Ytkmbgihfdfgmgaa.P
namespace Go.Proofs.Ytkmbgihfdfgmgaa.Q
end Go.Proofs.Ytkmbgihfdfgmgaa.Q
namespace Go.Proofs.Ytkmbgihfdfgmgaa.Q
open Go.RowKit Go.Proofs.Ytkmbgihfdfgmgaa.P Go.Proofs.YtkmbgihfdfgmgaaW.PrintWords Go.Proofs.YtkmbgihfdfgmgaaW.PrintLast Go.Proofs.YtkmbgihfdfgmgaaW.PrintMore
set_option linter.unusedVariables false
set_option linter.unusedSimpArgs false
/-! Num, Text -/
theorem num_l1 (x : List UInt8) (j : Nat) : ∀ out : List UInt8, j ≤ x.length → x.length ≤ 1000 → out.length + j ≤ 1000 →
    Ev (fun k => cell_Num.l1 k (nm x) (nm out) ((j : Int) - 1)) (S (out ++ (x.take j).reverse)) := by
  induction j with
  | zero =>
    intro out h1 h2 h3
    refine Ev.step (fun k => cell_Num.l1.eq_2 ..) ?_
    refine evF (by omega) (evEq (evSome _) ?_)
    rw [strOf']; simp
  | succ j ih =>
    intro out h1 h2 h3
    refine Ev.step (fun k => cell_Num.l1.eq_2 ..) ?_
    refine evT (by omega) (evT (by omega) (evT (by rw [nm_length]; omega) (evT (by rw [nm_length]; omega) ?_)))
    have e1 : nm out ++ [rd (nm x) (((j + 1 : Nat) : Int) - 1)] = nm (out ++ [x.getD j 0]) := by
      rw [rd_nm, nm_append, show (((j + 1 : Nat) : Int) - 1).toNat = j by omega]; rfl
    rw [e1, w64 (by omega)]
    have := ih (out ++ [x.getD j 0]) (by omega) h2 (by simp; omega)
    rw [show ((j + 1 : Nat) : Int) - 1 - 1 = (j : Int) - 1 by omega]
    refine evEq this ?_
    rw [List.take_succ_eq_append_getElem (by omega), List.reverse_append, List.getD_eq_getElem?_getD, List.getElem?_eq_getElem (by omega)]
    simp
theorem num_l0 (n : Nat) : ∀ x : List UInt8, n < 9223372036854775808 → x.length + (be n).length ≤ 8 →
    Ev (fun k => cell_Num.l0 k (n : Int) (nm x)) (S (UInt8.ofNat (x.length + (be n).length) :: (be n ++ x.reverse))) := by
  induction n using Nat.strongRecOn with
  | _ n ih =>
    intro x hn hx
    refine Ev.step (fun k => cell_Num.l0.eq_2 ..) ?_
    by_cases h : n = 0
    · subst h
      refine evF (by omega) ?_
      rw [nm_length, w64 (by omega)]
      have e : ([((x.length : Nat) : Int) % 256] : List Int) = nm [UInt8.ofNat x.length] := by simp [nm]
      rw [e]
      refine evEq (num_l1 x x.length _ (by omega) (by omega) (by simp; omega)) ?_
      rw [be_zero]; simp
    · refine evT (by omega) (evT (by rw [nm_length]; omega) ?_)
      rw [be_pos (by omega)] at hx
      simp only [List.length_append, List.length_cons, List.length_nil] at hx
      have e1 : nm x ++ [Int.tmod (n : Int) 256 % 256] = nm (x ++ [UInt8.ofNat n]) := by
        rw [nm_append]
        congr 1
        simp only [nm, List.map_cons, List.map_nil, List.cons.injEq, and_true]
        rw [Int.tmod_eq_emod_of_nonneg (by omega)]
        simp
      have e2 : wrap64 (Int.tdiv (n : Int) 256) = ((n / 256 : Nat) : Int) := by
        rw [Int.tdiv_eq_ediv_of_nonneg (by omega), w64 (by omega)]; omega
      rw [e1, e2]
      refine evEq (ih (n / 256) (by omega) (x ++ [UInt8.ofNat n]) (by omega) (by simp; omega)) ?_
      rw [be_pos (n := n) (by omega), show x.length + (be (n / 256) ++ [UInt8.ofNat n]).length = (x ++ [UInt8.ofNat n]).length + (be (n / 256)).length by simp; omega]
      simp
theorem num_ev (n : Int) (h : n < 9223372036854775808) : Ev (fun k => cell_Num.f k n) (S (numL n.toNat)) := by
  refine Ev.congr (fun k => cell_Num.f.eq_1 ..) ?_
  have e : mx n 0 = ((n.toNat : Nat) : Int) := by unfold mx; split <;> omega
  rw [e]
  have h8 := be8 (n := n.toNat) (by omega)
  have := num_l0 n.toNat [] (by omega) (by simpa using h8)
  simpa [numL, nm] using this
theorem rnum_l0 (n : Nat) : ∀ x : List UInt8, n < 9223372036854775808 → x.length + (be n).length ≤ 8 →
    Ev (fun k => ravelinref3_Num.l0 k (S x) (n : Int)) (S (UInt8.ofNat (x.length + (be n).length) :: (be n ++ x))) := by
  induction n using Nat.strongRecOn with
  | _ n ih =>
    intro x hn hx
    refine Ev.step (fun k => ravelinref3_Num.l0.eq_2 ..) ?_
    by_cases h : n = 0
    · subst h
      refine evF (by omega) ?_
      rw [S_size]
      have e : ([((x.length : Nat) : Int) % 256] : List Int) = nm [UInt8.ofNat x.length] := by simp [nm]
      rw [e]
      refine evConst rfl ?_
      rw [strOf', S_size, S_append]
      refine evT (by simp; omega) (evEq (evSome _) ?_)
      rw [be_zero]; simp
    · refine evT (by omega) (evConst rfl ?_)
      rw [be_pos (by omega)] at hx
      simp only [List.length_append, List.length_cons, List.length_nil] at hx
      have e1 : ([Int.tmod (n : Int) 256 % 256] : List Int) = nm [UInt8.ofNat n] := by
        simp only [nm, List.map_cons, List.map_nil, List.cons.injEq, and_true]
        rw [Int.tmod_eq_emod_of_nonneg (by omega)]
        simp
      have e2 : wrap64 (Int.tdiv (n : Int) 256) = ((n / 256 : Nat) : Int) := by
        rw [Int.tdiv_eq_ediv_of_nonneg (by omega), w64 (by omega)]; omega
      rw [e1, e2, strOf', S_size, S_size, S_append]
      refine evT (by simp; omega) ?_
      refine evEq (ih (n / 256) (by omega) ([UInt8.ofNat n] ++ x) (by omega) (by simp; omega)) ?_
      rw [be_pos (n := n) (by omega), show x.length + (be (n / 256) ++ [UInt8.ofNat n]).length = ([UInt8.ofNat n] ++ x).length + (be (n / 256)).length by simp; omega]
      simp
theorem rnum_ev (n : Int) (h : n < 9223372036854775808) : Ev (fun k => ravelinref3_Num.f k n) (S (numL n.toNat)) := by
  refine Ev.congr (fun k => ravelinref3_Num.f.eq_1 ..) ?_
  have e : mx 0 n = ((n.toNat : Nat) : Int) := by unfold mx; split <;> omega
  rw [e]
  have h8 := be8 (n := n.toNat) (by omega)
  have := rnum_l0 n.toNat [] (by omega) (by simpa using h8)
  simpa [numL, S] using this
end Go.Proofs.Ytkmbgihfdfgmgaa.Q
