import Derived.Test.YtkmbgihfdfgmgaaQCellSpec
import Derived.Test.YtkmbgihfdfgmgaaM2
import Derived.Test.YtkmbgihfdfgmgaaM10
namespace Go.Proofs.Ytkmbgihfdfgmgaa.P
end Go.Proofs.Ytkmbgihfdfgmgaa.P
namespace Go.Proofs.Ytkmbgihfdfgmgaa.Q
end Go.Proofs.Ytkmbgihfdfgmgaa.Q
namespace Go.Proofs.Ytkmbgihfdfgmgaa.Q
open Go.RowKit Go.Proofs.Ytkmbgihfdfgmgaa.P Go.Proofs.YtkmbgihfdfgmgaaW.PrintWords Go.Proofs.YtkmbgihfdfgmgaaW.PrintLast Go.Proofs.YtkmbgihfdfgmgaaW.PrintMore
set_option linter.unusedVariables false
set_option linter.unusedSimpArgs false

theorem val_take_succ (t : List UInt8) (j : Nat) (h : j < t.length) : val (t.take (j + 1)) = val (t.take j) * 256 + (t.getD j 0).toNat := by
  rw [List.take_succ_eq_append_getElem h, val_snoc]
  simp [List.getD_eq_getElem?_getD, List.getElem?_eq_getElem h]
theorem val_take_le (t : List UInt8) {i j : Nat} (h : i ≤ j) : val (t.take i) ≤ val (t.take j) := by
  have e : t.take i = (t.take j).take i := by rw [List.take_take, Nat.min_eq_left h]
  rw [e]
  have := val_append ((t.take j).take i) ((t.take j).drop i)
  rw [List.take_append_drop] at this
  have h2 : 1 ≤ 256 ^ ((t.take j).drop i).length := Nat.pow_pos (by omega)
  have := Nat.mul_le_mul_left (val ((t.take j).take i)) h2
  omega
theorem val_take_lt (t : List UInt8) {n : Nat} (h : n ≤ 8) : val (t.take n) < 18446744073709551616 := by
  have h1 := val_lt (t.take n)
  have h2 : (t.take n).length ≤ 8 := by rw [List.length_take]; omega
  have h3 : 256 ^ (t.take n).length ≤ 256 ^ 8 := Nat.pow_le_pow_right (by omega) h2
  omega
def endNum (t : List UInt8) (n : Nat) : Int × Int × Int := if 9223372036854775808 ≤ val (t.take n) then (0, 0, 10) else ((val (t.take n) : Nat), (n : Int) + 1, 0)
theorem takeNum_end (t : List UInt8) {n : Nat} (hn : n ≤ 8) : Ev (fun _ => if ((val (t.take n) : Nat) : Int) > 9223372036854775807 then some ((0 : Int), (0 : Int), (10 : Int)) else some (wrap64 ((val (t.take n) : Nat) : Int), wrap64 ((n : Int) + 1), 0)) (endNum t n) := by
  unfold endNum
  by_cases h : 9223372036854775808 ≤ val (t.take n)
  · rw [if_pos h]
    exact evT (by omega) (evSome _)
  · rw [if_neg h]
    refine evF (by omega) (evEq (evSome _) ?_)
    rw [w64 (by omega), w64 (by omega)]
theorem takeNum_l0 (b : UInt8) (t : List UInt8) (n : Nat) (hn : n ≤ 8) (ht : n ≤ t.length) (hz : t.length ≤ 140737488351232) (d : Nat) : ∀ j : Nat, j + d = n →
    Ev (fun k => cell_TakeNum.l0 k (S (b :: t)) (n : Int) ((val (t.take j) : Nat) : Int) ((t.length : Int) + 1) ((j : Int) + 1)) (endNum t n) := by
  induction d with
  | zero =>
    intro j hj
    obtain rfl : j = n := by omega
    refine Ev.step (fun k => cell_TakeNum.l0.eq_2 ..) ?_
    by_cases h : j < t.length
    · refine evT (by omega) (evF (by omega) (evT (by omega) ?_))
      exact takeNum_end t hn
    · refine evF (by omega) ?_
      exact takeNum_end t hn
  | succ d ih =>
    intro j hj
    refine Ev.step (fun k => cell_TakeNum.l0.eq_2 ..) ?_
    refine evT (by omega) (evF (by omega) (evF (by omega) (evT (by omega) (evT (by rw [S_size]; simp; omega) ?_))))
    have h1 := val_take_lt t hn
    have h2 := val_take_le t (show j + 1 ≤ n by omega)
    have h3 := val_take_succ t j (by omega)
    have e1 : bt (S (b :: t)) ((j : Int) + 1) = ((t.getD j 0).toNat : Int) := by
      rw [bt_S, show ((j : Int) + 1).toNat = j + 1 by omega]; rfl
    have hb : (t.getD j 0).toNat ≤ 255 := by have := (t.getD j 0).toNat_lt; omega
    have e2 : IntKind.u64.wrap (IntKind.u64.wrap (((val (t.take j) : Nat) : Int) * 256) + IntKind.u64.wrap (bt (S (b :: t)) ((j : Int) + 1))) = ((val (t.take (j + 1)) : Nat) : Int) := by
      rw [e1, u64w (n := ((val (t.take j) : Nat) : Int) * 256) (by omega), u64w (n := ((t.getD j 0).toNat : Int)) (by omega), u64w (by omega), h3]
      omega
    rw [e2, w64 (by omega)]
    exact ih (j + 1) (by omega)
theorem takeNum_l0' (b : UInt8) (t : List UInt8) (n : Nat) (hn : n ≤ 8) (ht : n ≤ t.length) (hz : t.length ≤ 140737488351232) :
    Ev (fun k => cell_TakeNum.j0 k (S (b :: t)) (n : Int)) (endNum t n) := by
  refine Ev.step (fun k => cell_TakeNum.j0.eq_2 ..) ?_
  rw [S_size]
  refine Ev.step (fun k => cell_TakeNum.l0.eq_2 ..) ?_
  refine evT (by simp only [List.length_cons]; omega) (evT rfl ?_)
  have := takeNum_l0 b t n hn ht hz n 0 (by omega)
  simpa [val, w64] using this
theorem head_getD (t : List UInt8) (h : 0 < t.length) : (((t.getD 0 0).toNat : Int) = 0) ↔ t.head? = some 0 := by
  cases t with
  | nil => simp at h
  | cons c t =>
    simp only [List.getD_cons_zero, List.head?_cons, Option.some.injEq]
    constructor
    · intro h; exact UInt8.toNat_inj.1 (by simpa using h)
    · rintro rfl; simp
theorem takeNum_ev (l : List UInt8) (hz : l.length ≤ 140737488351232) : Ev (fun k => cell_TakeNum.f k (S l)) (takeNum l) := by
  refine Ev.congr (fun k => cell_TakeNum.f.eq_1 ..) ?_
  rw [S_toList, S_size]
  cases l with
  | nil => exact evT rfl (evSome _)
  | cons b t =>
    have e0 : wrap64 (bt (S (b :: t)) 0) = (b.toNat : Int) := by
      rw [bt_S]; have := b.toNat_lt; exact w64 (by simp; omega)
    have e1 : bt (S (b :: t)) 1 = ((t.getD 0 0).toNat : Int) := by rw [bt_S]; rfl
    rw [e0, e1]
    simp only [List.length_cons] at hz ⊢
    refine evF (by simp) (evT (by omega) ?_)
    simp only [takeNum]
    by_cases h1 : 8 < b.toNat
    · rw [if_pos h1]; exact evT (by omega) (evSome _)
    · rw [if_neg h1]
      refine evF (by omega) ?_
      by_cases h2 : t.length < b.toNat
      · rw [if_pos h2]; exact evT (by omega) (evSome _)
      · rw [if_neg h2]
        refine evF (by omega) ?_
        by_cases h3 : 0 < b.toNat
        · refine evT (by omega) (evT (by omega) ?_)
          by_cases h4 : t.head? = some 0
          · rw [if_pos ⟨h3, h4⟩]
            exact evT ((head_getD t (by omega)).2 h4) (evSome _)
          · rw [if_neg (fun h => h4 h.2)]
            refine evF (fun h => h4 ((head_getD t (by omega)).1 h)) ?_
            exact takeNum_l0' b t b.toNat (by omega) (by omega) (by omega)
        · rw [if_neg (fun h => h3 h.1)]
          refine evF (by omega) ?_
          exact takeNum_l0' b t b.toNat (by omega) (by omega) (by omega)

/-! the document's TakeNum -/
theorem rtakeNum_l0 (b : UInt8) (t : List UInt8) (n : Nat) (hn : n ≤ 8) (ht : n ≤ t.length) (hz : t.length ≤ 140737488351232) (hv : val (t.take n) < 9223372036854775808) (d : Nat) : ∀ j : Nat, j + d = n →
    Ev (fun k => ravelinref3_TakeNum.l0 k (S (b :: t)) (n : Int) ((val (t.take j) : Nat) : Int) ((j : Int) + 1)) (endNum t n) := by
  induction d with
  | zero =>
    intro j hj
    obtain rfl : j = n := by omega
    refine Ev.step (fun k => ravelinref3_TakeNum.l0.eq_2 ..) ?_
    refine evF (by omega) ?_
    unfold endNum
    rw [if_neg (by omega), w64 (by omega)]
    exact evSome _
  | succ d ih =>
    intro j hj
    refine Ev.step (fun k => ravelinref3_TakeNum.l0.eq_2 ..) ?_
    refine evT (by omega) (evT (by omega) (evT (by rw [S_size]; simp; omega) ?_))
    have h2 := val_take_le t (show j + 1 ≤ n by omega)
    have h3 := val_take_succ t j (by omega)
    have e1 : bt (S (b :: t)) ((j : Int) + 1) = ((t.getD j 0).toNat : Int) := by
      rw [bt_S, show ((j : Int) + 1).toNat = j + 1 by omega]; rfl
    have hb : (t.getD j 0).toNat ≤ 255 := by have := (t.getD j 0).toNat_lt; omega
    have e2 : wrap64 (wrap64 (((val (t.take j) : Nat) : Int) * 256) + wrap64 (bt (S (b :: t)) ((j : Int) + 1))) = ((val (t.take (j + 1)) : Nat) : Int) := by
      rw [e1, w64 (n := ((val (t.take j) : Nat) : Int) * 256) (by omega), w64 (n := ((t.getD j 0).toNat : Int)) (by omega), w64 (by omega), h3]
      omega
    rw [e2, w64 (by omega)]
    exact ih (j + 1) (by omega)
theorem rtakeNum_j0 (b : UInt8) (t : List UInt8) (n : Nat) (hn : n ≤ 8) (ht : n ≤ t.length) (hz : t.length ≤ 140737488351232) (hv : val (t.take n) < 9223372036854775808) :
    Ev (fun k => ravelinref3_TakeNum.j0 k (S (b :: t)) (n : Int) false) (endNum t n) := by
  refine Ev.step (fun k => ravelinref3_TakeNum.j0.eq_2 ..) ?_
  refine evF (by simp) ?_
  exact rtakeNum_l0 b t n hn ht hz hv n 0 (by omega)
theorem val8 (c : UInt8) (t : List UInt8) (h : 7 ≤ t.length) : 9223372036854775808 ≤ val ((c :: t).take 8) ↔ 128 ≤ c.toNat := by
  rw [List.take_succ_cons, val_cons]
  have h1 := val_lt (t.take 7)
  have h2 : (t.take 7).length = 7 := by rw [List.length_take]; omega
  rw [h2] at h1 ⊢
  omega
theorem rtakeNum_ev (l : List UInt8) (hz : l.length ≤ 140737488351232) : Ev (fun k => ravelinref3_TakeNum.f k (S l)) (takeNum l) := by
  refine Ev.congr (fun k => ravelinref3_TakeNum.f.eq_1 ..) ?_
  rw [S_size]
  cases l with
  | nil => exact evT rfl (evSome _)
  | cons b t =>
    have hb := b.toNat_lt
    have e0 : wrap64 (bt (S (b :: t)) 0) = (b.toNat : Int) := by
      rw [bt_S]; exact w64 (by simp; omega)
    have e1 : bt (S (b :: t)) 1 = ((t.getD 0 0).toNat : Int) := by rw [bt_S]; rfl
    rw [e0, e1]
    simp only [List.length_cons] at hz ⊢
    refine evF (by omega) (evT (by omega) ?_)
    rw [w64 (by omega)]
    simp only [takeNum]
    by_cases h1 : 8 < b.toNat
    · rw [if_pos h1]; exact evT (by omega) (evSome _)
    · rw [if_neg h1]
      refine evF (by omega) ?_
      by_cases h2 : t.length < b.toNat
      · rw [if_pos h2]; exact evT (by omega) (evSome _)
      · rw [if_neg h2]
        refine evF (by omega) ?_
        by_cases h3 : 0 < b.toNat
        · refine evT (by omega) (evT (by omega) ?_)
          by_cases h4 : t.head? = some 0
          · rw [if_pos ⟨h3, h4⟩]
            refine evT ((head_getD t (by omega)).2 h4) ?_
            exact Ev.step (fun k => ravelinref3_TakeNum.j0.eq_2 ..) (evT rfl (evSome _))
          · rw [if_neg (fun h => h4 h.2)]
            refine evF (fun h => h4 ((head_getD t (by omega)).1 h)) ?_
            by_cases h5 : b.toNat = 8
            · refine evT (by omega) ?_
              cases t with
              | nil => simp at h2; omega
              | cons c t =>
                have h6 := val8 c t (by simp at h2; omega)
                simp only [List.getD_cons_zero]
                by_cases h7 : 128 ≤ c.toNat
                · rw [h5, if_pos (h6.2 h7)]
                  refine Ev.step (fun k => ravelinref3_TakeNum.j0.eq_2 ..) (evT ?_ (evSome _))
                  simp
                  omega
                · rw [show decide ((c.toNat : Int) ≥ 128) = false by simp; omega, h5]
                  exact rtakeNum_j0 b (c :: t) 8 (by omega) (by omega) (by omega) (by omega)
            · refine evF (by omega) ?_
              have h6 := val_lt (t.take b.toNat)
              have h7 : (t.take b.toNat).length ≤ 7 := by rw [List.length_take]; omega
              have h8 : 256 ^ (t.take b.toNat).length ≤ 256 ^ 7 := Nat.pow_le_pow_right (by omega) h7
              exact rtakeNum_j0 b t b.toNat (by omega) (by omega) (by omega) (by omega)
        · rw [if_neg (fun h => h3 h.1)]
          refine evF (by omega) (evF (by omega) ?_)
          have h0 : b.toNat = 0 := by omega
          exact rtakeNum_j0 b t b.toNat (by omega) (by omega) (by omega) (by rw [h0]; simp [val])

end Go.Proofs.Ytkmbgihfdfgmgaa.Q
