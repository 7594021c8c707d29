import Derived.Test.YtkmbgihfdfgmgaaQSealSpec
import Derived.Test.YtkmbgihfdfgmgaaQCellTakeNum
import Derived.Test.YtkmbgihfdfgmgaaQCellNum
import Derived.Test.YtkmbgihfdfgmgaaM1
import Derived.Test.YtkmbgihfdfgmgaaM3
import Derived.Test.YtkmbgihfdfgmgaaM9
import Derived.Test.YtkmbgihfdfgmgaaM10
import Derived.Laws.BitsLemmas
namespace Go.Proofs.Ytkmbgihfdfgmgaa.P
end Go.Proofs.Ytkmbgihfdfgmgaa.P
namespace Go.Proofs.Ytkmbgihfdfgmgaa.Q
end Go.Proofs.Ytkmbgihfdfgmgaa.Q
namespace Go.Proofs.Ytkmbgihfdfgmgaa.Q
open Go.RowKit Go.Proofs.Ytkmbgihfdfgmgaa.P Go.Proofs.YtkmbgihfdfgmgaaW.PrintWords Go.Proofs.YtkmbgihfdfgmgaaW.PrintLast Go.Proofs.YtkmbgihfdfgmgaaW.PrintMore
set_option linter.unusedVariables false
set_option linter.unusedSimpArgs false

theorem take_fold (l : List UInt8) (i : Nat) (h : i < l.length) : (l.take (i + 1)).foldl step2 (1, 0) = step2 ((l.take i).foldl step2 (1, 0)) (l.getD i 0) := by
  rw [List.take_succ_eq_append_getElem h, List.foldl_append]
  simp [List.getD_eq_getElem?_getD, List.getElem?_eq_getElem h]
theorem sums_take (l : List UInt8) (i : Nat) : ((l.take i).foldl step2 (1, 0)).1 < 65521 ∧ ((l.take i).foldl step2 (1, 0)).2 < 65521 := sums_lt (l.take i)
theorem or_sum (a b : Nat) (ha : a < 65521) (hb : b < 65521) : Go.bits .or .u32 (((b : Int) * 65536) % 4294967296) (a : Int) = ((b * 65536 + a : Nat) : Int) := by
  have e : (2 : Int) ^ 32 = 4294967296 := by decide
  have hk : ∀ n : Int, 0 ≤ n → n < 2 ^ 32 → IntKind.u32.wrap n = n := fun n h0 h1 => u32w ⟨h0, by omega⟩
  have h := bits_join .u32 32 (by decide) hk 16 (((b : Int) * 65536) % 4294967296) (a : Int) (by omega) (by omega) (by omega) (by omega) (by omega) (by omega)
  rw [h]
  omega
theorem sum_step (l : List UInt8) (i : Nat) (h : i < l.length) :
    ((((((l.take i).foldl step2 (1, 0)).1 : Nat) : Int) + ((bt (S l) (i : Int)) % 4294967296)) % 4294967296) % 65521 = ((((l.take (i + 1)).foldl step2 (1, 0)).1 : Nat) : Int) ∧
    ((((((l.take i).foldl step2 (1, 0)).2 : Nat) : Int) + ((((((l.take i).foldl step2 (1, 0)).1 : Nat) : Int) + ((bt (S l) (i : Int)) % 4294967296)) % 4294967296) % 65521) % 4294967296) % 65521 = ((((l.take (i + 1)).foldl step2 (1, 0)).2 : Nat) : Int) := by
  have hs := sums_take l i
  rw [take_fold l i h, bt_S, Int.toNat_natCast]
  have hb := (l.getD i 0).toNat_lt
  simp only [step2]
  generalize ((l.take i).foldl step2 (1, 0)).1 = a at *
  generalize ((l.take i).foldl step2 (1, 0)).2 = b at *
  generalize (l.getD i 0).toNat = c at *
  omega
theorem sum_l0 (l : List UInt8) (hz : l.length ≤ 140737488351232) (d : Nat) : ∀ i : Nat, i + d = l.length →
    Ev (fun k => seal_Sum.l0 k (S l) ((((l.take i).foldl step2 (1, 0)).1 : Nat) : Int) ((((l.take i).foldl step2 (1, 0)).2 : Nat) : Int) (l.length : Int) (i : Int)) ((sumN l : Nat) : Int) := by
  induction d with
  | zero =>
    intro i hi
    obtain rfl : i = l.length := by omega
    refine Ev.step (fun k => seal_Sum.l0.eq_2 ..) (evF (by omega) (evEq (evSome _) ?_))
    have hs := sums_take l l.length
    rw [or_sum _ _ hs.1 hs.2, List.take_length]
    rfl
  | succ d ih =>
    intro i hi
    refine Ev.step (fun k => seal_Sum.l0.eq_2 ..) (evT (by omega) (evT (by omega) (evT (by rw [S_size]; omega) ?_)))
    rw [(sum_step l i (by omega)).2, (sum_step l i (by omega)).1, w64 (by omega), show (i : Int) + 1 = ((i + 1 : Nat) : Int) by omega]
    exact ih (i + 1) (by omega)
theorem sum_ev (l : List UInt8) (hz : l.length ≤ 140737488351232) : Ev (fun k => seal_Sum.f k (S l)) ((sumN l : Nat) : Int) := by
  refine Ev.congr (fun k => seal_Sum.f.eq_1 ..) ?_
  rw [S_size]
  have := sum_l0 l hz l.length 0 (by omega)
  simpa using this
theorem rsum_l0 (l : List UInt8) (hz : l.length ≤ 140737488351232) (d : Nat) : ∀ i : Nat, i + d = l.length →
    Ev (fun k => ravelinref3_Sum.l0 k (S l) ((((l.take i).foldl step2 (1, 0)).1 : Nat) : Int) ((((l.take i).foldl step2 (1, 0)).2 : Nat) : Int) (i : Int)) ((sumN l : Nat) : Int) := by
  induction d with
  | zero =>
    intro i hi
    obtain rfl : i = l.length := by omega
    refine Ev.step (fun k => ravelinref3_Sum.l0.eq_2 ..) (evF (by rw [S_size]; omega) (evEq (evSome _) ?_))
    have hs := sums_take l l.length
    rw [List.take_length] at hs ⊢
    unfold sumN sums
    omega
  | succ d ih =>
    intro i hi
    refine Ev.step (fun k => ravelinref3_Sum.l0.eq_2 ..) (evT (by rw [S_size]; omega) (evT (by omega) ?_))
    rw [(sum_step l i (by omega)).2, (sum_step l i (by omega)).1, w64 (by omega), show (i : Int) + 1 = ((i + 1 : Nat) : Int) by omega]
    exact ih (i + 1) (by omega)
theorem rsum_ev (l : List UInt8) (hz : l.length ≤ 140737488351232) : Ev (fun k => ravelinref3_Sum.f k (S l)) ((sumN l : Nat) : Int) := by
  refine Ev.congr (fun k => ravelinref3_Sum.f.eq_1 ..) ?_
  have := rsum_l0 l hz l.length 0 (by omega)
  simpa using this
theorem four_nm (n : Nat) : ([(n : Int) / 16777216 % 256, (n : Int) / 65536 % 256, (n : Int) / 256 % 256, (n : Int) % 256] : List Int) = nm (fourL n) := by
  simp [nm, fourL]
theorem rfour_ev (n : Nat) : ravelinref3_four.f (n : Int) = some (S (fourL n)) := by
  unfold ravelinref3_four.f
  rw [four_nm, strOf']
theorem bytes_ev (n : Nat) : Ev (fun k => seal_bytes.f k (n : Int)) (S (fourL n)) := by
  refine Ev.congr (fun k => seal_bytes.f.eq_1 ..) (evT (by omega) ?_)
  refine Ev.step (fun k => seal_bytes.l0.eq_2 ..) (evT (by omega) (evT (by omega) (evT (by simp) ?_)))
  rw [w64 (by omega)]
  refine Ev.step (fun k => seal_bytes.l0.eq_2 ..) (evT (by omega) (evT (by omega) (evT (by simp) ?_)))
  rw [w64 (by omega)]
  refine Ev.step (fun k => seal_bytes.l0.eq_2 ..) (evT (by omega) (evT (by omega) (evT (by simp) ?_)))
  rw [w64 (by omega)]
  refine Ev.step (fun k => seal_bytes.l0.eq_2 ..) (evT (by omega) (evT (by omega) (evT (by simp) ?_)))
  rw [w64 (by omega)]
  refine Ev.step (fun k => seal_bytes.l0.eq_2 ..) (evF (by omega) (evEq (evSome _) ?_))
  rw [← strOf', ← four_nm]
  congr 1
  simp [List.replicate]
  omega
theorem seal_ev (s : List UInt8) (h : s.length ≤ 140737488351232) : Ev (fun k => seal_Seal.f k (S s)) (S (sealL s)) := by
  refine Ev.congr (fun k => seal_Seal.f.eq_1 ..) ?_
  rw [S_size]
  have h1 := numL_le (n := s.length) (by omega)
  refine evBind (num_ev _ (by omega)) (evBind (sum_ev s h) (evBind (bytes_ev _) ?_))
  rw [Int.toNat_natCast, S_append, S_size, S_size, S_size]
  refine evT (by rw [fourL_len]; omega) (evT (by rw [List.length_append, fourL_len]; omega) (evEq (evSome _) ?_))
  rw [S_append, sealL, List.append_assoc]
theorem rseal_ev (s : List UInt8) (h : s.length ≤ 140737488351232) : Ev (fun k => ravelinref3_Seal.f k (S s)) (S (sealL s)) := by
  refine Ev.congr (fun k => ravelinref3_Seal.f.eq_1 ..) ?_
  rw [S_size]
  have h1 := numL_le (n := s.length) (by omega)
  refine evBind (rnum_ev _ (by omega)) (evBind (rsum_ev s h) (evConst (rfour_ev _) ?_))
  rw [Int.toNat_natCast, S_append, S_size, S_size, S_size]
  refine evT (by rw [fourL_len]; omega) (evT (by rw [List.length_append, fourL_len]; omega) (evEq (evSome _) ?_))
  rw [S_append, sealL, List.append_assoc]
def tr4 (x : List UInt8 × Int × Int) : ByteArray × Int × Int := (S x.1, x.2.1, x.2.2)
theorem open_ev (l : List UInt8) (hz : l.length ≤ 140737488351232) : Ev (fun k => seal_Open.f k (S l)) (tr4 (openS l)) := by
  have hb := takeNum_bounds l
  refine Ev.congr (fun k => seal_Open.f.eq_1 ..) (evBind (takeNum_ev l hz) ?_)
  rw [S_size]
  by_cases h1 : (takeNum l).2.2 = 12
  · refine evT h1 (evEq (evSome _) ?_)
    unfold openS; rw [if_pos h1, h1]; rfl
  refine evF h1 ?_
  by_cases h2 : (takeNum l).2.2 = 0
  · refine evT h2 ?_
    rw [w64 (n := (l.length : Int) - (takeNum l).2.1) (by omega), w64 (n := (l.length : Int) - (takeNum l).2.1 - 4) (by omega), w64 (n := (takeNum l).2.1 + 4) (by omega)]
    by_cases h3 : (l.length : Int) - (takeNum l).2.1 < 4
    · refine evT h3 (evEq (evSome _) ?_)
      unfold openS; rw [if_neg h1, if_pos h2, if_pos h3]; rfl
    refine evF h3 ?_
    by_cases h4 : (takeNum l).1 > (l.length : Int) - (takeNum l).2.1 - 4
    · refine evT h4 (evEq (evSome _) ?_)
      unfold openS; rw [if_neg h1, if_pos h2, if_neg h3, if_pos h4]; rfl
    rw [w64 (n := (takeNum l).2.1 + 4 + (takeNum l).1) (by omega)]
    refine evF h4 (evT (by omega) (evT (by omega) (evT (by omega) (evT (by omega) (evT (by omega) (evT (by omega) ?_))))))
    rw [S_extract, S_extract, show ((takeNum l).2.1 + 4 + (takeNum l).1).toNat - ((takeNum l).2.1 + 4).toNat = (takeNum l).1.toNat by omega, show ((takeNum l).2.1 + 4).toNat - (takeNum l).2.1.toNat = 4 by omega,
      show ((takeNum l).2.1 + 4).toNat = (takeNum l).2.1.toNat + 4 by omega]
    refine evBind (sum_ev _ (by rw [List.length_take, List.length_drop]; omega)) (evBind (bytes_ev _) ?_)
    rw [S_toList, S_toList]
    by_cases h5 : (l.drop (takeNum l).2.1.toNat).take 4 = fourL (sumN ((l.drop ((takeNum l).2.1.toNat + 4)).take (takeNum l).1.toNat))
    · refine evT h5 (evEq (evSome _) ?_)
      unfold openS; rw [if_neg h1, if_pos h2, if_neg h3, if_neg h4, if_pos h5]; rfl
    · refine evF h5 (evEq (evSome _) ?_)
      unfold openS; rw [if_neg h1, if_pos h2, if_neg h3, if_neg h4, if_neg h5]; rfl
  · refine evF h2 (evEq (evSome _) ?_)
    unfold openS; rw [if_neg h1, if_neg h2]; rfl
theorem ropen_ev (l : List UInt8) (hz : l.length ≤ 140737488351232) : Ev (fun k => ravelinref3_Open.f k (S l)) (tr4 (openS l)) := by
  have hb := takeNum_bounds l
  refine Ev.congr (fun k => ravelinref3_Open.f.eq_1 ..) (evBind (rtakeNum_ev l hz) ?_)
  rw [S_size]
  by_cases h1 : (takeNum l).2.2 = 12
  · refine evT h1 (evEq (evSome _) ?_)
    unfold openS; rw [if_pos h1]; rfl
  refine evF h1 ?_
  by_cases h2 : (takeNum l).2.2 = 0
  · refine evT h2 ?_
    rw [w64 (n := (l.length : Int) - (takeNum l).2.1) (by omega), w64 (n := (l.length : Int) - (takeNum l).2.1 - 4) (by omega)]
    have short : (openS l = ([], 0, 12)) → Ev (fun k => ravelinref3_Open.j0 k (S l) (takeNum l).1 (takeNum l).2.1 true) (tr4 (openS l)) := by
      intro e
      refine Ev.step (fun k => ravelinref3_Open.j0.eq_2 ..) (evT rfl (evEq (evSome _) ?_))
      rw [e]; rfl
    by_cases h3 : (l.length : Int) - (takeNum l).2.1 < 4
    · exact evT h3 (short (by unfold openS; rw [if_neg h1, if_pos h2, if_pos h3]))
    refine evF h3 ?_
    by_cases h4 : (takeNum l).1 > (l.length : Int) - (takeNum l).2.1 - 4
    · rw [decide_eq_true h4]
      exact short (by unfold openS; rw [if_neg h1, if_pos h2, if_neg h3, if_pos h4])
    rw [decide_eq_false h4]
    refine Ev.step (fun k => ravelinref3_Open.j0.eq_2 ..) (evF (by simp) ?_)
    rw [w64 (n := (takeNum l).2.1 + 4) (by omega), w64 (n := (takeNum l).2.1 + 4 + (takeNum l).1) (by omega), S_size]
    refine evT (by omega) (evT (by omega) (evT (by omega) ?_))
    rw [S_extract, S_extract, show ((takeNum l).2.1 + 4 + (takeNum l).1).toNat - ((takeNum l).2.1 + 4).toNat = (takeNum l).1.toNat by omega, show ((takeNum l).2.1 + 4).toNat - (takeNum l).2.1.toNat = 4 by omega,
      show ((takeNum l).2.1 + 4).toNat = (takeNum l).2.1.toNat + 4 by omega]
    refine evBind (rsum_ev _ (by rw [List.length_take, List.length_drop]; omega)) (evConst (rfour_ev _) (evT (by omega) (evT (by omega) (evT (by omega) ?_))))
    rw [S_toList, S_toList]
    by_cases h5 : (l.drop (takeNum l).2.1.toNat).take 4 = fourL (sumN ((l.drop ((takeNum l).2.1.toNat + 4)).take (takeNum l).1.toNat))
    · refine evT h5.symm (evEq (evSome _) ?_)
      unfold openS; rw [if_neg h1, if_pos h2, if_neg h3, if_neg h4, if_pos h5]; rfl
    · refine evF (fun h => h5 h.symm) (evEq (evSome _) ?_)
      unfold openS; rw [if_neg h1, if_pos h2, if_neg h3, if_neg h4, if_neg h5]; rfl
  · refine evF h2 (evEq (evSome _) ?_)
    unfold openS; rw [if_neg h1, if_neg h2]; rfl
end Go.Proofs.Ytkmbgihfdfgmgaa.Q
