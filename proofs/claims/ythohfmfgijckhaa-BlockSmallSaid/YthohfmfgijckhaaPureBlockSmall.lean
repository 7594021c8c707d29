/- Proved: the law BlockSmall is true of every number of keys, every length of what they begin with. -/
import Derived.Test.YthohfmfgijckhaaQKnown8
import Derived.Test.YthohfmfgijckhaaPx16
namespace Go.Proofs.Ythohfmfgijckhaa.P
end Go.Proofs.Ythohfmfgijckhaa.P
namespace Go.Proofs.Ythohfmfgijckhaa.Q
end Go.Proofs.Ythohfmfgijckhaa.Q
namespace Go.Proofs.Ythohfmfgijckhaa.Pure
open Go.RowKit Go.Proofs.Ythohfmfgijckhaa.P Go.Proofs.YthohfmfgijckhaaW.PrintWords Go.Proofs.YthohfmfgijckhaaW.PrintLast Go.Proofs.YthohfmfgijckhaaW.PrintMore Go.Proofs.Ythohfmfgijckhaa.Q
set_option linter.unusedVariables false
set_option linter.unusedSimpArgs false
def rep (h : Nat) : List UInt8 := List.replicate h 104
def chr (i : Nat) : UInt8 := UInt8.ofNat (97 + i)
def eA (h i : Nat) : S45 := mkE (rep h ++ [chr i]) 1 false [118]
def eB (h i : Nat) : S45 := mkE (chr i :: rep h) 1 false [118]
def lA (h i m : Nat) : List S45 := (List.range' i m).map (eA h)
def lB (h i m : Nat) : List S45 := (List.range' i m).map (eB h)
theorem good_all : ((List.range 22).all fun k => (List.range 10).all fun h => (lA h 0 k).all isE && (sortedB (lA h 0 k) && ((lB h 0 k).all isE && sortedB (lB h 0 k)))) = true := by decide +kernel
theorem good_one {k h : Nat} (hk : k < 22) (hh : h < 10) : (lA h 0 k).all isE = true ∧ sortedB (lA h 0 k) = true ∧ (lB h 0 k).all isE = true ∧ sortedB (lB h 0 k) = true := by
  have := List.all_eq_true.1 (List.all_eq_true.1 good_all k (List.mem_range.2 hk)) h (List.mem_range.2 hh)
  simpa [Bool.and_eq_true] using this
theorem be1 {n : Nat} (h : 0 < n) (h2 : n < 256) : (be n).length = 1 := by
  have a := be_ge h
  have b := be_len (k := 1) (n := n) (by omega)
  omega
theorem chr_ne {i j : Nat} (hi : i < 100) (hj : j < 100) (h : i ≠ j) : chr i ≠ chr j := by
  intro e
  have := congrArg UInt8.toNat e
  simp [chr] at this
  omega
theorem shared_rep (h : Nat) {x y : UInt8} (hne : x ≠ y) : sharedL (rep h ++ [x]) (rep h ++ [y]) = h := by
  induction h with
  | zero => simp [rep, sharedL, hne]
  | succ h ih =>
    simp only [rep, List.replicate_succ, List.cons_append, sharedL, if_true]
    exact congrArg (· + 1) ih
theorem val_v : (valL false [118]).length = 4 := by
  simp only [valL, textL, Bool.false_eq_true, if_false, List.length_cons, List.length_append, List.length_nil, numL_len]
  rw [be1 (by omega) (by omega)]
theorem rowA {h i : Nat} (h1 : 1 ≤ h) (h9 : h ≤ 9) (hi : i + 1 < 100) : (rowB (rep h ++ [chr i]) (eA h (i + 1))).length = 11 := by
  have e1 : sharedL (rep h ++ [chr i]) (ky (eA h (i + 1))) = h := shared_rep h (chr_ne (by omega) hi (by omega))
  have e2 : (ky (eA h (i + 1))).length = h + 1 := by simp [eA, mkE_ky, rep]
  have e3 : (valL (eA h (i + 1)).f2 (vl (eA h (i + 1)))).length = 4 := val_v
  have e4 : (eA h (i + 1)).f1.toNat = 1 := rfl
  unfold rowB
  rw [e1, e4]
  simp only [List.length_append, textL, numL_len, List.length_drop, e2, e3]
  rw [be1 (n := h) (by omega) (by omega), be1 (n := h + 1 - h) (by omega) (by omega), be1 (n := 1) (by omega) (by omega)]
  omega
theorem rowB0 {h i : Nat} (ahead : List UInt8) (h9 : h ≤ 9) (e : S45) (e1 : sharedL ahead (ky e) = 0) (e2 : (ky e).length = h + 1) (e3 : (valL e.f2 (vl e)).length = 4) (e4 : e.f1.toNat = 1) : (rowB ahead e).length = h + 10 := by
  unfold rowB
  rw [e1, e4]
  simp only [List.length_append, textL, numL_len, List.length_drop, e2, e3, be_zero, List.length_nil]
  rw [be1 (n := h + 1 - 0) (by omega) (by omega), be1 (n := 1) (by omega) (by omega)]
  omega
theorem wordsA_len {h : Nat} (h1 : 1 ≤ h) (h9 : h ≤ 9) : ∀ m i, i + m < 99 → (wordsB (rep h ++ [chr i]) (lA h (i + 1) m)).length = 11 * m
  | 0, i, _ => rfl
  | m + 1, i, hm => by
    have ih := wordsA_len h1 h9 m (i + 1) (by omega)
    have e : lA h (i + 1) (m + 1) = eA h (i + 1) :: lA h (i + 1 + 1) m := rfl
    rw [e]
    simp only [wordsB, List.length_append]
    rw [rowA h1 h9 (by omega)]
    have : ky (eA h (i + 1)) = rep h ++ [chr (i + 1)] := rfl
    rw [this, ih]
    omega
theorem wordsB_len {h : Nat} (h9 : h ≤ 9) : ∀ m i, i + m < 99 → (wordsB (chr i :: rep h) (lB h (i + 1) m)).length = (h + 10) * m
  | 0, i, _ => rfl
  | m + 1, i, hm => by
    have ih := wordsB_len h9 m (i + 1) (by omega)
    have e : lB h (i + 1) (m + 1) = eB h (i + 1) :: lB h (i + 1 + 1) m := rfl
    have e1 : sharedL (chr i :: rep h) (ky (eB h (i + 1))) = 0 := by
      show sharedL (chr i :: rep h) (chr (i + 1) :: rep h) = 0
      simp only [sharedL]
      rw [if_neg (chr_ne (by omega) (by omega) (by omega))]
    rw [e]
    simp only [wordsB, List.length_append]
    rw [rowB0 (i := i) _ h9 _ e1 (by simp [eB, mkE_ky, rep]) val_v rfl]
    have : ky (eB h (i + 1)) = chr (i + 1) :: rep h := rfl
    rw [this, ih, Nat.mul_succ]
    omega
theorem allA {h k : Nat} (h1 : 1 ≤ h) (h9 : h ≤ 9) (hk : k < 98) : (wordsB [] (lA h 0 (k + 1))).length = h + 10 + 11 * k := by
  have e : lA h 0 (k + 1) = eA h 0 :: lA h (0 + 1) k := rfl
  have e1 : sharedL [] (ky (eA h 0)) = 0 := rfl
  rw [e]
  simp only [wordsB, List.length_append]
  rw [rowB0 (i := 0) _ h9 _ e1 (by simp [eA, mkE_ky, rep]) val_v rfl]
  have : ky (eA h 0) = rep h ++ [chr 0] := rfl
  rw [this, wordsA_len h1 h9 k 0 (by omega)]
theorem allB {h k : Nat} (h9 : h ≤ 9) (hk : k < 98) : (wordsB [] (lB h 0 (k + 1))).length = (h + 10) * (k + 1) := by
  have e : lB h 0 (k + 1) = eB h 0 :: lB h (0 + 1) k := rfl
  have e1 : sharedL [] (ky (eB h 0)) = 0 := rfl
  rw [e]
  simp only [wordsB, List.length_append]
  rw [rowB0 (i := 0) _ h9 _ e1 (by simp [eB, mkE_ky, rep]) val_v rfl]
  have : ky (eB h 0) = chr 0 :: rep h := rfl
  rw [this, wordsB_len h9 k 0 (by omega), Nat.mul_succ]
  omega
theorem lA_snoc (h i : Nat) : lA h 0 i ++ [eA h i] = lA h 0 (i + 1) := by
  unfold lA
  rw [List.range'_concat]
  simp
theorem lB_snoc (h i : Nat) : lB h 0 i ++ [eB h i] = lB h 0 (i + 1) := by
  unfold lB
  rw [List.range'_concat]
  simp
theorem small_l1 (K : Int) (h : Nat) (h9 : h ≤ 9) (i : Nat) (hi : i < 30) (d : Nat) : ∀ j : Nat, h - j = d → j ≤ h →
    Ev (fun k => ravelinlaw8_BlockSmall.l0 k K (h : Int) (lA h 0 (i + 1)) (lB h 0 (i + 1)) ((i + 1 : Nat) : Int)) true →
    Ev (fun k => ravelinlaw8_BlockSmall.l1 k K (h : Int) (lA h 0 i) (lB h 0 i) (i : Int) (S [chr i]) (S (rep j)) (S (chr i :: rep j)) (j : Int)) true := by
  induction d with
  | zero =>
    intro j hd hj E
    obtain rfl : j = h := by omega
    refine Ev.step (fun k => ravelinlaw8_BlockSmall.l1.eq_2 ..) (evF (by omega) ?_)
    have hla : (lA j 0 i).length = i := by simp [lA]
    have hlb : (lB j 0 i).length = i := by simp [lB]
    rw [S_size, S_size]
    refine evT (by simp [rep]; omega) (evT (by omega) (evT (by omega) ?_))
    rw [S_append, w64 (by omega), show (i : Int) + 1 = ((i + 1 : Nat) : Int) by omega]
    have e1 : lA j 0 i ++ [(⟨S (rep j ++ [chr i]), 1, false, (⟨#[118]⟩ : ByteArray)⟩ : S45)] = lA j 0 (i + 1) := lA_snoc j i
    have e2 : lB j 0 i ++ [(⟨S (chr i :: rep j), 1, false, (⟨#[118]⟩ : ByteArray)⟩ : S45)] = lB j 0 (i + 1) := lB_snoc j i
    rw [e1, e2]
    exact E
  | succ d ih =>
    intro j hd hj E
    refine Ev.step (fun k => ravelinlaw8_BlockSmall.l1.eq_2 ..) (evT (by omega) ?_)
    rw [S_size, S_size]
    refine evT (by simp [rep]; omega) (evT (by simp [rep]; omega) ?_)
    rw [show (⟨#[104]⟩ : ByteArray) = S [104] from rfl, S_append, S_append, w64 (by omega), show (j : Int) + 1 = ((j + 1 : Nat) : Int) by omega]
    have e1 : rep j ++ [104] = rep (j + 1) := by unfold rep; rw [List.replicate_succ']
    have e2 : chr i :: rep j ++ [104] = chr i :: rep (j + 1) := by rw [List.cons_append, e1]
    rw [e1, e2]
    exact ih (j + 1) (by omega) (by omega) E
theorem small_end (k h : Nat) (hk : k < 20) (h1 : 1 ≤ h) (h9 : h ≤ 9) :
    Ev (fun n => ravelinlaw8_BlockSmall.l0 n ((k + 2 : Nat) : Int) (h : Int) (lA h 0 (k + 2)) (lB h 0 (k + 2)) ((k + 2 : Nat) : Int)) true := by
  obtain ⟨g1, g2, g3, g4⟩ := good_one (k := k + 2) (h := h) (by omega) (by omega)
  have ea : (wordsB [] (lA h 0 (k + 2))).length = h + 10 + 11 * (k + 1) := allA (k := k + 1) h1 h9 (by omega)
  have eb : (wordsB [] (lB h 0 (k + 2))).length = (h + 10) * (k + 1 + 1) := allB (k := k + 1) h9 (by omega)
  have hla : (lA h 0 (k + 2)).length = k + 2 := by simp [lA]
  have hlb : (lB h 0 (k + 2)).length = k + 2 := by simp [lB]
  have ma : makeB (lA h 0 (k + 2)) = (sealL (wordsB [] (lA h 0 (k + 2))), 0) := by
    unfold makeB
    rw [if_neg (fun hn => by rw [hn] at hla; simp at hla), if_pos g1, if_pos g2]
  have mb : makeB (lB h 0 (k + 2)) = (sealL (wordsB [] (lB h 0 (k + 2))), 0) := by
    unfold makeB
    rw [if_neg (fun hn => by rw [hn] at hlb; simp at hlb), if_pos g3, if_pos g4]
  have hr := readB_make (l := lA h 0 (k + 2)) (by rw [ma]) (by omega)
  rw [ma] at hr
  have hmul : (h + 10) * (k + 1 + 1) = h * k + 2 * h + 10 * k + 20 := by
    rw [Nat.add_mul, Nat.mul_add, Nat.mul_add]; omega
  have hhk : h * k ≤ 9 * 20 := Nat.mul_le_mul h9 (by omega)
  have hhk2 : k ≤ h * k := by have := Nat.mul_le_mul_right k h1; omega
  refine Ev.step (fun n => ravelinlaw8_BlockSmall.l0.eq_2 ..) (evF (by omega) ?_)
  have hn1 := numL_le (n := (wordsB [] (lA h 0 (k + 2))).length) (by omega)
  have hs1 := sealL_len (wordsB [] (lA h 0 (k + 2)))
  have hs2 := sealL_len (wordsB [] (lB h 0 (k + 2)))
  have hmono := be_mono (n := (wordsB [] (lA h 0 (k + 2))).length) (m := (wordsB [] (lB h 0 (k + 2))).length) (by omega)
  rw [numL_len] at hs1 hs2 hn1
  have hn2 := numL_le (n := (wordsB [] (lB h 0 (k + 2))).length) (by omega)
  rw [numL_len] at hn2
  have hA : Ev (fun n => block_Make.f n (lA h 0 (k + 2))) (S (sealL (wordsB [] (lA h 0 (k + 2)))), 0) := evEq (make_ev _ (by omega)) (by rw [ma])
  have hB : Ev (fun n => block_Make.f n (lB h 0 (k + 2))) (S (sealL (wordsB [] (lB h 0 (k + 2)))), 0) := evEq (make_ev _ (by omega)) (by rw [mb])
  have hC : Ev (fun n => block_Read.f n (S (sealL (wordsB [] (lA h 0 (k + 2)))))) (lA h 0 (k + 2), 0) := evEq (bread_ev _ (by omega)) hr
  have hD := same_ev (lA h 0 (k + 2)) (by omega)
  refine evBind hA (evBind hB (evBind hC ?_))
  generalize (wordsB [] (lA h 0 (k + 2))) = wa at *
  generalize (wordsB [] (lB h 0 (k + 2))) = wb at *
  refine evT rfl (evT rfl (evT rfl (evBind hD (evT rfl (evEq (evSome _) ?_)))))
  simp only
  rw [S_size, S_size, decide_eq_true_eq]
  have hp : ((k : Int) + 1) * ((h : Int) - 1) = ((h * k : Nat) : Int) - k + h - 1 := by
    rw [Int.add_mul, Int.mul_sub, Int.natCast_mul, Int.mul_comm (h : Int)]; omega
  rw [w64 (n := ((k + 2 : Nat) : Int) - 1) (by omega), w64 (n := (h : Int) - 1) (by omega), show ((k + 2 : Nat) : Int) - 1 = (k : Int) + 1 by omega, hp]
  rw [w64 (n := ((sealL wb).length : Int) - ((sealL wa).length : Int)) (by omega), w64 (by omega)]
  omega
theorem small_l0 (k h : Nat) (hk : k < 20) (h1 : 1 ≤ h) (h9 : h ≤ 9) (d : Nat) : ∀ i : Nat, k + 2 - i = d → i ≤ k + 2 →
    Ev (fun n => ravelinlaw8_BlockSmall.l0 n ((k + 2 : Nat) : Int) (h : Int) (lA h 0 i) (lB h 0 i) (i : Int)) true := by
  induction d with
  | zero =>
    intro i hd hi
    obtain rfl : i = k + 2 := by omega
    exact small_end k h hk h1 h9
  | succ d ih =>
    intro i hd hi
    refine Ev.step (fun n => ravelinlaw8_BlockSmall.l0.eq_2 ..) (evT (by omega) (evConst rfl ?_))
    have e : strOfNums ([(wrap64 (97 + (i : Int))) % 256] : List Int) = S [chr i] := by
      have h2 : (wrap64 (97 + (i : Int))) % 256 = (((chr i).toNat : Nat) : Int) := by rw [w64 (by omega)]; simp [chr]
      rw [h2]
      exact strOf [chr i]
    rw [e]
    exact small_l1 _ h h9 i (by omega) _ 0 rfl (by omega) (ih (i + 1) (by omega) (by omega))
theorem BlockSmall : ravelinlaw8_BlockSmall.Pure := by
  intro a b ha hb
  have h1 := wf_u8 ha
  have h2 := wf_u8 hb
  obtain ⟨a, rfl⟩ := Int.eq_ofNat_of_zero_le h1.1
  obtain ⟨b, rfl⟩ := Int.eq_ofNat_of_zero_le h2.1
  refine Ev.rounds (Ev.congr (fun k => ravelinlaw8_BlockSmall.f.eq_1 ..) (evBind known8 (evT rfl ?_)))
  have e1 : Int.tmod (a : Int) 20 = ((a % 20 : Nat) : Int) := by rw [Int.tmod_eq_emod_of_nonneg (by omega)]; omega
  have e2 : Int.tmod (b : Int) 9 = ((b % 9 : Nat) : Int) := by rw [Int.tmod_eq_emod_of_nonneg (by omega)]; omega
  rw [e1, e2, w64 (n := ((a % 20 : Nat) : Int)) (by omega), w64 (n := ((b % 9 : Nat) : Int)) (by omega), w64 (by omega), w64 (by omega)]
  exact small_l0 (a % 20) (b % 9 + 1) (by omega) (by omega) (by omega) _ 0 rfl (by omega)
end Go.Proofs.Ythohfmfgijckhaa.Pure
