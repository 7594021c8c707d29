import Derived.Test.YtdkdnfgpgedglaaQHeapOrd
import Derived.Test.YtdkdnfgpgedglaaQHeapRng
namespace Go.Proofs.Ytdkdnfgpgedglaa.P
end Go.Proofs.Ytdkdnfgpgedglaa.P
namespace Go.Proofs.Ytdkdnfgpgedglaa.Q
end Go.Proofs.Ytdkdnfgpgedglaa.Q
namespace Go.Proofs.Ytdkdnfgpgedglaa.Q
open Go.RowKit Go.Proofs.Ytdkdnfgpgedglaa.P Go.Proofs.YtdkdnfgpgedglaaW.PrintWords Go.Proofs.YtdkdnfgpgedglaaW.PrintLast Go.Proofs.YtdkdnfgpgedglaaW.PrintMore
set_option linter.unusedVariables false
set_option linter.unusedSimpArgs false
/-! Rows of entries with one number: which is at the j-th place -/
def mK (j : Nat) : List UInt8 := [UInt8.ofNat (97 + j / 16), UInt8.ofNat (97 + j % 16)]
def mE (j : Nat) : S29 := ⟨S (mK j), 1, false, ⟨#[]⟩⟩
theorem mE_ky (j : Nat) : ky (mE j) = mK j := rfl
theorem mE_ok (j : Nat) : okE (mE j) = true := rfl
theorem u8_lt {a b : Nat} (ha : a < 256) (hb : b < 256) : (UInt8.ofNat a < UInt8.ofNat b) ↔ a < b := by
  rw [UInt8.lt_iff_toNat_lt]; simp [Nat.mod_eq_of_lt ha, Nat.mod_eq_of_lt hb]
theorem u8_eq {a b : Nat} (ha : a < 256) (hb : b < 256) : (UInt8.ofNat a = UInt8.ofNat b) ↔ a = b := by
  rw [← UInt8.toNat_inj]; simp [Nat.mod_eq_of_lt ha, Nat.mod_eq_of_lt hb]
theorem less2 (a b c d : UInt8) : Op.bytesLess [a, b] [c, d] = (decide (a < c) || (a == c && decide (b < d))) := by
  have h0 : Op.bytesLess [] [] = false := rfl
  rw [Op.bytesLess, Op.bytesLess, h0, Bool.and_false, Bool.or_false]
theorem mK_less {i j : Nat} (hi : i < 256) (hj : j < 256) : Op.bytesLess (mK i) (mK j) = decide (i < j) := by
  unfold mK
  rw [less2]
  have e1 := u8_lt (a := 97 + i / 16) (b := 97 + j / 16) (by omega) (by omega)
  have e2 := u8_eq (a := 97 + i / 16) (b := 97 + j / 16) (by omega) (by omega)
  have e3 := u8_lt (a := 97 + i % 16) (b := 97 + j % 16) (by omega) (by omega)
  by_cases h : i < j
  · rw [decide_eq_true h, Bool.or_eq_true, Bool.and_eq_true, decide_eq_true_iff, decide_eq_true_iff, beq_iff_eq, e1, e2, e3]
    omega
  · rw [decide_eq_false h, Bool.or_eq_false_iff, Bool.and_eq_false_iff, decide_eq_false_iff_not, decide_eq_false_iff_not, beq_eq_false_iff_ne, ne_eq, e1, e2, e3]
    omega
theorem mE_less {i j : Nat} (hi : i < 256) (hj : j < 256) (h : i < j) : lessE (mE i) (mE j) = true := by
  unfold lessE lessF
  rw [mE_ky, mE_ky, mK_less hi hj, decide_eq_true h]; rfl
theorem mE_apart {i j : Nat} (hi : i < 256) (hj : j < 256) (h : i ≠ j) : ¬ KS (mE i) (mE j) := by
  rcases Nat.lt_or_gt_of_ne h with h1 | h1
  · exact less_ne (mE_less hi hj h1)
  · exact fun h2 => less_ne (mE_less hj hi h1) ⟨h2.1.symm, h2.2.symm⟩
def mR (k : Nat) : List S29 := (List.range k).map mE
theorem mR_length (k : Nat) : (mR k).length = k := by simp [mR]
theorem mR_get {k i : Nat} (h : i < k) : (mR k).getD i z29 = mE i := by
  simp [mR, List.getD_eq_getElem?_getD, h]
theorem mR_pw {k : Nat} (h : k ≤ 256) : PW (mR k) := by
  unfold PW mR
  rw [List.pairwise_map]
  have h1 := List.pairwise_lt_range (n := k)
  refine h1.imp_of_mem (fun {a b} ha hb hab => ?_)
  rw [List.mem_range] at ha hb
  exact mE_less (by omega) (by omega) hab
theorem mR_good {k : Nat} (h : k ≤ 256) : Good (mR k) := ⟨mR_pw h, fun e he => by
  obtain ⟨j, _, rfl⟩ := List.mem_map.1 he
  exact mE_ok j⟩
theorem putAll_self {l : List S29} (h : Good l) : putAll [] l = l := by
  refine sorted_uniq (good_all _ good_nil).1 h.1 (fun key s => ?_)
  rw [look_putAll _ key s List.Pairwise.nil, List.filter_eq_self.2 h.2]; rfl
theorem putAll_perm {a b : List S29} (h : UN a) (hp : ∀ e, e ∈ a ↔ e ∈ b) : putAll [] a = putAll [] b := by
  refine sorted_uniq (good_all _ good_nil).1 (good_all _ good_nil).1 (fun key s => ?_)
  rw [look_putAll _ key s List.Pairwise.nil, look_putAll _ key s List.Pairwise.nil]
  congr 1
  refine look_perm (h.filter _) (fun e => ?_) key s
  rw [List.mem_filter, List.mem_filter, hp e]
/-- The order in which they come. -/
def sg (k h i : Nat) : Nat := if h = 1 then k - 1 - i else if h = 2 then (if i % 2 = 1 then k - 1 - i / 2 else i / 2) else i
theorem sg_lt {k h i : Nat} (hi : i < k) : sg k h i < k := by
  unfold sg
  split
  · omega
  · split
    · split <;> omega
    · exact hi
theorem sg_inj {k h i j : Nat} (hi : i < k) (hj : j < k) (e : sg k h i = sg k h j) : i = j := by
  unfold sg at e
  split at e
  · omega
  · split at e
    · split at e <;> split at e <;> omega
    · exact e
theorem sg_sur {k h j : Nat} (hj : j < k) : ∃ i, i < k ∧ sg k h i = j := by
  unfold sg
  by_cases h1 : h = 1
  · exact ⟨k - 1 - j, by omega, by rw [if_pos h1]; omega⟩
  · by_cases h2 : h = 2
    · by_cases h3 : 2 * j < k
      · exact ⟨2 * j, h3, by rw [if_neg h1, if_pos h2, if_neg (by omega)]; omega⟩
      · exact ⟨2 * (k - 1 - j) + 1, by omega, by rw [if_neg h1, if_pos h2, if_pos (by omega)]; omega⟩
    · exact ⟨j, hj, by rw [if_neg h1, if_neg h2]⟩
/-- The first q of them, as they come. -/
def mS (k h q : Nat) : List S29 := (List.range q).map (fun i => mE (sg k h i))
theorem mS_succ (k h q : Nat) : mS k h (q + 1) = mS k h q ++ [mE (sg k h q)] := by simp [mS, List.range_succ]
theorem mS_new {k h q : Nat} (hk : k ≤ 256) (hq : q < k) : putB (putAll [] (mS k h q)) (mE (sg k h q)) = true := by
  rw [putB_eq (good_all _ good_nil).1, mE_ok, Bool.true_and, look_putAll _ _ _ List.Pairwise.nil, look_nil, Option.none_or, look_none]
  · rfl
  · intro e he
    obtain ⟨i, hi, rfl⟩ := List.mem_map.1 (List.mem_filter.1 he).1
    rw [List.mem_range] at hi
    have a1 := sg_lt (h := h) (show i < k by omega)
    have a2 := sg_lt (h := h) hq
    exact mE_apart (by omega) (by omega) (fun e => by have := sg_inj (by omega) hq e; omega)
theorem mS_put (k h q : Nat) : putE (putAll [] (mS k h q)) (mE (sg k h q)) = putAll [] (mS k h (q + 1)) := by rw [mS_succ, putAll_snoc]
theorem mS_all {k h : Nat} (hk : k ≤ 256) : putAll [] (mS k h k) = mR k := by
  rw [← putAll_self (mR_good hk)]
  symm
  refine putAll_perm ?_ (fun e => ?_)
  · exact (mR_pw hk).imp (fun {a b} hh => less_ne hh)
  · unfold mR mS
    rw [List.mem_map, List.mem_map]
    constructor
    · rintro ⟨j, hj, rfl⟩
      rw [List.mem_range] at hj
      obtain ⟨i, hi, rfl⟩ := sg_sur (h := h) hj
      exact ⟨i, List.mem_range.2 hi, rfl⟩
    · rintro ⟨i, hi, rfl⟩
      rw [List.mem_range] at hi
      exact ⟨sg k h i, List.mem_range.2 (sg_lt hi), rfl⟩
theorem mR_sum : ∀ k : Nat, sumE (mR k) = 2 * (k : Int)
  | 0 => rfl
  | k + 1 => by
    have h := mR_sum k
    unfold mR at h ⊢
    rw [List.range_succ, List.map_append, sumE_append, h]
    have : sumE [mE k] = 2 := rfl
    rw [List.map_singleton, this]; omega
theorem mR_there {k : Nat} (h : k ≤ 256) (hk : 0 < k) : putB (mR k) (mE 0) = false := by
  rw [putB_eq (mR_pw h), mE_ok, Bool.true_and]
  have h0 : mE 0 ∈ mR k := List.mem_map.2 ⟨0, List.mem_range.2 hk, rfl⟩
  obtain ⟨x, hx⟩ := look_isSome h0
  rw [hx]; rfl
theorem in_b {j : Nat} (hj : j < 256) : (!(ltK [98] (mE j)) && inK [99] (mE j)) = decide (16 ≤ j ∧ j < 32) := by
  have a1 : ltK [98] (mE j) = decide (97 + j / 16 < 98) := by
    show Op.bytesLess (mK j) [98] = _
    unfold mK
    have e1 := u8_lt (a := 97 + j / 16) (b := 98) (by omega) (by omega)
    have e2 := u8_eq (a := 97 + j / 16) (b := 98) (by omega) (by omega)
    have h0 : Op.bytesLess [UInt8.ofNat (97 + j % 16)] [] = false := rfl
    rw [Op.bytesLess, h0, Bool.and_false, Bool.or_false]
    exact decide_eq_decide.2 e1
  have a2 : inK [99] (mE j) = decide (97 + j / 16 < 99) := by
    show Op.bytesLess (mK j) [99] = _
    unfold mK
    have e1 := u8_lt (a := 97 + j / 16) (b := 99) (by omega) (by omega)
    have h0 : Op.bytesLess [UInt8.ofNat (97 + j % 16)] [] = false := rfl
    rw [Op.bytesLess, h0, Bool.and_false, Bool.or_false]
    exact decide_eq_decide.2 e1
  rw [a1, a2]
  by_cases h1 : 16 ≤ j
  · by_cases h2 : j < 32
    · rw [decide_eq_false (by omega), decide_eq_true (by omega), decide_eq_true ⟨h1, h2⟩]; rfl
    · rw [decide_eq_false (show ¬ (97 + j / 16 < 99) by omega), decide_eq_false (show ¬ (16 ≤ j ∧ j < 32) from fun h => h2 h.2), Bool.and_false]
  · rw [decide_eq_true (show 97 + j / 16 < 98 by omega), decide_eq_false (show ¬ (16 ≤ j ∧ j < 32) from fun h => h1 h.1)]; rfl
theorem mR_range : ∀ {k : Nat}, k ≤ 256 → ((rangeE (mR k) [98] [99]).length : Int) = max 0 (min 16 ((k : Int) - 16))
  | 0, _ => rfl
  | k + 1, h => by
    have ih := mR_range (k := k) (by omega)
    rw [range_filter _ _ (mR_good h)]
    rw [range_filter _ _ (mR_good (by omega))] at ih
    unfold mR at ih ⊢
    rw [List.range_succ, List.map_append, List.filter_append, List.length_append, Int.natCast_add, ih, List.map_singleton, List.filter_cons, in_b (by omega), List.filter_nil]
    by_cases h1 : 16 ≤ k ∧ k < 32
    · rw [if_pos (by rw [decide_eq_true h1])]
      simp only [List.length_cons, List.length_nil]
      omega
    · rw [if_neg (by rw [decide_eq_false h1]; simp)]
      simp only [List.length_nil]
      omega
end Go.Proofs.Ytdkdnfgpgedglaa.Q
