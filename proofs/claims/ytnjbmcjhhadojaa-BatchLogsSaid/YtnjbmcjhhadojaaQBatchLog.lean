import Derived.Test.YtnjbmcjhhadojaaQBatchSpec
namespace Go.Proofs.Ytnjbmcjhhadojaa.P
end Go.Proofs.Ytnjbmcjhhadojaa.P
namespace Go.Proofs.Ytnjbmcjhhadojaa.Q
end Go.Proofs.Ytnjbmcjhhadojaa.Q
namespace Go.Proofs.Ytnjbmcjhhadojaa.Q
open Go.RowKit Go.Proofs.Ytnjbmcjhhadojaa.P Go.Proofs.YtnjbmcjhhadojaaW.PrintWords Go.Proofs.YtnjbmcjhhadojaaW.PrintLast Go.Proofs.YtnjbmcjhhadojaaW.PrintMore
set_option linter.unusedVariables false
set_option linter.unusedSimpArgs false

/-! Batches, one behind the other, are read back -/
def encB : List (Int × List S49) → List UInt8
  | [] => []
  | b :: t => sealL (payB b.1 b.2) ++ encB t
def entsB : List (Int × List S49) → List S74
  | [] => []
  | b :: t => entB b.1 b.2 ++ entsB t
def lastB (last : Int) : List (Int × List S49) → Int
  | [] => last
  | b :: t => lastB b.1 t
def chainB (last : Int) : List (Int × List S49) → Prop
  | [] => True
  | b :: t => (last > 0 → b.1 = last + 1) ∧ isB b.2 = true ∧ inB b.1 = true ∧ chainB b.1 t
def stopB (last : Int) (r : List UInt8) : Prop := (readB r).2.2 ≠ 0 ∨ (last > 0 ∧ (readB r).1.1 ≠ last + 1)
theorem encB_append (a b : List (Int × List S49)) : encB (a ++ b) = encB a ++ encB b := by
  induction a with
  | nil => rfl
  | cons x t ih => simp only [List.cons_append, encB, ih, List.append_assoc]
theorem entsB_append (a b : List (Int × List S49)) : entsB (a ++ b) = entsB a ++ entsB b := by
  induction a with
  | nil => rfl
  | cons x t ih => simp only [List.cons_append, entsB, ih, List.append_assoc]
theorem logB_run (L : List UInt8) : ∀ (bs : List (Int × List S49)) (f : Nat) (acc : List S74) (last : Int) (a : Nat) (r : List UInt8), L.drop a = encB bs ++ r → bs.length < f → chainB last bs → stopB (lastB last bs) r →
    logB L f acc last a = (acc ++ entsB bs, lastB last bs, ((a + (encB bs).length : Nat) : Int))
  | [], f + 1, acc, last, a, r, hd, _, _, hs => by
    have hd : L.drop a = r := hd
    rw [logB, hd]
    have he : (acc, last, (a : Int)) = (acc ++ entsB [], lastB last [], ((a + (encB []).length : Nat) : Int)) := by simp [entsB, lastB, encB]
    by_cases c : (readB r).2.2 = 0
    · rw [if_pos c]
      rcases hs with hs | hs
      · exact absurd c hs
      · rw [if_pos (show last > 0 ∧ (readB r).1.1 ≠ last + 1 from hs)]
        exact he
    · rw [if_neg c]
      exact he
  | b :: t, f + 1, acc, last, a, r, hd, hf, hc, hs => by
    obtain ⟨c1, c2, c3, c4⟩ := hc
    have hd2 : L.drop a = sealL (payB b.1 b.2) ++ (encB t ++ r) := by rw [hd, encB, List.append_assoc]
    have hd3 : L.drop (a + (sealL (payB b.1 b.2)).length) = encB t ++ r := by rw [← List.drop_drop, hd2, List.drop_left]
    rw [logB, hd2, readB_bytes c2 c3, if_pos rfl, if_neg (by rintro ⟨h1, h2⟩; exact h2 (c1 h1))]
    simp only [Int.toNat_natCast]
    simp only [List.length_cons] at hf
    rw [logB_run L t f _ _ _ r hd3 (by omega) c4 hs]
    simp only [entsB, lastB, encB, List.append_assoc, List.length_append, Prod.mk.injEq, true_and]
    omega
  | _, 0, _, _, _, _, _, hf, _, _ => by omega
theorem encB_ge (bs : List (Int × List S49)) : bs.length ≤ (encB bs).length := by
  induction bs with
  | nil => simp
  | cons b t ih =>
    have := sealL_len (payB b.1 b.2)
    simp only [encB, List.length_append, List.length_cons]
    omega
/-! A row of batches by number -/
def seqN (q j i : Nat) : Int := (q : Int) + 1 + i + (if 0 < j ∧ j ≤ i then 1 else 0)
def batN (g : Nat → List S49) (q j i : Nat) : Int × List S49 := (seqN q j i, g i)
def fromN (g : Nat → List S49) (q j s k : Nat) : List (Int × List S49) := (List.range' s k).map (batN g q j)
theorem fromN_succ (g : Nat → List S49) (q j s k : Nat) : fromN g q j s (k + 1) = batN g q j s :: fromN g q j (s + 1) k := by simp [fromN, List.range'_succ]
theorem fromN_add (g : Nat → List S49) (q j s a b : Nat) : fromN g q j s (a + b) = fromN g q j s a ++ fromN g q j (s + a) b := by
  simp only [fromN, ← List.map_append, List.range'_append_1]
theorem fromN_len (g : Nat → List S49) (q j s k : Nat) : (fromN g q j s k).length = k := by simp [fromN]
def enN (g : Nat → List S49) (q j i : Nat) : List UInt8 := encB (fromN g q j 0 i)
theorem enN_add (g : Nat → List S49) (q j a b : Nat) : enN g q j (a + b) = enN g q j a ++ encB (fromN g q j a b) := by
  unfold enN
  rw [fromN_add, encB_append, Nat.zero_add]
theorem enN_succ (g : Nat → List S49) (q j a : Nat) : enN g q j (a + 1) = enN g q j a ++ sealL (payB (seqN q j a) (g a)) := by
  rw [enN_add, fromN_succ]
  simp [encB, fromN, batN]
theorem seqN_in (q j i : Nat) (hq : q ≤ 65535) (hi : i ≤ 20) : inB (seqN q j i) = true := by
  rw [inB_iff]
  unfold seqN
  split <;> omega
theorem chain_from (g : Nat → List S49) (q j : Nat) {n : Nat} (hq : q ≤ 65535) (hn : n ≤ 10) (hok : ∀ i, i < n → isB (g i) = true) : ∀ (k s : Nat) (last : Int), s + k ≤ n → (∀ i, i < s + k → ¬ (0 < j ∧ j ≤ i)) → (s = 0 ∧ last = 0 ∨ last = (q : Int) + s) → chainB last (fromN g q j s k) ∧ lastB last (fromN g q j s k) = if k = 0 then last else (q : Int) + s + k
  | 0, s, last, _, _, _ => by simp [fromN, chainB, lastB]
  | k + 1, s, last, hs, hj, hl => by
    have e : seqN q j s = (q : Int) + 1 + s := by
      unfold seqN
      rw [if_neg (hj s (by omega))]
      omega
    obtain ⟨h1, h2⟩ := chain_from g q j hq hn hok k (s + 1) (seqN q j s) (by omega) (fun i hi => hj i (by omega)) (.inr (by rw [e]; omega))
    rw [fromN_succ]
    refine ⟨⟨fun hp => ?_, hok s (by omega), seqN_in q j s hq (by omega), h1⟩, ?_⟩
    · show seqN q j s = last + 1
      rw [e]
      rcases hl with ⟨_, h⟩ | h <;> omega
    · show lastB (seqN q j s) _ = _
      have e3 : (if k + 1 = 0 then last else (q : Int) + s + ((k + 1 : Nat) : Int)) = (q : Int) + s + ((k + 1 : Nat) : Int) := if_neg (by omega)
      rw [h2, e3]
      by_cases hk : k = 0
      · rw [if_pos hk, e]; omega
      · rw [if_neg hk]; omega
theorem enN_le (g : Nat → List S49) (q j : Nat) {n : Nat} (hq : q ≤ 65535) (hn : n ≤ 10) (hok : ∀ i, i < n → isB (g i) = true) : ∀ i, i ≤ n → (enN g q j i).length ≤ 520 * i
  | 0, _ => by simp [enN, fromN, encB]
  | i + 1, h => by
    have h1 := enN_le g q j hq hn hok i (by omega)
    have h2 := payB_len (seqN q j i) (hok i (by omega)) (inB_iff.1 (seqN_in q j i hq (by omega))).2
    have h3 := sealL_len (payB (seqN q j i) (g i))
    have h4 := numL_le (n := (payB (seqN q j i) (g i)).length) (by omega)
    rw [enN_succ, List.length_append]
    omega
theorem ents_len (g : Nat → List S49) (q j : Nat) {n : Nat} (hok : ∀ i, i < n → isB (g i) = true) : ∀ i, i ≤ n → (entsB (fromN g q j 0 (i + 0))).length ≤ 8 * i
  | 0, _ => by simp [fromN, entsB]
  | i + 1, h => by
    have h1 := ents_len g q j hok i (by omega)
    have h2 := isB_len (hok i (by omega))
    rw [Nat.add_zero] at h1 ⊢
    rw [fromN_add, entsB_append, List.length_append, fromN_succ]
    simp only [entsB, fromN, List.range'_zero, List.map_nil, List.append_nil, batN, Nat.zero_add, entB]
    rw [if_pos (hok i (by omega)), List.length_map]
    simp only [fromN] at h1
    omega
theorem ents_succ (g : Nat → List S49) (q j : Nat) {n : Nat} (hok : ∀ i, i < n → isB (g i) = true) (i : Nat) (h : i < n) : (entsB (fromN g q j 0 (i + 1))).length = (entsB (fromN g q j 0 i)).length + (g i).length := by
  rw [fromN_add, entsB_append, List.length_append, fromN_succ]
  simp only [entsB, fromN, List.range'_zero, List.map_nil, List.append_nil, batN, Nat.zero_add, entB]
  rw [if_pos (hok i h), List.length_map]
/-- What stands behind the batches that are in a row stops the reading, whole or cut. -/
theorem log_at (g : Nat → List S49) (q j : Nat) {n : Nat} (hq : q ≤ 65535) (hn : n ≤ 10) (hok : ∀ i, i < n → isB (g i) = true) {W : Nat} (hW : W ≤ n) (hno : ∀ i, i < W → ¬ (0 < j ∧ j ≤ i)) (hj : W < n → 0 < j ∧ W = j) (c t f : Nat) (ht : t ≤ W) (hc : (enN g q j t).length ≤ c) (hc2 : t = W ∨ c < (enN g q j (t + 1)).length) (hc3 : c ≤ (enN g q j n).length) (hf : t < f) :
    logB ((enN g q j n).take c) f [] 0 0 = (entsB (fromN g q j 0 t), (if t = 0 then 0 else (q : Int) + t), ((enN g q j t).length : Int)) := by
  obtain ⟨k1, k2⟩ := chain_from g q j hq hn hok t 0 0 (by omega) (fun i hi => hno i (by omega)) (.inl ⟨rfl, rfl⟩)
  have e : (enN g q j n).take c = encB (fromN g q j 0 t) ++ (encB (fromN g q j t (n - t))).take (c - (enN g q j t).length) := by
    rw [show n = t + (n - t) by omega, enN_add, List.take_append, List.take_of_length_le hc, show t + (n - t) - t = n - t by omega]
    rfl
  have hs : stopB (lastB 0 (fromN g q j 0 t)) ((encB (fromN g q j t (n - t))).take (c - (enN g q j t).length)) := by
    by_cases hn2 : t = n
    · rw [show n - t = 0 by omega]
      left
      rw [show encB (fromN g q j t 0) = [] from rfl, List.take_nil, readB_nil]
      decide
    · obtain ⟨m, hm⟩ : ∃ m, n - t = m + 1 := ⟨n - t - 1, by omega⟩
      rw [hm, fromN_succ]
      have hb := hok t (by omega)
      have hi := seqN_in q j t hq (by omega)
      show stopB _ ((sealL (payB (seqN q j t) (g t)) ++ encB (fromN g q j (t + 1) m)).take _)
      by_cases hd : c - (enN g q j t).length < (sealL (payB (seqN q j t) (g t))).length
      · left
        rw [List.take_append_of_le_length (by omega), readB_cut hb hi hd]
        decide
      · right
        have htW : t = W := by
          rcases hc2 with h | h
          · exact h
          · rw [enN_succ, List.length_append] at h; omega
        obtain ⟨j1, j2⟩ := hj (by omega)
        rw [List.take_append, List.take_of_length_le (by omega), readB_bytes hb hi, k2, if_neg (by omega)]
        refine ⟨by omega, ?_⟩
        show seqN q j t ≠ _
        unfold seqN
        rw [if_pos ⟨j1, by omega⟩]
        omega
  rw [logB_run _ (fromN g q j 0 t) f [] 0 0 _ (by rw [List.drop_zero]; exact e) (by rw [fromN_len]; exact hf) k1 hs, k2, List.nil_append, Nat.zero_add]
  simp [enN]
end Go.Proofs.Ytnjbmcjhhadojaa.Q
