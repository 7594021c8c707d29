import Derived.Test.YtnjbmcjhhadojaaQItemSpec
namespace Go.Proofs.Ytnjbmcjhhadojaa.P
end Go.Proofs.Ytnjbmcjhhadojaa.P
namespace Go.Proofs.Ytnjbmcjhhadojaa.Q
end Go.Proofs.Ytnjbmcjhhadojaa.Q
namespace Go.Proofs.Ytnjbmcjhhadojaa.Q
open Go.RowKit Go.Proofs.Ytnjbmcjhhadojaa.P Go.Proofs.YtnjbmcjhhadojaaW.PrintWords Go.Proofs.YtnjbmcjhhadojaaW.PrintLast Go.Proofs.YtnjbmcjhhadojaaW.PrintMore
set_option linter.unusedVariables false
set_option linter.unusedSimpArgs false

/-! Batches -/
def inB (s : Int) : Bool := decide (1 ≤ s) && decide (s ≤ 1000000)
def payB (s : Int) (l : List S49) : List UInt8 := numL s.toNat ++ wordsW l
def bytesB (s : Int) (l : List S49) : List UInt8 × Int := if (isB l && inB s) = true then (sealL (payB s l), 0) else ([], 10)
theorem isB_len {l : List S49} (h : isB l = true) : l.length ≤ 8 := by
  unfold isB at h
  simp only [Bool.and_eq_true, decide_eq_true_eq] at h
  exact h.2
theorem isB_all {l : List S49} (h : isB l = true) : ∀ w ∈ l, isWr w = true := by
  unfold isB at h
  simp only [Bool.and_eq_true] at h
  exact rise_all h.1
theorem inB_iff {s : Int} : inB s = true ↔ 1 ≤ s ∧ s ≤ 1000000 := by
  unfold inB
  simp
theorem payB_len (s : Int) {l : List S49} (h : isB l = true) (hs : s ≤ 1000000) : 2 ≤ (payB s l).length ∧ (payB s l).length ≤ 500 := by
  have h1 := isB_len h
  have h2 := isB_all h
  have a1 := numL_le (n := s.toNat) (by omega)
  have a4 := numL_le (n := l.length) (by omega)
  have a5 := rowsW_len h2
  have a6 := numL_len s.toNat
  have a7 := numL_len l.length
  simp only [payB, wordsW, List.length_append]
  omega
theorem bytesB_some {s : Int} {l : List S49} (h : isB l = true) (hs : inB s = true) : bytesB s l = (sealL (payB s l), 0) := by
  unfold bytesB
  rw [h, hs]
  rfl
theorem bytesB_zero {s : Int} {l : List S49} (h : (bytesB s l).2 = 0) : isB l = true ∧ inB s = true := by
  unfold bytesB at h
  split at h
  · rename_i hc
    rwa [Bool.and_eq_true] at hc
  · cases h
def takeB (L : List UInt8) : (Int × List S49) × Int := (((sN L 0 0).1, (takeW L (sN L 0 0).2.1 (sN L 0 0).2.2).1), (takeW L (sN L 0 0).2.1 (sN L 0 0).2.2).2.2)
/-- The batch at the front. -/
def readB (l : List UInt8) : (Int × List S49) × Int × Int :=
  if (openS l).2.2 = 0 then
    (if (takeB (openS l).1).2 = 0 ∧ (bytesB (takeB (openS l).1).1.1 (takeB (openS l).1).1.2).2 = 0 ∧ (bytesB (takeB (openS l).1).1.1 (takeB (openS l).1).1.2).1 = l.take (openS l).2.1.toNat then ((takeB (openS l).1).1, (openS l).2.1, 0) else ((0, []), 0, 10))
  else ((0, []), 0, (openS l).2.2)
theorem readB_ok {l : List UInt8} (h : (readB l).2.2 = 0) : 5 ≤ (readB l).2.1 ∧ (readB l).2.1 ≤ l.length ∧ (readB l).1.2.length ≤ 8 ∧ (0 ≤ (readB l).1.1 ∧ (readB l).1.1 ≤ 1000000) := by
  unfold readB at h ⊢
  by_cases c1 : (openS l).2.2 = 0
  · have ho := openS_ok c1
    rw [if_pos c1] at h ⊢
    by_cases c2 : (takeB (openS l).1).2 = 0 ∧ (bytesB (takeB (openS l).1).1.1 (takeB (openS l).1).1.2).2 = 0 ∧ (bytesB (takeB (openS l).1).1.1 (takeB (openS l).1).1.2).1 = l.take (openS l).2.1.toNat
    · rw [if_pos c2]
      obtain ⟨h1, h2⟩ := bytesB_zero c2.2.1
      have h3 := inB_iff.1 h2
      have h4 := isB_len h1
      exact ⟨ho.2.1, ho.1, h4, by simp only; omega, by simp only; omega⟩
    · rw [if_neg c2] at h
      cases h
  · rw [if_neg c1] at h
    exact absurd h c1
theorem tkW_full (L r : List UInt8) : ∀ (ws : List S49) (f a : Nat) (acc : List S49) (i n : Int), (∀ w ∈ ws, isWr w = true) → L.drop a = rowsW ws ++ r → ws.length < f → n = i + ws.length → tkW L f acc n i a 0 = (acc ++ ws, a + (rowsW ws).length, 0)
  | [], f + 1, a, acc, i, n, _, _, _, hn => by
    rw [tkW, if_neg (by simp at hn; omega), List.append_nil]
    rfl
  | w :: t, f + 1, a, acc, i, n, hw, hd, hf, hn => by
    obtain ⟨h1, h2, h3, h4⟩ := isWr_iff (hw w List.mem_cons_self)
    have e0 : L.drop a = textL (wk w) ++ (valL w.f1 (wv w) ++ (rowsW t ++ r)) := by
      rw [hd]; simp [rowsW, rowW]
    obtain ⟨e1, d1⟩ := sT_at e0 (by omega)
    obtain ⟨e2, d2⟩ := sV_at d1 (by omega) h4
    simp only [List.length_cons] at hn hf
    rw [tkW, if_pos (by omega), e1]
    simp only
    rw [e2]
    simp only
    rw [if_pos trivial, tkW_full L r t f _ _ _ _ (fun x hx => hw x (List.mem_cons_of_mem _ hx)) d2 (by omega) (by omega), mkW_of]
    simp only [List.append_assoc, List.cons_append, List.nil_append, rowsW, rowW, List.length_append, Prod.mk.injEq, true_and, and_true]
    omega
  | _, 0, _, _, _, _, _, _, hf, _ => by omega
theorem rowsW_ge {l : List S49} (h : ∀ w ∈ l, isWr w = true) : l.length ≤ (rowsW l).length := by
  induction l with
  | nil => simp
  | cons x y ih =>
    have q1 := (rowW_len (h x List.mem_cons_self)).1
    have q2 := ih (fun z hz => h z (List.mem_cons_of_mem _ hz))
    simp only [rowsW, List.length_append, List.length_cons]
    omega
theorem takeB_pay {s : Int} {l : List S49} (h : isB l = true) (hs : inB s = true) : takeB (payB s l) = ((s, l), 0) := by
  have h1 := inB_iff.1 hs
  have h2 := isB_len h
  have h3 := isB_all h
  generalize hL : payB s l = L
  have e0 : L.drop 0 = numL s.toNat ++ wordsW l := by rw [← hL]; rfl
  obtain ⟨a1, d1⟩ := sN_at e0 (by omega)
  have d1' : L.drop (0 + (numL s.toNat).length) = numL l.length ++ (rowsW l ++ []) := by rw [d1, List.append_nil]; rfl
  obtain ⟨a2, d2⟩ := sN_at d1' (by omega)
  unfold takeB takeW
  rw [a1]
  simp only
  rw [a2]
  simp only
  have hl2 := congrArg List.length d1'
  rw [List.length_drop, List.length_append, List.length_append] at hl2
  have hge := rowsW_ge h3
  rw [tkW_full L [] l _ _ _ _ _ h3 d2 (by omega) (by omega), List.nil_append]
  simp only [Prod.mk.injEq, and_true]
  omega
theorem readB_bytes {s : Int} {l : List S49} (h : isB l = true) (hs : inB s = true) (r : List UInt8) : readB (sealL (payB s l) ++ r) = ((s, l), ((sealL (payB s l)).length : Int), 0) := by
  have hp := payB_len s h (inB_iff.1 hs).2
  have e := openS_seal (s := payB s l) (by omega) r
  unfold readB
  rw [e]
  simp only
  rw [takeB_pay h hs]
  simp only
  rw [bytesB_some h hs, if_pos trivial, Int.toNat_natCast, List.take_left, if_pos ⟨trivial, rfl, rfl⟩]
theorem readB_cut {s : Int} {l : List S49} (h : isB l = true) (hs : inB s = true) {i : Nat} (hi : i < (sealL (payB s l)).length) : (readB ((sealL (payB s l)).take i)).2.2 = 12 := by
  have hp := payB_len s h (inB_iff.1 hs).2
  unfold readB
  rw [openS_cut (by omega) hi]
  rfl
theorem readB_nil : (readB []).2.2 = 12 := rfl
def entW (s : Int) (w : S49) : S74 := ⟨w.f0, s, w.f1, w.f2⟩
def entB (s : Int) (l : List S49) : List S74 := if isB l = true then l.map (entW s) else []
/-- Batches, one behind the other. -/
def logB (L : List UInt8) : Nat → List S74 → Int → Nat → List S74 × Int × Int
  | 0, acc, last, a => (acc, last, (a : Int))
  | f + 1, acc, last, a => if (readB (L.drop a)).2.2 = 0 then
      (if last > 0 ∧ (readB (L.drop a)).1.1 ≠ last + 1 then (acc, last, (a : Int)) else logB L f (acc ++ entB (readB (L.drop a)).1.1 (readB (L.drop a)).1.2) (readB (L.drop a)).1.1 (a + (readB (L.drop a)).2.1.toNat))
    else (acc, last, (a : Int))
theorem tkW_short (L : List UInt8) (n : Int) (f : Nat) : ∀ (a : Nat) (acc : List S49) (i e : Int), a ≤ L.length → acc.length ≤ a → (tkW L f acc n i a e).1.length ≤ L.length := by
  induction f with
  | zero => intro a acc i e h1 h2; simp only [tkW]; omega
  | succ f ih =>
    intro a acc i e h1 h2
    rw [tkW]
    split
    · have b1 := sT_le L a e h1
      generalize sT L a e = x at *
      have b2 := sV_le L x.2.1 x.2.2 b1.2.1
      have b3 := sV_pos (L := L) (a := x.2.1) (e := x.2.2)
      generalize sV L x.2.1 x.2.2 = y at *
      split
      · rename_i hy
        have b4 := b3 hy
        exact ih _ _ _ _ b2.2.1 (by rw [List.length_append]; simp only [List.length_cons, List.length_nil]; omega)
      · simp only; omega
    · simp only; omega
theorem takeW_len (L : List UInt8) (a : Nat) (e : Int) (h : a ≤ L.length) : (takeW L a e).1.length ≤ L.length := by
  have b := sN_le L a e h
  unfold takeW
  exact tkW_short L _ _ _ _ _ _ b.2.1 (by simp)
/-! The last write of each key -/
def lastW : List S49 → List S49
  | [] => []
  | w :: t => if (t.any fun o => wk o == wk w) = true then lastW t else w :: lastW t
theorem lastW_mem : ∀ (l : List S49) (w : S49), w ∈ lastW l → w ∈ l
  | [], _, h => h
  | x :: t, w, h => by
    unfold lastW at h
    split at h
    · exact List.mem_cons_of_mem _ (lastW_mem t w h)
    · rcases List.mem_cons.1 h with rfl | h
      · exact List.mem_cons_self
      · exact List.mem_cons_of_mem _ (lastW_mem t w h)
theorem lastW_len : ∀ l : List S49, (lastW l).length ≤ l.length
  | [] => Nat.le_refl _
  | x :: t => by
    have := lastW_len t
    unfold lastW
    split
    · rw [List.length_cons]; omega
    · rw [List.length_cons, List.length_cons]; omega
end Go.Proofs.Ytnjbmcjhhadojaa.Q
