import Derived.Test.YtkmbgihfdfgmgaaQCellSpec
namespace Go.Proofs.Ytkmbgihfdfgmgaa.P
end Go.Proofs.Ytkmbgihfdfgmgaa.P
namespace Go.Proofs.Ytkmbgihfdfgmgaa.Q
end Go.Proofs.Ytkmbgihfdfgmgaa.Q
namespace Go.Proofs.Ytkmbgihfdfgmgaa.Q
open Go.RowKit Go.Proofs.Ytkmbgihfdfgmgaa.P Go.Proofs.YtkmbgihfdfgmgaaW.PrintWords Go.Proofs.YtkmbgihfdfgmgaaW.PrintLast Go.Proofs.YtkmbgihfdfgmgaaW.PrintMore
set_option linter.unusedVariables false
set_option linter.unusedSimpArgs false

/-- The two rests behind bytes. -/
def step2 (p : Nat × Nat) (c : UInt8) : Nat × Nat := ((p.1 + c.toNat) % 65521, (p.2 + (p.1 + c.toNat) % 65521) % 65521)
def sums (l : List UInt8) : Nat × Nat := l.foldl step2 (1, 0)
def sumN (l : List UInt8) : Nat := (sums l).2 * 65536 + (sums l).1
def fourL (n : Nat) : List UInt8 := [UInt8.ofNat (n / 16777216), UInt8.ofNat (n / 65536), UInt8.ofNat (n / 256), UInt8.ofNat n]
def sealL (s : List UInt8) : List UInt8 := numL s.length ++ (fourL (sumN s) ++ s)
theorem sums_lt (l : List UInt8) : (sums l).1 < 65521 ∧ (sums l).2 < 65521 := by
  rcases List.eq_nil_or_concat l with rfl | ⟨t, b, rfl⟩
  · simp [sums]
  · simp only [sums, List.concat_eq_append, List.foldl_append, List.foldl_cons, List.foldl_nil, step2]
    exact ⟨Nat.mod_lt _ (by omega), Nat.mod_lt _ (by omega)⟩
theorem sumN_lt (l : List UInt8) : sumN l < 4294967296 := by have := sums_lt l; unfold sumN; omega
theorem sumN_inj {a b : List UInt8} (h : sumN a = sumN b) : sums a = sums b := by
  have h1 := sums_lt a
  have h2 := sums_lt b
  unfold sumN at h
  exact Prod.ext (by omega) (by omega)
theorem fourL_len (n : Nat) : (fourL n).length = 4 := rfl
theorem fourL_inj {n m : Nat} (hn : n < 4294967296) (hm : m < 4294967296) (h : fourL n = fourL m) : n = m := by
  simp only [fourL, List.cons.injEq, and_true] at h
  obtain ⟨h1, h2, h3, h4⟩ := h
  have e1 := congrArg UInt8.toNat h1
  have e2 := congrArg UInt8.toNat h2
  have e3 := congrArg UInt8.toNat h3
  have e4 := congrArg UInt8.toNat h4
  simp at e1 e2 e3 e4
  omega
theorem sealL_len (s : List UInt8) : (sealL s).length = (numL s.length).length + 4 + s.length := by simp [sealL, fourL_len]; omega
/-- What is sealed at the front. -/
def openS (l : List UInt8) : List UInt8 × Int × Int :=
  if (takeNum l).2.2 = 12 then ([], 0, 12)
  else if (takeNum l).2.2 = 0 then
    (if (l.length : Int) - (takeNum l).2.1 < 4 then ([], 0, 12)
    else if (takeNum l).1 > (l.length : Int) - (takeNum l).2.1 - 4 then ([], 0, 12)
    else if (l.drop (takeNum l).2.1.toNat).take 4 = fourL (sumN ((l.drop ((takeNum l).2.1.toNat + 4)).take (takeNum l).1.toNat)) then
      ((l.drop ((takeNum l).2.1.toNat + 4)).take (takeNum l).1.toNat, (takeNum l).2.1 + 4 + (takeNum l).1, 0)
    else ([], 0, 13))
  else ([], 0, 13)
theorem openS_seal {s : List UInt8} (h : s.length < 9223372036854775808) (r : List UInt8) : openS (sealL s ++ r) = (s, ((sealL s).length : Int), 0) := by
  have e : takeNum (sealL s ++ r) = ((s.length : Int), ((numL s.length).length : Int), 0) := by
    rw [sealL, List.append_assoc]; exact takeNum_num h _
  have d1 : (sealL s ++ r).drop (numL s.length).length = fourL (sumN s) ++ (s ++ r) := by
    rw [sealL, List.append_assoc, List.drop_left, List.append_assoc]
  have d2 : (sealL s ++ r).drop ((numL s.length).length + 4) = s ++ r := by
    rw [← List.drop_drop, d1]; rfl
  have hl : ((sealL s ++ r).length : Int) = (numL s.length).length + 4 + s.length + r.length := by
    rw [List.length_append, sealL_len]; omega
  unfold openS
  rw [e]
  simp only [Int.toNat_natCast]
  rw [if_neg (by omega), if_pos trivial, if_neg (by omega), if_neg (by omega), d1, d2]
  have t1 : (fourL (sumN s) ++ (s ++ r)).take 4 = fourL (sumN s) := rfl
  have t2 : (s ++ r).take s.length = s := by simp
  rw [t1, t2, if_pos rfl, sealL_len]
  simp
theorem openS_inv {l s : List UInt8} {k : Int} (h : openS l = (s, k, 0)) : s.length < 9223372036854775808 ∧ k = (sealL s).length ∧ ∃ r, l = sealL s ++ r := by
  unfold openS at h
  split at h
  · simp at h
  · split at h
    · rename_i h0
      obtain ⟨n, r, h1, h2, h3, h4⟩ := takeNum_inv (l := l) (a := (takeNum l).1) (k := (takeNum l).2.1) (by rw [← h0])
      have hlen : l.length = (numL n).length + r.length := by rw [h2, List.length_append]
      split at h
      · simp at h
      · rename_i hg1
        split at h
        · simp at h
        · rename_i hg2
          split at h
          · rename_i hs
            simp only [Prod.mk.injEq, and_true] at h
            rw [h3, h4] at h hs hg2
            rw [h4] at hg1
            simp only [Int.toNat_natCast] at h hs
            have d1 : l.drop (numL n).length = r := by rw [h2, List.drop_left]
            rw [← List.drop_drop, d1] at h hs
            have hsl : s.length = n := by rw [← h.1, List.length_take, List.length_drop]; omega
            rw [h.1] at hs
            refine ⟨by omega, ?_, (r.drop 4).drop n, ?_⟩
            · rw [← h.2, sealL_len, hsl]; omega
            · have e : s ++ (r.drop 4).drop n = r.drop 4 := by rw [← h.1, List.take_append_drop]
              rw [sealL, hsl, List.append_assoc, List.append_assoc, e, ← hs, List.take_append_drop, h2]
          · simp at h
    · simp at h
theorem openS_zero {l : List UInt8} (h : (openS l).2.2 ≠ 0) : (openS l).1 = [] ∧ (openS l).2.1 = 0 ∧ ((openS l).2.2 = 12 ∨ (openS l).2.2 = 13) := by
  unfold openS at h ⊢
  repeat' split
  all_goals simp_all
theorem openS_ok {l : List UInt8} (h : (openS l).2.2 = 0) : l.length ≥ (openS l).2.1 ∧ 5 ≤ (openS l).2.1 ∧ (openS l).1.length + 5 ≤ (openS l).2.1 := by
  obtain ⟨h1, h2, r, h3⟩ := openS_inv (l := l) (s := (openS l).1) (k := (openS l).2.1) (by rw [← h])
  have h4 := sealL_len (openS l).1
  have h5 := numL_len (openS l).1.length
  have h6 := congrArg List.length h3
  rw [List.length_append] at h6
  omega
theorem openS_cut {s : List UInt8} (h : s.length < 9223372036854775808) {i : Nat} (hi : i < (sealL s).length) : openS ((sealL s).take i) = ([], 0, 12) := by
  have hl := sealL_len s
  unfold openS
  by_cases hc : i < (numL s.length).length
  · have e : takeNum ((sealL s).take i) = (0, 0, 12) := by
      rw [sealL, List.take_append_of_le_length (by omega)]; exact takeNum_cut h hc
    rw [e]; simp
  · have e : takeNum ((sealL s).take i) = ((s.length : Int), ((numL s.length).length : Int), 0) := by
      rw [sealL, List.take_append, List.take_of_length_le (by omega)]; exact takeNum_num h _
    rw [e]
    have hlen : (((sealL s).take i).length : Int) = i := by rw [List.length_take]; omega
    rw [if_neg (by simp), if_pos rfl]
    by_cases hd : (i : Int) - ((numL s.length).length : Int) < 4
    · rw [if_pos (by simp only [hlen]; exact hd)]
    · rw [if_neg (by simp only [hlen]; exact hd), if_pos (by simp only [hlen]; omega)]
/-- All that is sealed, one behind the other. -/
def allS (l : List UInt8) : List (List UInt8) × Nat :=
  if h : (openS l).2.2 = 0 then ((openS l).1 :: (allS (l.drop (openS l).2.1.toNat)).1, (openS l).2.1.toNat + (allS (l.drop (openS l).2.1.toNat)).2) else ([], 0)
  termination_by l.length
  decreasing_by all_goals (have := openS_ok h; rw [List.length_drop]; omega)
theorem allS_le (n : Nat) : ∀ l : List UInt8, l.length ≤ n → (allS l).2 ≤ l.length ∧ (allS l).1.length ≤ l.length := by
  induction n with
  | zero =>
    intro l hl
    rw [allS]
    split
    · rename_i h; have := openS_ok h; omega
    · simp
  | succ n ih =>
    intro l hl
    rw [allS]
    split
    · rename_i h
      have h1 := openS_ok h
      have h2 := ih (l.drop (openS l).2.1.toNat) (by rw [List.length_drop]; omega)
      rw [List.length_drop] at h2
      simp only [List.length_cons]
      omega
    · simp
/-! What one byte turns -/
theorem fold_shift (l : List UInt8) : ∀ (p q : Nat × Nat), p.1 = q.1 → p.2 < 65521 → q.2 < 65521 → (l.foldl step2 p = l.foldl step2 q ↔ p = q) := by
  induction l with
  | nil => intro p q _ _ _; rfl
  | cons c l ih =>
    intro p q h h1 h2
    simp only [List.foldl_cons]
    rw [ih _ _ (by simp [step2, h]) (Nat.mod_lt _ (by omega)) (Nat.mod_lt _ (by omega))]
    obtain ⟨a, b⟩ := p
    obtain ⟨a', b'⟩ := q
    simp only at h h1 h2
    subst h
    simp only [step2, Prod.mk.injEq, true_and]
    omega
theorem fold_first (l : List UInt8) : ∀ (p q : Nat × Nat), p.1 < 65521 → q.1 < 65521 → ((l.foldl step2 p).1 = (l.foldl step2 q).1 ↔ p.1 = q.1) := by
  induction l with
  | nil => intro p q _ _; rfl
  | cons c l ih =>
    intro p q h1 h2
    simp only [List.foldl_cons]
    rw [ih _ _ (Nat.mod_lt _ (by omega)) (Nat.mod_lt _ (by omega))]
    simp only [step2]
    omega
theorem sums_one (u v : List UInt8) (c d : UInt8) : sumN (u ++ [c] ++ v) = sumN (u ++ [d] ++ v) ↔ c = d := by
  constructor
  · intro h
    have h1 := sumN_inj h
    have h2 := congrArg Prod.fst h1
    simp only [sums, List.foldl_append, List.foldl_cons, List.foldl_nil] at h2
    rw [fold_first _ _ _ (Nat.mod_lt _ (by omega)) (Nat.mod_lt _ (by omega))] at h2
    have h3 := (sums_lt u).1
    simp only [sums] at h3
    simp only [step2] at h2
    have hc := c.toNat_lt
    have hd := d.toNat_lt
    exact UInt8.toNat_inj.1 (by omega)
  · rintro rfl; rfl
theorem sums_two (u v : List UInt8) (c d : UInt8) : sumN (u ++ [c, d] ++ v) = sumN (u ++ [d, c] ++ v) ↔ c = d := by
  constructor
  · intro h
    have h1 := sumN_inj h
    simp only [sums, List.foldl_append, List.foldl_cons, List.foldl_nil] at h1
    have hc := c.toNat_lt
    have hd := d.toNat_lt
    rw [fold_shift _ _ _ (by simp only [step2]; omega) (Nat.mod_lt _ (by omega)) (Nat.mod_lt _ (by omega))] at h1
    have h3 := sums_lt u
    simp only [sums] at h3
    have h2 := congrArg Prod.snd h1
    simp only [step2] at h2
    exact UInt8.toNat_inj.1 (by omega)
  · rintro rfl; rfl
end Go.Proofs.Ytkmbgihfdfgmgaa.Q
