import Derived.Test.YtkmbgihfdfgmgaaQSealSpec
namespace Go.Proofs.Ytkmbgihfdfgmgaa.P
end Go.Proofs.Ytkmbgihfdfgmgaa.P
namespace Go.Proofs.Ytkmbgihfdfgmgaa.Q
end Go.Proofs.Ytkmbgihfdfgmgaa.Q
namespace Go.Proofs.Ytkmbgihfdfgmgaa.Q
open Go.RowKit Go.Proofs.Ytkmbgihfdfgmgaa.P Go.Proofs.YtkmbgihfdfgmgaaW.PrintWords Go.Proofs.YtkmbgihfdfgmgaaW.PrintLast Go.Proofs.YtkmbgihfdfgmgaaW.PrintMore
set_option linter.unusedVariables false
set_option linter.unusedSimpArgs false

/-! Sealed bytes of which one is another one -/
theorem seal_turn {w w' u v : List UInt8} {c d : UInt8} (hw : w.length < 9223372036854775808) (hw' : w'.length < 9223372036854775808) (h1 : sealL w = u ++ ([c] ++ v)) (h2 : sealL w' = u ++ ([d] ++ v)) : c = d := by
  have hl : w.length = w'.length := by
    have e1 := congrArg List.length h1
    have e2 := congrArg List.length h2
    rw [sealL_len, numL_len] at e1 e2
    simp only [List.length_append, List.length_cons, List.length_nil] at e1 e2
    rcases Nat.lt_trichotomy w.length w'.length with h | h | h
    · have := be_mono (Nat.le_of_lt h); omega
    · exact h
    · have := be_mono (Nat.le_of_lt h); omega
  by_cases c1 : u.length < (numL w.length).length
  · have e1 := congrArg (fun l => l.getD u.length 0) h1
    have e2 := congrArg (fun l => l.getD u.length 0) h2
    simp only [sealL, hl] at e1 e2 c1
    simp only [List.getD_eq_getElem?_getD, List.getElem?_append_left c1] at e1 e2
    simp at e1 e2
    rw [e1] at e2
    exact e2
  · by_cases c2 : u.length < (numL w.length).length + 4
    · have e1 := congrArg (fun l => l.drop ((numL w.length).length + 4)) h1
      have e2 := congrArg (fun l => l.drop ((numL w.length).length + 4)) h2
      have d1 : (sealL w).drop ((numL w.length).length + 4) = w := by
        rw [sealL, ← List.drop_drop, List.drop_left]; rfl
      have d2 : (sealL w').drop ((numL w.length).length + 4) = w' := by
        rw [sealL, hl, ← List.drop_drop, List.drop_left]; rfl
      simp only [d1, d2] at e1 e2
      have f : ∀ x : UInt8, (u ++ ([x] ++ v)).drop ((numL w.length).length + 4) = v.drop ((numL w.length).length + 4 - u.length - 1) := by
        intro x
        rw [List.drop_append, List.drop_eq_nil_of_le (by omega), List.nil_append, List.drop_append, List.drop_eq_nil_of_le (by simp; omega), List.nil_append]
        rfl
      rw [f] at e1 e2
      have e3 : w = w' := by rw [e1, e2]
      rw [e3, h2] at h1
      have := List.append_cancel_left h1
      simp at this
      exact this.symm
    · have e1 := congrArg (fun l => l.take ((numL w.length).length + 4)) h1
      have e2 := congrArg (fun l => l.take ((numL w.length).length + 4)) h2
      have t1 : (sealL w).take ((numL w.length).length + 4) = numL w.length ++ fourL (sumN w) := by
        rw [sealL, List.take_append, List.take_of_length_le (by omega)]
        congr 1
        rw [Nat.add_sub_cancel_left]
        rfl
      have t2 : (sealL w').take ((numL w.length).length + 4) = numL w.length ++ fourL (sumN w') := by
        rw [sealL, hl, List.take_append, List.take_of_length_le (by omega)]
        congr 1
        rw [Nat.add_sub_cancel_left]
        rfl
      simp only [t1, t2] at e1 e2
      rw [List.take_append_of_le_length (by omega)] at e1 e2
      have e3 := List.append_cancel_left (e1.trans e2.symm)
      have e4 := fourL_inj (sumN_lt w) (sumN_lt w') e3
      have d1 : (sealL w).drop ((numL w.length).length + 4) = w := by
        rw [sealL, ← List.drop_drop, List.drop_left]; rfl
      have d2 : (sealL w').drop ((numL w.length).length + 4) = w' := by
        rw [sealL, hl, ← List.drop_drop, List.drop_left]; rfl
      have f1 := congrArg (fun l => l.drop ((numL w.length).length + 4)) h1
      have f2 := congrArg (fun l => l.drop ((numL w.length).length + 4)) h2
      simp only [d1, d2] at f1 f2
      rw [List.drop_append_of_le_length (by omega)] at f1 f2
      rw [f1, f2, ← List.append_assoc, ← List.append_assoc] at e4
      exact (sums_one _ _ _ _).1 e4
/-- One byte of a text, turned. -/
def turnL (l : List UInt8) (k : Nat) (y : UInt8) : List UInt8 := l.take k ++ ([l.getD k 0 ^^^ y] ++ l.drop (k + 1))
theorem turn_same (l : List UInt8) (k : Nat) (y : UInt8) (h : k < l.length) : l = l.take k ++ ([l.getD k 0] ++ l.drop (k + 1)) := by
  rw [List.singleton_append, List.getD_eq_getElem?_getD, List.getElem?_eq_getElem h, Option.getD_some, ← List.drop_eq_getElem_cons h, List.take_append_drop]
theorem xor_eq {c y : UInt8} : c ^^^ y = c ↔ y = 0 := by
  constructor
  · intro h
    have : c ^^^ (c ^^^ y) = c ^^^ c := by rw [h]
    rw [← UInt8.xor_assoc, UInt8.xor_self, UInt8.zero_xor] at this
    exact this
  · rintro rfl; simp
theorem turn_zero (l : List UInt8) (k : Nat) (h : k < l.length) : turnL l k 0 = l := by
  rw [turnL, xor_eq.2 rfl]
  exact (turn_same l k 0 h).symm
theorem turn_len (l : List UInt8) (k : Nat) (y : UInt8) (h : k < l.length) : (turnL l k y).length = l.length := by
  simp only [turnL, List.length_append, List.length_take, List.length_cons, List.length_nil, List.length_drop]
  omega
theorem seal_turned {w w' : List UInt8} {k : Nat} {y : UInt8} (hw : w.length < 9223372036854775808) (hw' : w'.length < 9223372036854775808) (hk : k < (sealL w).length) (h : turnL (sealL w) k y = sealL w') : y = 0 :=
  xor_eq.1 (seal_turn hw hw' (turn_same (sealL w) k y hk) h.symm).symm
end Go.Proofs.Ytkmbgihfdfgmgaa.Q
