import Derived.Test.YthohfmfgijckhaaQEntryTake
namespace Go.Proofs.Ythohfmfgijckhaa.P
end Go.Proofs.Ythohfmfgijckhaa.P
namespace Go.Proofs.Ythohfmfgijckhaa.Q
end Go.Proofs.Ythohfmfgijckhaa.Q
namespace Go.Proofs.Ythohfmfgijckhaa.Q
open Go.RowKit Go.Proofs.Ythohfmfgijckhaa.P Go.Proofs.YthohfmfgijckhaaW.PrintWords Go.Proofs.YthohfmfgijckhaaW.PrintLast Go.Proofs.YthohfmfgijckhaaW.PrintMore
set_option linter.unusedVariables false
set_option linter.unusedSimpArgs false

/-! The taker's steps, behind an error too: what is taken, how far, what is wrong -/
theorem takeText_zero {l : List UInt8} (h : (takeText l).2.2 ≠ 0) : (takeText l).1 = [] := by
  unfold takeText at h ⊢
  by_cases h1 : (takeNum l).2.2 = 0
  · rw [if_pos h1] at h ⊢
    by_cases h2 : (takeNum l).1 > (l.length : Int) - (takeNum l).2.1
    · rw [if_pos h2]
    · rw [if_neg h2] at h
      exact absurd rfl h
  · rw [if_neg h1]
theorem takeText_in (l : List UInt8) : ((takeText l).1.length : Int) ≤ (takeText l).2.1 := by
  by_cases hz : (takeText l).2.2 = 0
  · obtain ⟨_, h2, _⟩ := takeText_inv (l := l) (s := (takeText l).1) (k := (takeText l).2.1) (by rw [← hz])
    rw [textL, List.length_append] at h2
    omega
  · have := takeText_bounds l
    rw [takeText_zero hz, List.length_nil]
    omega
def sN (L : List UInt8) (a : Nat) (e : Int) : Int × Nat × Int := if e = 0 then ((takeNum (L.drop a)).1, a + (takeNum (L.drop a)).2.1.toNat, (takeNum (L.drop a)).2.2) else (0, a, e)
def sT (L : List UInt8) (a : Nat) (e : Int) : List UInt8 × Nat × Int := if e = 0 then ((takeText (L.drop a)).1, a + (takeText (L.drop a)).2.1.toNat, (takeText (L.drop a)).2.2) else ([], a, e)
def sV (L : List UInt8) (a : Nat) (e : Int) : Bool × List UInt8 × Nat × Int := if e = 0 then ((takeVal (L.drop a)).1, (takeVal (L.drop a)).2.1, a + (takeVal (L.drop a)).2.2.1.toNat, (takeVal (L.drop a)).2.2.2) else (false, [], a, e)
theorem sN_ok (L : List UInt8) (a : Nat) : sN L a 0 = ((takeNum (L.drop a)).1, a + (takeNum (L.drop a)).2.1.toNat, (takeNum (L.drop a)).2.2) := rfl
theorem sT_ok (L : List UInt8) (a : Nat) : sT L a 0 = ((takeText (L.drop a)).1, a + (takeText (L.drop a)).2.1.toNat, (takeText (L.drop a)).2.2) := rfl
theorem sV_ok (L : List UInt8) (a : Nat) : sV L a 0 = ((takeVal (L.drop a)).1, (takeVal (L.drop a)).2.1, a + (takeVal (L.drop a)).2.2.1.toNat, (takeVal (L.drop a)).2.2.2) := rfl
theorem sN_err (L : List UInt8) (a : Nat) {e : Int} (h : e ≠ 0) : sN L a e = (0, a, e) := if_neg h
theorem sT_err (L : List UInt8) (a : Nat) {e : Int} (h : e ≠ 0) : sT L a e = ([], a, e) := if_neg h
theorem sV_err (L : List UInt8) (a : Nat) {e : Int} (h : e ≠ 0) : sV L a e = (false, [], a, e) := if_neg h
theorem sN_le (L : List UInt8) (a : Nat) (e : Int) (h : a ≤ L.length) : a ≤ (sN L a e).2.1 ∧ (sN L a e).2.1 ≤ L.length ∧ 0 ≤ (sN L a e).1 ∧ (sN L a e).1 < 9223372036854775808 := by
  have := takeNum_bounds (L.drop a)
  rw [List.length_drop] at this
  unfold sN
  split <;> simp <;> omega
theorem sT_le (L : List UInt8) (a : Nat) (e : Int) (h : a ≤ L.length) : a ≤ (sT L a e).2.1 ∧ (sT L a e).2.1 ≤ L.length ∧ (sT L a e).1.length + a ≤ (sT L a e).2.1 := by
  unfold sT
  split
  · have hb := takeText_bounds (L.drop a)
    rw [List.length_drop] at hb
    by_cases hz : (takeText (L.drop a)).2.2 = 0
    · obtain ⟨_, h2, _⟩ := takeText_inv (l := L.drop a) (s := (takeText (L.drop a)).1) (k := (takeText (L.drop a)).2.1) (by rw [← hz])
      rw [textL, List.length_append] at h2
      simp only
      omega
    · have h3 : (takeText (L.drop a)).1 = [] := takeText_zero hz
      simp only [h3, List.length_nil]
      omega
  · simp; omega
theorem sV_le (L : List UInt8) (a : Nat) (e : Int) (h : a ≤ L.length) : a ≤ (sV L a e).2.2.1 ∧ (sV L a e).2.2.1 ≤ L.length ∧ (sV L a e).2.1.length ≤ L.length := by
  have := takeVal_bounds (L.drop a)
  rw [List.length_drop] at this
  have h2 : (takeVal (L.drop a)).2.1.length ≤ (L.drop a).length := by
    cases hd : L.drop a with
    | nil => simp [takeVal]
    | cons c t =>
      have := takeText_bounds t
      simp only [takeVal, List.length_cons]
      repeat' split
      all_goals (simp <;> omega)
  rw [List.length_drop] at h2
  unfold sV
  split <;> simp <;> omega
theorem sN_ev (L : List UInt8) (hz : L.length ≤ 140737488351232) (a : Nat) (h : a ≤ L.length) (e : Int) :
    Ev (fun k => entry_Taker_Num.f k (S L) (a : Int) e) ((sN L a e).1, S L, ((sN L a e).2.1 : Int), (sN L a e).2.2) := by
  by_cases he : e = 0
  · subst he
    have := takeNum_bounds (L.drop a)
    refine evEq (tNum_ev L hz a h) ?_
    rw [sN_ok]
    simp only [Prod.mk.injEq, true_and, and_true]
    omega
  · rw [sN_err L a he]
    exact tNum_err _ _ _ he
theorem sT_ev (L : List UInt8) (hz : L.length ≤ 140737488351232) (a : Nat) (h : a ≤ L.length) (e : Int) :
    Ev (fun k => entry_Taker_Text.f k (S L) (a : Int) e) (S (sT L a e).1, S L, ((sT L a e).2.1 : Int), (sT L a e).2.2) := by
  by_cases he : e = 0
  · subst he
    have := takeText_bounds (L.drop a)
    refine evEq (tText_ev L hz a h) ?_
    rw [sT_ok]
    simp only [Prod.mk.injEq, true_and, and_true]
    omega
  · rw [sT_err L a he]
    exact tText_err _ _ _ he
theorem sV_ev (L : List UInt8) (hz : L.length ≤ 140737488351232) (a : Nat) (h : a ≤ L.length) (e : Int) :
    Ev (fun k => entry_Taker_Value.f k (S L) (a : Int) e) ((sV L a e).1, S (sV L a e).2.1, S L, ((sV L a e).2.2.1 : Int), (sV L a e).2.2.2) := by
  by_cases he : e = 0
  · subst he
    have := takeVal_bounds (L.drop a)
    refine evEq (tValue_ev L hz a h) ?_
    rw [sV_ok]
    simp only [Prod.mk.injEq, true_and, and_true]
    omega
  · rw [sV_err L a he]
    exact tValue_err _ _ _ he
end Go.Proofs.Ythohfmfgijckhaa.Q
