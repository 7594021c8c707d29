import Derived.Test.YtkmbgihfdfgmgaaQCellSpec
namespace Go.Proofs.Ytkmbgihfdfgmgaa.P
end Go.Proofs.Ytkmbgihfdfgmgaa.P
namespace Go.Proofs.Ytkmbgihfdfgmgaa.Q
end Go.Proofs.Ytkmbgihfdfgmgaa.Q
namespace Go.Proofs.Ytkmbgihfdfgmgaa.Q
open Go.RowKit Go.Proofs.Ytkmbgihfdfgmgaa.P Go.Proofs.YtkmbgihfdfgmgaaW.PrintWords Go.Proofs.YtkmbgihfdfgmgaaW.PrintLast Go.Proofs.YtkmbgihfdfgmgaaW.PrintMore
set_option linter.unusedVariables false
set_option linter.unusedSimpArgs false

/-! Values: deleted or not, and what stands there (as in EntrySpec, for seats without entries) -/
def isW (k : List UInt8) (d : Bool) (v : List UInt8) : Bool := decide (1 ≤ k.length) && decide (k.length ≤ 13) && decide (v.length ≤ 24) && (!d || v.isEmpty)
def valL (d : Bool) (v : List UInt8) : List UInt8 := if d = true then [1] else 0 :: textL v
/-- What is taken of what was written: deleted or not, the value, how many bytes, what is wrong. -/
def takeVal : List UInt8 → Bool × List UInt8 × Int × Int
  | [] => (false, [], 0, 12)
  | c :: t => if c = 0 then (false, (takeText t).1, 1 + (takeText t).2.1, (takeText t).2.2) else if c = 1 then (true, [], 1, 0) else (false, [], 1, 10)
theorem takeVal_val {d : Bool} {v : List UInt8} (hv : v.length < 9223372036854775808) (h : d = true → v = []) (r : List UInt8) : takeVal (valL d v ++ r) = (d, v, ((valL d v).length : Int), 0) := by
  cases d with
  | true =>
    obtain rfl := h rfl
    simp [valL, takeVal]
  | false =>
    have e := takeText_text (s := v) hv r
    simp only [valL, takeVal, Bool.false_eq_true, if_false, List.cons_append, if_true]
    rw [e]
    simp only [List.length_cons, Prod.mk.injEq, true_and, and_true]
    omega
theorem takeVal_bounds (l : List UInt8) : 0 ≤ (takeVal l).2.2.1 ∧ (takeVal l).2.2.1 ≤ l.length ∧ 0 ≤ (takeVal l).2.2.2 ∧ (takeVal l).2.2.2 ≤ 12 := by
  cases l with
  | nil => simp [takeVal]
  | cons c t =>
    have := takeText_bounds t
    simp only [takeVal, List.length_cons]
    repeat' split
    all_goals (simp <;> omega)
end Go.Proofs.Ytkmbgihfdfgmgaa.Q
