import Derived.Test.YtmbedgopceigaaaWWords
namespace Go.Proofs.YtmbedgopceigaaaW.PrintMore
open Go.RowKit Go.Proofs.YtmbedgopceigaaaW.PrintWords Go.Proofs.YtmbedgopceigaaaW.PrintLast
/-! Texts compared: not less, the other way round -/
theorem bytesLess_total : ∀ a b : List UInt8, (Op.bytesLess a b || a == b) = !Op.bytesLess b a
  | [], [] => rfl
  | [], _ :: _ => rfl
  | _ :: _, [] => rfl
  | x :: a, y :: b => by
    have ih := bytesLess_total a b
    simp only [Op.bytesLess]
    rcases Nat.lt_trichotomy x.toNat y.toNat with h | h | h
    · have h1 : x < y := UInt8.lt_iff_toNat_lt.2 h
      have h2 : ¬ y < x := by rw [UInt8.lt_iff_toNat_lt]; omega
      have h3 : ¬ y = x := by rintro rfl; omega
      simp [h1, h2, h3]
    · have h1 : x = y := UInt8.toNat_inj.1 h
      subst h1
      have h2 : ¬ x < x := by rw [UInt8.lt_iff_toNat_lt]; omega
      simp only [h2, decide_false, Bool.false_or, BEq.rfl, Bool.true_and] at ih ⊢
      rw [← ih]
      simp
    · have h1 : y < x := UInt8.lt_iff_toNat_lt.2 h
      have h2 : ¬ x < y := by rw [UInt8.lt_iff_toNat_lt]; omega
      have h3 : ¬ x = y := by rintro rfl; omega
      simp [h1, h2, h3]
theorem string_leq (t : TypeId) (a b : ByteArray) : binOp .leq t (.string a) (.string b) = pure (.bool (!Op.bytesLess b.toList a.toList)) := by
  rw [← bytesLess_total]
  simp [binOp, Op.stringOp]
theorem string_geq (t : TypeId) (a b : ByteArray) : binOp .geq t (.string a) (.string b) = pure (.bool (!Op.bytesLess a.toList b.toList)) := by
  simp [binOp, Op.stringOp]
theorem string_gtr (t : TypeId) (a b : ByteArray) : binOp .gtr t (.string a) (.string b) = pure (.bool (Op.bytesLess b.toList a.toList)) := by
  have h := bytesLess_total a.toList b.toList
  simp only [binOp, Op.stringOp]
  rw [h]
  simp
end Go.Proofs.YtmbedgopceigaaaW.PrintMore
