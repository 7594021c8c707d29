import Derived.Test.YtmbedgopceigaaaQBase
import Derived.Lib.Bytealg
namespace Go.Proofs.Ytmbedgopceigaaa.P
end Go.Proofs.Ytmbedgopceigaaa.P
namespace Go.Proofs.Ytmbedgopceigaaa.Q
end Go.Proofs.Ytmbedgopceigaaa.Q
namespace Go.Proofs.Ytmbedgopceigaaa.Q
open Go.RowKit Go.Proofs.Ytmbedgopceigaaa.P Go.Proofs.YtmbedgopceigaaaW.PrintWords Go.Proofs.YtmbedgopceigaaaW.PrintLast Go.Proofs.YtmbedgopceigaaaW.PrintMore
set_option linter.unusedVariables false
set_option linter.unusedSimpArgs false

/-! The order of texts, byte by byte -/
theorem lt_irrefl : ∀ a : List UInt8, Op.bytesLess a a = false
  | [] => rfl
  | x :: a => by simp [Op.bytesLess, lt_irrefl a]
theorem lt_trans : ∀ {a b c : List UInt8}, Op.bytesLess a b = true → Op.bytesLess b c = true → Op.bytesLess a c = true
  | _, [], _, h, _ => by simp [Op.bytesLess] at h
  | _, _ :: _, [], _, h => by simp [Op.bytesLess] at h
  | [], _ :: _, _ :: _, _, _ => by simp [Op.bytesLess]
  | x :: a, y :: b, z :: c, h1, h2 => by
    simp only [Op.bytesLess, Bool.or_eq_true, decide_eq_true_eq, Bool.and_eq_true, beq_iff_eq] at h1 h2 ⊢
    rcases h1 with h1 | ⟨rfl, h1⟩
    · rcases h2 with h2 | ⟨rfl, h2⟩
      · left; exact UInt8.lt_trans h1 h2
      · left; exact h1
    · rcases h2 with h2 | ⟨rfl, h2⟩
      · left; exact h2
      · right; exact ⟨rfl, lt_trans h1 h2⟩
theorem lt_tri : ∀ a b : List UInt8, Op.bytesLess a b = true ∨ a = b ∨ Op.bytesLess b a = true
  | [], [] => .inr (.inl rfl)
  | [], _ :: _ => .inl (by simp [Op.bytesLess])
  | _ :: _, [] => .inr (.inr (by simp [Op.bytesLess]))
  | x :: a, y :: b => by
    simp only [Op.bytesLess, Bool.or_eq_true, decide_eq_true_eq, Bool.and_eq_true, beq_iff_eq, List.cons.injEq]
    rcases Nat.lt_trichotomy x.toNat y.toNat with h | h | h
    · left; left; exact UInt8.lt_iff_toNat_lt.2 h
    · obtain rfl := UInt8.toNat_inj.1 h
      rcases lt_tri a b with h | h | h
      · left; right; exact ⟨rfl, h⟩
      · right; left; exact ⟨rfl, h⟩
      · right; right; right; exact ⟨rfl, h⟩
    · right; right; left; exact UInt8.lt_iff_toNat_lt.2 h
theorem lt_asymm {a b : List UInt8} (h : Op.bytesLess a b = true) : Op.bytesLess b a = false := by
  cases hb : Op.bytesLess b a with
  | false => rfl
  | true => have := lt_trans h hb; rw [lt_irrefl] at this; cases this
theorem lt_ne {a b : List UInt8} (h : Op.bytesLess a b = true) : a ≠ b := by
  rintro rfl; rw [lt_irrefl] at h; cases h
theorem not_lt {a b : List UInt8} (h : Op.bytesLess a b = false) : a = b ∨ Op.bytesLess b a = true := by
  rcases lt_tri a b with h1 | h1 | h1
  · rw [h] at h1; cases h1
  · exact .inl h1
  · exact .inr h1
theorem cmp_tells : ∀ a b : List UInt8, Go.Lib.compareBytes a b = if Op.bytesLess a b = true then -1 else if a = b then 0 else 1
  | [], [] => rfl
  | [], _ :: _ => rfl
  | _ :: _, [] => by simp [Go.Lib.compareBytes, Op.bytesLess]
  | x :: a, y :: b => by
    simp only [Go.Lib.compareBytes, Op.bytesLess, Bool.or_eq_true, decide_eq_true_eq, Bool.and_eq_true, beq_iff_eq, List.cons.injEq]
    rw [cmp_tells a b]
    rcases Nat.lt_trichotomy x.toNat y.toNat with h | h | h
    · have h1 : x < y := UInt8.lt_iff_toNat_lt.2 h
      simp [h1]
    · obtain rfl := UInt8.toNat_inj.1 h
      have h1 : ¬ x < x := by rw [UInt8.lt_iff_toNat_lt]; omega
      simp [h1]
    · have h1 : ¬ x < y := by rw [UInt8.lt_iff_toNat_lt]; omega
      have h2 : y < x := UInt8.lt_iff_toNat_lt.2 h
      have h3 : ¬ x = y := by rintro rfl; exact h1 h2
      simp [h1, h2, h3]
theorem eq_of_data {a b : ByteArray} (h : a.data.toList = b.data.toList) : a = b := by
  have := congrArg S h
  rwa [S_of, S_of] at this
end Go.Proofs.Ytmbedgopceigaaa.Q
