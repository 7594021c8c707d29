import Derived.Test.YtkmbgihfdfgmgaaQSealTurn
import Derived.Laws.BitsLemmas
namespace Go.Proofs.Ytkmbgihfdfgmgaa.P
end Go.Proofs.Ytkmbgihfdfgmgaa.P
namespace Go.Proofs.Ytkmbgihfdfgmgaa.Q
end Go.Proofs.Ytkmbgihfdfgmgaa.Q
namespace Go.Proofs.Ytkmbgihfdfgmgaa.Q
open Go.RowKit Go.Proofs.Ytkmbgihfdfgmgaa.P Go.Proofs.YtkmbgihfdfgmgaaW.PrintWords Go.Proofs.YtkmbgihfdfgmgaaW.PrintLast Go.Proofs.YtkmbgihfdfgmgaaW.PrintMore
set_option linter.unusedVariables false
set_option linter.unusedSimpArgs false

/-! A byte turned, as the code does it -/
theorem xor_byte (c y : UInt8) : Go.bits .xor .u8 ((c.toNat : Nat) : Int) ((y.toNat : Nat) : Int) = (((c ^^^ y).toNat : Nat) : Int) := by
  have h1 := c.toNat_lt
  have h2 := y.toNat_lt
  have h3 : c.toNat ^^^ y.toNat < 2 ^ 8 := Nat.xor_lt_two_pow (by omega) (by omega)
  rw [UInt8.toNat_xor]
  have ha : c.toNat % 2 ^ IntKind.u8.bits = c.toNat := Nat.mod_eq_of_lt (by show _ < 2 ^ 8; omega)
  have hb : y.toNat % 2 ^ IntKind.u8.bits = y.toNat := Nat.mod_eq_of_lt (by show _ < 2 ^ 8; omega)
  simp only [Go.bits, BitVec.ofInt_natCast, BitVec.toNat_xor, BitVec.toNat_ofNat, ha, hb]
  exact wraps_u8 _ (Int.natCast_nonneg _) (by exact_mod_cast h3)
theorem bytesOf_S (l : List UInt8) : bytesOf (S l) = nm l := rfl
theorem turn_conv (l : List UInt8) (k : Nat) (y : UInt8) (h : k < l.length) :
    strOfNums ((bytesOf (S l)).set ((k : Nat) : Int).toNat (Go.bits .xor .u8 (rd (bytesOf (S l)) ((k : Nat) : Int)) ((y.toNat : Nat) : Int))) = S (turnL l k y) := by
  rw [bytesOf_S, rd_nm, Int.toNat_natCast, xor_byte, ← strOf' (turnL l k y)]
  congr 1
  rw [List.set_eq_take_append_cons_drop, if_pos (by rw [nm_length]; exact h)]
  simp [nm, turnL]
end Go.Proofs.Ytkmbgihfdfgmgaa.Q
