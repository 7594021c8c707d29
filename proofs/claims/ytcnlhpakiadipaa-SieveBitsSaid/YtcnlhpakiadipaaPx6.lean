-- Printed by a changed copy of the kit's printer (wip/tools/ext.py); labels and more
import Derived.Test.YtcnlhpakiadipaaM0
import Derived.Test.YtcnlhpakiadipaaM1
import Derived.Test.YtcnlhpakiadipaaM2
namespace Go.Proofs.Ytcnlhpakiadipaa.P
open Go.RowKit Go.Proofs.YtcnlhpakiadipaaW.PrintWords Go.Proofs.YtcnlhpakiadipaaW.PrintLast Go.Proofs.YtcnlhpakiadipaaW.PrintMore
attribute [local go_sem] max2_int min2_int max_two min_two max_three min_three max_four min_four   -- for this text's walks alone
set_option linter.unusedVariables false
set_option linter.unusedSimpArgs false

/-! ### ravelinlaw7_SieveBits: function 6 -/
def ravelinlaw7_SieveBits.f (k : Nat) (a0 : ByteArray) (a1 : Int) : Option (Bool) := (ravelinlaw7_known.f k).bind fun t182 => (if t182 = true then (if (a0.size : Int) > 40 then (some true) else ((sieve_Make.f k (([a0] : List ByteArray))).bind fun t186 => (if (wrap64 (8 * (t186.size : Int))) = 0 then (none) else (if 0 ≤ (wrap64 (Int.tdiv (Int.tmod (wrap64 (a1)) (wrap64 (8 * (t186.size : Int)))) 8)) then (if (wrap64 (Int.tdiv (Int.tmod (wrap64 (a1)) (wrap64 (8 * (t186.size : Int)))) 8)) < (t186.size : Int) then (if 0 ≤ (IntKind.u64.wrap (Int.tmod (Int.tmod (wrap64 (a1)) (wrap64 (8 * (t186.size : Int)))) 8)) then (if 8 ≤ 281474976710656 then ((some (List.replicate 8 0 : List Int)).bind fun y191 => (if 0 < (y191.length : Int) then (if 1 < (y191.length : Int) then (if 2 < (y191.length : Int) then (if 3 < (y191.length : Int) then (if 4 < (y191.length : Int) then (if 5 < (y191.length : Int) then (if 6 < (y191.length : Int) then (if 7 < (y191.length : Int) then ((sieve_May.f k (strOfNums ((bytesOf t186).set ((wrap64 (Int.tdiv (Int.tmod (wrap64 (a1)) (wrap64 (8 * (t186.size : Int)))) 8)) : Int).toNat (Go.bits .andNot .u8 (rd (bytesOf t186) (wrap64 (Int.tdiv (Int.tmod (wrap64 (a1)) (wrap64 (8 * (t186.size : Int)))) 8))) (shl .u8 1 (IntKind.u64.wrap (Int.tmod (Int.tmod (wrap64 (a1)) (wrap64 (8 * (t186.size : Int)))) 8)))))) a0).bind fun t202 => (if (t202 == (!((Go.bits .and .u8 (shr .u8 (rd (bytesOf t186) (wrap64 (Int.tdiv (Int.tmod (wrap64 (a1)) (wrap64 (8 * (t186.size : Int)))) 8))) (IntKind.u64.wrap (Int.tmod (Int.tmod (wrap64 (a1)) (wrap64 (8 * (t186.size : Int)))) 8))) 1) == 1))) = true then ((sieve_May.f k (strOfNums ((((((((y191.set (0 : Int).toNat 255).set (1 : Int).toNat 255).set (2 : Int).toNat 255).set (3 : Int).toNat 255).set (4 : Int).toNat 255).set (5 : Int).toNat 255).set (6 : Int).toNat 255).set (7 : Int).toNat 255)) a0).bind fun t203 => (if t203 = true then ((sieve_May.f k (strOfNums (List.replicate 8 0)) a0).bind fun t207 => (some (!t207))) else (some false))) else (some false))) else (none)) else (none)) else (none)) else (none)) else (none)) else (none)) else (none)) else (none))) else (none)) else (none)) else (none)) else (none))))) else (some false))
theorem ravelinlaw7_SieveBits.mono : ∀ a0 a1 k, LeO (ravelinlaw7_SieveBits.f k a0 a1) (ravelinlaw7_SieveBits.f (k + 1) a0 a1) := by
  intro a0 a1 k
  unfold ravelinlaw7_SieveBits.f
  repeat' first
      | (with_reducible exact ravelinlaw7_known.mono _)
      | (with_reducible exact sieve_Make.mono _ _)
      | (with_reducible exact sieve_May.mono _ _ _)
      | (with_reducible exact LeO.refl _)
      | (with_reducible exact LeO.none _)
      | (with_reducible refine LeO.ite ?_ ?_)
      | (with_reducible refine LeO.bind ?_ (fun _ => ?_))
      | exact ravelinlaw7_known.mono _
      | exact sieve_Make.mono _ _
      | exact sieve_May.mono _ _ _
      | exact LeO.none _
      | refine LeO.ite ?_ ?_
      | refine LeO.bind ?_ (fun _ => ?_)
set_option maxHeartbeats 8000000 in
set_option maxRecDepth 100000 in
theorem ravelinlaw7_SieveBits.calls (k : Nat) (a0 : ByteArray) (a1 : Int) (r : Bool) (w : World) (h : ravelinlaw7_SieveBits.f k a0 a1 = some r) (hr_ : r = true) :
    Calls Try.prog 6 #[.string a0, .int .u8 a1] w fun e w' => e = .returned (.bool r) ∧ Below w.heap.size w w' := by
  have HB := Aside0.mk (Below.refl w.heap.size w)
  have H : ((ravelinlaw7_known.f k).bind fun t182 => (if t182 = true then (if (a0.size : Int) > 40 then (some true) else ((sieve_Make.f k (([a0] : List ByteArray))).bind fun t186 => (if (wrap64 (8 * (t186.size : Int))) = 0 then (none) else (if 0 ≤ (wrap64 (Int.tdiv (Int.tmod (wrap64 (a1)) (wrap64 (8 * (t186.size : Int)))) 8)) then (if (wrap64 (Int.tdiv (Int.tmod (wrap64 (a1)) (wrap64 (8 * (t186.size : Int)))) 8)) < (t186.size : Int) then (if 0 ≤ (IntKind.u64.wrap (Int.tmod (Int.tmod (wrap64 (a1)) (wrap64 (8 * (t186.size : Int)))) 8)) then (if 8 ≤ 281474976710656 then ((some (List.replicate 8 0 : List Int)).bind fun y191 => (if 0 < (y191.length : Int) then (if 1 < (y191.length : Int) then (if 2 < (y191.length : Int) then (if 3 < (y191.length : Int) then (if 4 < (y191.length : Int) then (if 5 < (y191.length : Int) then (if 6 < (y191.length : Int) then (if 7 < (y191.length : Int) then ((sieve_May.f k (strOfNums ((bytesOf t186).set ((wrap64 (Int.tdiv (Int.tmod (wrap64 (a1)) (wrap64 (8 * (t186.size : Int)))) 8)) : Int).toNat (Go.bits .andNot .u8 (rd (bytesOf t186) (wrap64 (Int.tdiv (Int.tmod (wrap64 (a1)) (wrap64 (8 * (t186.size : Int)))) 8))) (shl .u8 1 (IntKind.u64.wrap (Int.tmod (Int.tmod (wrap64 (a1)) (wrap64 (8 * (t186.size : Int)))) 8)))))) a0).bind fun t202 => (if (t202 == (!((Go.bits .and .u8 (shr .u8 (rd (bytesOf t186) (wrap64 (Int.tdiv (Int.tmod (wrap64 (a1)) (wrap64 (8 * (t186.size : Int)))) 8))) (IntKind.u64.wrap (Int.tmod (Int.tmod (wrap64 (a1)) (wrap64 (8 * (t186.size : Int)))) 8))) 1) == 1))) = true then ((sieve_May.f k (strOfNums ((((((((y191.set (0 : Int).toNat 255).set (1 : Int).toNat 255).set (2 : Int).toNat 255).set (3 : Int).toNat 255).set (4 : Int).toNat 255).set (5 : Int).toNat 255).set (6 : Int).toNat 255).set (7 : Int).toNat 255)) a0).bind fun t203 => (if t203 = true then ((sieve_May.f k (strOfNums (List.replicate 8 0)) a0).bind fun t207 => (some (!t207))) else (some false))) else (some false))) else (none)) else (none)) else (none)) else (none)) else (none)) else (none)) else (none)) else (none))) else (none)) else (none)) else (none)) else (none))))) else (some false))) = some r := h
  clear h
  have HR_ := Aside0.mk hr_
  clear hr_
  replace H := Option.bind_eq_some_iff.mp H
  obtain ⟨t182, A30, H⟩ := H
  replace H : (if t182 = true then (if (a0.size : Int) > 40 then (some true) else ((sieve_Make.f k (([a0] : List ByteArray))).bind fun t186 => (if (wrap64 (8 * (t186.size : Int))) = 0 then (none) else (if 0 ≤ (wrap64 (Int.tdiv (Int.tmod (wrap64 (a1)) (wrap64 (8 * (t186.size : Int)))) 8)) then (if (wrap64 (Int.tdiv (Int.tmod (wrap64 (a1)) (wrap64 (8 * (t186.size : Int)))) 8)) < (t186.size : Int) then (if 0 ≤ (IntKind.u64.wrap (Int.tmod (Int.tmod (wrap64 (a1)) (wrap64 (8 * (t186.size : Int)))) 8)) then (if 8 ≤ 281474976710656 then ((some (List.replicate 8 0 : List Int)).bind fun y191 => (if 0 < (y191.length : Int) then (if 1 < (y191.length : Int) then (if 2 < (y191.length : Int) then (if 3 < (y191.length : Int) then (if 4 < (y191.length : Int) then (if 5 < (y191.length : Int) then (if 6 < (y191.length : Int) then (if 7 < (y191.length : Int) then ((sieve_May.f k (strOfNums ((bytesOf t186).set ((wrap64 (Int.tdiv (Int.tmod (wrap64 (a1)) (wrap64 (8 * (t186.size : Int)))) 8)) : Int).toNat (Go.bits .andNot .u8 (rd (bytesOf t186) (wrap64 (Int.tdiv (Int.tmod (wrap64 (a1)) (wrap64 (8 * (t186.size : Int)))) 8))) (shl .u8 1 (IntKind.u64.wrap (Int.tmod (Int.tmod (wrap64 (a1)) (wrap64 (8 * (t186.size : Int)))) 8)))))) a0).bind fun t202 => (if (t202 == (!((Go.bits .and .u8 (shr .u8 (rd (bytesOf t186) (wrap64 (Int.tdiv (Int.tmod (wrap64 (a1)) (wrap64 (8 * (t186.size : Int)))) 8))) (IntKind.u64.wrap (Int.tmod (Int.tmod (wrap64 (a1)) (wrap64 (8 * (t186.size : Int)))) 8))) 1) == 1))) = true then ((sieve_May.f k (strOfNums ((((((((y191.set (0 : Int).toNat 255).set (1 : Int).toNat 255).set (2 : Int).toNat 255).set (3 : Int).toNat 255).set (4 : Int).toNat 255).set (5 : Int).toNat 255).set (6 : Int).toNat 255).set (7 : Int).toNat 255)) a0).bind fun t203 => (if t203 = true then ((sieve_May.f k (strOfNums (List.replicate 8 0)) a0).bind fun t207 => (some (!t207))) else (some false))) else (some false))) else (none)) else (none)) else (none)) else (none)) else (none)) else (none)) else (none)) else (none))) else (none)) else (none)) else (none)) else (none))))) else (some false)) = some r := H
  have A3 := Aside0.mk A30
  clear A30
  by_cases c4 : t182 = true
  · subst c4
    have H1 : (if (a0.size : Int) > 40 then (some true) else ((sieve_Make.f k (([a0] : List ByteArray))).bind fun t186 => (if (wrap64 (8 * (t186.size : Int))) = 0 then (none) else (if 0 ≤ (wrap64 (Int.tdiv (Int.tmod (wrap64 (a1)) (wrap64 (8 * (t186.size : Int)))) 8)) then (if (wrap64 (Int.tdiv (Int.tmod (wrap64 (a1)) (wrap64 (8 * (t186.size : Int)))) 8)) < (t186.size : Int) then (if 0 ≤ (IntKind.u64.wrap (Int.tmod (Int.tmod (wrap64 (a1)) (wrap64 (8 * (t186.size : Int)))) 8)) then (if 8 ≤ 281474976710656 then ((some (List.replicate 8 0 : List Int)).bind fun y191 => (if 0 < (y191.length : Int) then (if 1 < (y191.length : Int) then (if 2 < (y191.length : Int) then (if 3 < (y191.length : Int) then (if 4 < (y191.length : Int) then (if 5 < (y191.length : Int) then (if 6 < (y191.length : Int) then (if 7 < (y191.length : Int) then ((sieve_May.f k (strOfNums ((bytesOf t186).set ((wrap64 (Int.tdiv (Int.tmod (wrap64 (a1)) (wrap64 (8 * (t186.size : Int)))) 8)) : Int).toNat (Go.bits .andNot .u8 (rd (bytesOf t186) (wrap64 (Int.tdiv (Int.tmod (wrap64 (a1)) (wrap64 (8 * (t186.size : Int)))) 8))) (shl .u8 1 (IntKind.u64.wrap (Int.tmod (Int.tmod (wrap64 (a1)) (wrap64 (8 * (t186.size : Int)))) 8)))))) a0).bind fun t202 => (if (t202 == (!((Go.bits .and .u8 (shr .u8 (rd (bytesOf t186) (wrap64 (Int.tdiv (Int.tmod (wrap64 (a1)) (wrap64 (8 * (t186.size : Int)))) 8))) (IntKind.u64.wrap (Int.tmod (Int.tmod (wrap64 (a1)) (wrap64 (8 * (t186.size : Int)))) 8))) 1) == 1))) = true then ((sieve_May.f k (strOfNums ((((((((y191.set (0 : Int).toNat 255).set (1 : Int).toNat 255).set (2 : Int).toNat 255).set (3 : Int).toNat 255).set (4 : Int).toNat 255).set (5 : Int).toNat 255).set (6 : Int).toNat 255).set (7 : Int).toNat 255)) a0).bind fun t203 => (if t203 = true then ((sieve_May.f k (strOfNums (List.replicate 8 0)) a0).bind fun t207 => (some (!t207))) else (some false))) else (some false))) else (none)) else (none)) else (none)) else (none)) else (none)) else (none)) else (none)) else (none))) else (none)) else (none)) else (none)) else (none))))) = some r := by rw [if_pos rfl] at H; exact H
    clear H
    have H := H1
    clear H1
    by_cases c5 : (a0.size : Int) > 40
    · rw [if_pos c5] at H
      have c5b0 : decide (40 < (a0.size : Int)) = true := decide_eq_true c5
      have c5b1 : decide (40 < a0.size) = true := decide_eq_true (by omega)
      clear c5
      obtain rfl := Option.some.inj H
      go_enter Try.func6, Try.ntmps6
      go_wp2_with (first | ((with_reducible refine gate_callee (f := 7) rfl ?_); refine goesL_ (some 10) rfl rfl Try.func7 (by kernel_rfl) rfl #[] rfl (by (try simp only [List.map_toArray, List.map_cons, List.map_nil]); first | done | rfl | (simp only [List.length_drop, List.length_take]; rfl)) ?_; (with_reducible refine (ravelinlaw7_known.calls k  true _ A3.out (by first | rfl | assumption | exact of_decide_eq_true (by assumption))).mono ?_); rintro e w6 ⟨rfl, hb⟩; refine ⟨_, rfl, ?_⟩; have n0_ := Aside0.mk (below_step (by repeat (first | (with_reducible first | exact HB.out | apply below_alloc | apply pw_below_drewN | apply below_drew1) | exact HB.out)) hb); clear HB; have HB := n0_; clear n0_; (try clear hb); (try clear hb2); (try clear hk); (try clear hi)))
      go_ret
      exact ⟨by first | rfl | (simp [errW_none, errW_some] <;> rfl) | (simp [*, errW_none, errW_some] <;> rfl), by repeat (first | (with_reducible first | exact HB.out | apply below_alloc | apply pw_below_drewN | apply below_drew1) | exact HB.out)⟩
    · rw [if_neg c5] at H
      have c5b0 : decide (40 < (a0.size : Int)) = false := decide_eq_false c5
      have c5b1 : decide (40 < a0.size) = false := decide_eq_false (by omega)
      clear c5
      obtain ⟨y183, hy183⟩ : ∃ y_ : List ByteArray, y_ = (([a0] : List ByteArray)) := ⟨_, rfl⟩
      replace H : ((sieve_Make.f k y183).bind fun t186 => (if (wrap64 (8 * (t186.size : Int))) = 0 then (none) else (if 0 ≤ (wrap64 (Int.tdiv (Int.tmod (wrap64 (a1)) (wrap64 (8 * (t186.size : Int)))) 8)) then (if (wrap64 (Int.tdiv (Int.tmod (wrap64 (a1)) (wrap64 (8 * (t186.size : Int)))) 8)) < (t186.size : Int) then (if 0 ≤ (IntKind.u64.wrap (Int.tmod (Int.tmod (wrap64 (a1)) (wrap64 (8 * (t186.size : Int)))) 8)) then (if 8 ≤ 281474976710656 then ((some (List.replicate 8 0 : List Int)).bind fun y191 => (if 0 < (y191.length : Int) then (if 1 < (y191.length : Int) then (if 2 < (y191.length : Int) then (if 3 < (y191.length : Int) then (if 4 < (y191.length : Int) then (if 5 < (y191.length : Int) then (if 6 < (y191.length : Int) then (if 7 < (y191.length : Int) then ((sieve_May.f k (strOfNums ((bytesOf t186).set ((wrap64 (Int.tdiv (Int.tmod (wrap64 (a1)) (wrap64 (8 * (t186.size : Int)))) 8)) : Int).toNat (Go.bits .andNot .u8 (rd (bytesOf t186) (wrap64 (Int.tdiv (Int.tmod (wrap64 (a1)) (wrap64 (8 * (t186.size : Int)))) 8))) (shl .u8 1 (IntKind.u64.wrap (Int.tmod (Int.tmod (wrap64 (a1)) (wrap64 (8 * (t186.size : Int)))) 8)))))) a0).bind fun t202 => (if (t202 == (!((Go.bits .and .u8 (shr .u8 (rd (bytesOf t186) (wrap64 (Int.tdiv (Int.tmod (wrap64 (a1)) (wrap64 (8 * (t186.size : Int)))) 8))) (IntKind.u64.wrap (Int.tmod (Int.tmod (wrap64 (a1)) (wrap64 (8 * (t186.size : Int)))) 8))) 1) == 1))) = true then ((sieve_May.f k (strOfNums ((((((((y191.set (0 : Int).toNat 255).set (1 : Int).toNat 255).set (2 : Int).toNat 255).set (3 : Int).toNat 255).set (4 : Int).toNat 255).set (5 : Int).toNat 255).set (6 : Int).toNat 255).set (7 : Int).toNat 255)) a0).bind fun t203 => (if t203 = true then ((sieve_May.f k (strOfNums (List.replicate 8 0)) a0).bind fun t207 => (some (!t207))) else (some false))) else (some false))) else (none)) else (none)) else (none)) else (none)) else (none)) else (none)) else (none)) else (none))) else (none)) else (none)) else (none)) else (none)))) = some r := by first | (rw [hy183]; with_reducible exact H) | (have H2_ := (Option.bind_some _ _).symm.trans H; rw [hy183]; with_reducible exact H2_) | (have H2_ := (Option.bind_some _ _).symm.trans H; with_reducible exact H2_) | with_reducible exact H | (rw [hy183]; exact H) | exact H
      have Ny183 := Aside0.mk hy183
      clear hy183
      replace H := Option.bind_eq_some_iff.mp H
      obtain ⟨t186, A70, H⟩ := H
      replace H : (if (wrap64 (8 * (t186.size : Int))) = 0 then (none) else (if 0 ≤ (wrap64 (Int.tdiv (Int.tmod (wrap64 (a1)) (wrap64 (8 * (t186.size : Int)))) 8)) then (if (wrap64 (Int.tdiv (Int.tmod (wrap64 (a1)) (wrap64 (8 * (t186.size : Int)))) 8)) < (t186.size : Int) then (if 0 ≤ (IntKind.u64.wrap (Int.tmod (Int.tmod (wrap64 (a1)) (wrap64 (8 * (t186.size : Int)))) 8)) then (if 8 ≤ 281474976710656 then ((some (List.replicate 8 0 : List Int)).bind fun y191 => (if 0 < (y191.length : Int) then (if 1 < (y191.length : Int) then (if 2 < (y191.length : Int) then (if 3 < (y191.length : Int) then (if 4 < (y191.length : Int) then (if 5 < (y191.length : Int) then (if 6 < (y191.length : Int) then (if 7 < (y191.length : Int) then ((sieve_May.f k (strOfNums ((bytesOf t186).set ((wrap64 (Int.tdiv (Int.tmod (wrap64 (a1)) (wrap64 (8 * (t186.size : Int)))) 8)) : Int).toNat (Go.bits .andNot .u8 (rd (bytesOf t186) (wrap64 (Int.tdiv (Int.tmod (wrap64 (a1)) (wrap64 (8 * (t186.size : Int)))) 8))) (shl .u8 1 (IntKind.u64.wrap (Int.tmod (Int.tmod (wrap64 (a1)) (wrap64 (8 * (t186.size : Int)))) 8)))))) a0).bind fun t202 => (if (t202 == (!((Go.bits .and .u8 (shr .u8 (rd (bytesOf t186) (wrap64 (Int.tdiv (Int.tmod (wrap64 (a1)) (wrap64 (8 * (t186.size : Int)))) 8))) (IntKind.u64.wrap (Int.tmod (Int.tmod (wrap64 (a1)) (wrap64 (8 * (t186.size : Int)))) 8))) 1) == 1))) = true then ((sieve_May.f k (strOfNums ((((((((y191.set (0 : Int).toNat 255).set (1 : Int).toNat 255).set (2 : Int).toNat 255).set (3 : Int).toNat 255).set (4 : Int).toNat 255).set (5 : Int).toNat 255).set (6 : Int).toNat 255).set (7 : Int).toNat 255)) a0).bind fun t203 => (if t203 = true then ((sieve_May.f k (strOfNums (List.replicate 8 0)) a0).bind fun t207 => (some (!t207))) else (some false))) else (some false))) else (none)) else (none)) else (none)) else (none)) else (none)) else (none)) else (none)) else (none))) else (none)) else (none)) else (none)) else (none))) = some r := H
      have A7 := Aside0.mk A70
      clear A70
      by_cases c8 : (wrap64 (8 * (t186.size : Int))) = 0
      · rw [if_pos c8] at H
        exact absurd H (by simp)
      · rw [if_neg c8] at H
        have c8b0 : ((wrap64 (8 * (t186.size : Int))) == 0) = false := beq_eq_false_iff_ne.mpr c8
        have c8b1 : ((wrap64 (8 * (t186.size : Int))) != 0) = true := bne_iff_ne.mpr c8
        obtain ⟨ji9, hji9⟩ : ∃ j_ : Int, (wrap64 (Int.tdiv (Int.tmod (wrap64 (a1)) (wrap64 (8 * (t186.size : Int)))) 8)) = j_ := ⟨_, rfl⟩
        replace H : (if 0 ≤ (ji9) then (if (ji9) < (t186.size : Int) then (if 0 ≤ (IntKind.u64.wrap (Int.tmod (Int.tmod (wrap64 (a1)) (wrap64 (8 * (t186.size : Int)))) 8)) then (if 8 ≤ 281474976710656 then ((some (List.replicate 8 0 : List Int)).bind fun y191 => (if 0 < (y191.length : Int) then (if 1 < (y191.length : Int) then (if 2 < (y191.length : Int) then (if 3 < (y191.length : Int) then (if 4 < (y191.length : Int) then (if 5 < (y191.length : Int) then (if 6 < (y191.length : Int) then (if 7 < (y191.length : Int) then ((sieve_May.f k (strOfNums ((bytesOf t186).set ((ji9) : Int).toNat (Go.bits .andNot .u8 (rd (bytesOf t186) (ji9)) (shl .u8 1 (IntKind.u64.wrap (Int.tmod (Int.tmod (wrap64 (a1)) (wrap64 (8 * (t186.size : Int)))) 8)))))) a0).bind fun t202 => (if (t202 == (!((Go.bits .and .u8 (shr .u8 (rd (bytesOf t186) (ji9)) (IntKind.u64.wrap (Int.tmod (Int.tmod (wrap64 (a1)) (wrap64 (8 * (t186.size : Int)))) 8))) 1) == 1))) = true then ((sieve_May.f k (strOfNums ((((((((y191.set (0 : Int).toNat 255).set (1 : Int).toNat 255).set (2 : Int).toNat 255).set (3 : Int).toNat 255).set (4 : Int).toNat 255).set (5 : Int).toNat 255).set (6 : Int).toNat 255).set (7 : Int).toNat 255)) a0).bind fun t203 => (if t203 = true then ((sieve_May.f k (strOfNums (List.replicate 8 0)) a0).bind fun t207 => (some (!t207))) else (some false))) else (some false))) else (none)) else (none)) else (none)) else (none)) else (none)) else (none)) else (none)) else (none))) else (none)) else (none)) else (none)) else (none)) = some r := by first | (rw [hji9] at H; exact H) | (simp only [hji9] at H ⊢; exact H)
        (try rw [hji9] at A3)
        (try rw [hji9] at A7)
        have hji9w : (IntKind.i64.wrap (Int.tdiv (Int.tmod (wrap64 (a1)) (wrap64 (8 * (t186.size : Int)))) 8)) = ji9 := (i64_w _).trans hji9
        by_cases c10 : 0 ≤ (ji9)
        · rw [if_pos c10] at H
          have c10b0 : decide (0 ≤ (ji9)) = true := decide_eq_true c10
          clear c10
          by_cases c11 : (ji9) < (t186.size : Int)
          · rw [if_pos c11] at H
            have c11b0 : decide ((ji9) < (t186.size : Int)) = true := decide_eq_true c11
            clear c11
            obtain ⟨ji12, hji12⟩ : ∃ j_ : Int, (IntKind.u64.wrap (Int.tmod (Int.tmod (wrap64 (a1)) (wrap64 (8 * (t186.size : Int)))) 8)) = j_ := ⟨_, rfl⟩
            replace H : (if 0 ≤ (ji12) then (if 8 ≤ 281474976710656 then ((some (List.replicate 8 0 : List Int)).bind fun y191 => (if 0 < (y191.length : Int) then (if 1 < (y191.length : Int) then (if 2 < (y191.length : Int) then (if 3 < (y191.length : Int) then (if 4 < (y191.length : Int) then (if 5 < (y191.length : Int) then (if 6 < (y191.length : Int) then (if 7 < (y191.length : Int) then ((sieve_May.f k (strOfNums ((bytesOf t186).set ((ji9) : Int).toNat (Go.bits .andNot .u8 (rd (bytesOf t186) (ji9)) (shl .u8 1 (ji12))))) a0).bind fun t202 => (if (t202 == (!((Go.bits .and .u8 (shr .u8 (rd (bytesOf t186) (ji9)) (ji12)) 1) == 1))) = true then ((sieve_May.f k (strOfNums ((((((((y191.set (0 : Int).toNat 255).set (1 : Int).toNat 255).set (2 : Int).toNat 255).set (3 : Int).toNat 255).set (4 : Int).toNat 255).set (5 : Int).toNat 255).set (6 : Int).toNat 255).set (7 : Int).toNat 255)) a0).bind fun t203 => (if t203 = true then ((sieve_May.f k (strOfNums (List.replicate 8 0)) a0).bind fun t207 => (some (!t207))) else (some false))) else (some false))) else (none)) else (none)) else (none)) else (none)) else (none)) else (none)) else (none)) else (none))) else (none)) else (none)) = some r := by first | (rw [hji12] at H; exact H) | (simp only [hji12] at H ⊢; exact H)
            (try rw [hji12] at A3)
            (try rw [hji12] at A7)
            by_cases c13 : 0 ≤ (ji12)
            · rw [if_pos c13] at H
              have c13b0 := eq_true c13
              have c13b1 : decide (0 ≤ (ji12)) = true := decide_eq_true c13
              clear c13
              obtain ⟨ji14, hji14⟩ : ∃ j_ : Int, (shr .u8 (rd (bytesOf t186) (ji9)) (ji12)) = j_ := ⟨_, rfl⟩
              replace H : (if 8 ≤ 281474976710656 then ((some (List.replicate 8 0 : List Int)).bind fun y191 => (if 0 < (y191.length : Int) then (if 1 < (y191.length : Int) then (if 2 < (y191.length : Int) then (if 3 < (y191.length : Int) then (if 4 < (y191.length : Int) then (if 5 < (y191.length : Int) then (if 6 < (y191.length : Int) then (if 7 < (y191.length : Int) then ((sieve_May.f k (strOfNums ((bytesOf t186).set ((ji9) : Int).toNat (Go.bits .andNot .u8 (rd (bytesOf t186) (ji9)) (shl .u8 1 (ji12))))) a0).bind fun t202 => (if (t202 == (!((Go.bits .and .u8 (ji14) 1) == 1))) = true then ((sieve_May.f k (strOfNums ((((((((y191.set (0 : Int).toNat 255).set (1 : Int).toNat 255).set (2 : Int).toNat 255).set (3 : Int).toNat 255).set (4 : Int).toNat 255).set (5 : Int).toNat 255).set (6 : Int).toNat 255).set (7 : Int).toNat 255)) a0).bind fun t203 => (if t203 = true then ((sieve_May.f k (strOfNums (List.replicate 8 0)) a0).bind fun t207 => (some (!t207))) else (some false))) else (some false))) else (none)) else (none)) else (none)) else (none)) else (none)) else (none)) else (none)) else (none))) else (none)) = some r := by first | (rw [hji14] at H; exact H) | (simp only [hji14] at H ⊢; exact H)
              (try rw [hji14] at A3)
              (try rw [hji14] at A7)
              have hji14_ : ((rd (bytesOf t186) (ji9)) / 2 ^ min (ji12).toNat 8) = ji14 := hji14
              have hji14z : (ji12) ≤ 8 → ((rd (bytesOf t186) (ji9)) / 2 ^ (ji12).toNat) = ji14 := shr_small hji14
              have c15b0 := eq_true (of_decide_eq_true (by first | (with_reducible assumption) | assumption) : 0 ≤ (ji12))
              obtain ⟨ji16, hji16⟩ : ∃ j_ : Int, (shl .u8 1 (ji12)) = j_ := ⟨_, rfl⟩
              replace H : (if 8 ≤ 281474976710656 then ((some (List.replicate 8 0 : List Int)).bind fun y191 => (if 0 < (y191.length : Int) then (if 1 < (y191.length : Int) then (if 2 < (y191.length : Int) then (if 3 < (y191.length : Int) then (if 4 < (y191.length : Int) then (if 5 < (y191.length : Int) then (if 6 < (y191.length : Int) then (if 7 < (y191.length : Int) then ((sieve_May.f k (strOfNums ((bytesOf t186).set ((ji9) : Int).toNat (Go.bits .andNot .u8 (rd (bytesOf t186) (ji9)) (ji16)))) a0).bind fun t202 => (if (t202 == (!((Go.bits .and .u8 (ji14) 1) == 1))) = true then ((sieve_May.f k (strOfNums ((((((((y191.set (0 : Int).toNat 255).set (1 : Int).toNat 255).set (2 : Int).toNat 255).set (3 : Int).toNat 255).set (4 : Int).toNat 255).set (5 : Int).toNat 255).set (6 : Int).toNat 255).set (7 : Int).toNat 255)) a0).bind fun t203 => (if t203 = true then ((sieve_May.f k (strOfNums (List.replicate 8 0)) a0).bind fun t207 => (some (!t207))) else (some false))) else (some false))) else (none)) else (none)) else (none)) else (none)) else (none)) else (none)) else (none)) else (none))) else (none)) = some r := by first | (rw [hji16] at H; exact H) | (simp only [hji16] at H ⊢; exact H)
              (try rw [hji16] at A3)
              (try rw [hji16] at A7)
              have hji16_ : (IntKind.u8.wrap (1 * 2 ^ min (ji12).toNat 8)) = ji16 := hji16
              have hji16z : (ji12) ≤ 8 → (IntKind.u8.wrap (1 * 2 ^ (ji12).toNat)) = ji16 := shl_small hji16
              have hji16u : (IntKind.u8.wrap (2 ^ min (ji12).toNat 8)) = ji16 := by have h_ := hji16_; rw [Int.one_mul] at h_; exact h_
              have hji16v : (ji12) ≤ 8 → (IntKind.u8.wrap (2 ^ (ji12).toNat)) = ji16 := fun hle_ => by have h_ := hji16z hle_; rw [Int.one_mul] at h_; exact h_
              by_cases c17 : 8 ≤ 281474976710656
              · rw [if_pos c17] at H
                have c17b0 := eq_true c17
                have c17b1 : decide (8 ≤ 281474976710656) = true := decide_eq_true c17
                clear c17
                obtain ⟨y191, hy191⟩ : ∃ y_ : List Int, y_ = (List.replicate 8 0) := ⟨_, rfl⟩
                replace H : (if 0 < (y191.length : Int) then (if 1 < (y191.length : Int) then (if 2 < (y191.length : Int) then (if 3 < (y191.length : Int) then (if 4 < (y191.length : Int) then (if 5 < (y191.length : Int) then (if 6 < (y191.length : Int) then (if 7 < (y191.length : Int) then ((sieve_May.f k (strOfNums ((bytesOf t186).set ((ji9) : Int).toNat (Go.bits .andNot .u8 (rd (bytesOf t186) (ji9)) (ji16)))) a0).bind fun t202 => (if (t202 == (!((Go.bits .and .u8 (ji14) 1) == 1))) = true then ((sieve_May.f k (strOfNums ((((((((y191.set (0 : Int).toNat 255).set (1 : Int).toNat 255).set (2 : Int).toNat 255).set (3 : Int).toNat 255).set (4 : Int).toNat 255).set (5 : Int).toNat 255).set (6 : Int).toNat 255).set (7 : Int).toNat 255)) a0).bind fun t203 => (if t203 = true then ((sieve_May.f k (strOfNums (List.replicate 8 0)) a0).bind fun t207 => (some (!t207))) else (some false))) else (some false))) else (none)) else (none)) else (none)) else (none)) else (none)) else (none)) else (none)) else (none)) = some r := by first | (rw [hy191]; with_reducible exact H) | (have H2_ := (Option.bind_some _ _).symm.trans H; rw [hy191]; with_reducible exact H2_) | (have H2_ := (Option.bind_some _ _).symm.trans H; with_reducible exact H2_) | with_reducible exact H | (rw [hy191]; exact H) | exact H
                have Ny191 := Aside0.mk hy191
                clear hy191
                by_cases c18 : 0 < (y191.length : Int)
                · rw [if_pos c18] at H
                  have c18b0 : decide (0 < (y191.length : Int)) = true := decide_eq_true c18
                  have c18b1 : decide (0 < y191.length) = true := decide_eq_true (by omega)
                  clear c18
                  obtain ⟨y194, hy194⟩ : ∃ y_ : List Int, y_ = (y191.set (0 : Int).toNat 255) := ⟨_, rfl⟩
                  replace H : (if 1 < (y191.length : Int) then (if 2 < (y191.length : Int) then (if 3 < (y191.length : Int) then (if 4 < (y191.length : Int) then (if 5 < (y191.length : Int) then (if 6 < (y191.length : Int) then (if 7 < (y191.length : Int) then ((sieve_May.f k (strOfNums ((bytesOf t186).set ((ji9) : Int).toNat (Go.bits .andNot .u8 (rd (bytesOf t186) (ji9)) (ji16)))) a0).bind fun t202 => (if (t202 == (!((Go.bits .and .u8 (ji14) 1) == 1))) = true then ((sieve_May.f k (strOfNums (((((((y194.set (1 : Int).toNat 255).set (2 : Int).toNat 255).set (3 : Int).toNat 255).set (4 : Int).toNat 255).set (5 : Int).toNat 255).set (6 : Int).toNat 255).set (7 : Int).toNat 255)) a0).bind fun t203 => (if t203 = true then ((sieve_May.f k (strOfNums (List.replicate 8 0)) a0).bind fun t207 => (some (!t207))) else (some false))) else (some false))) else (none)) else (none)) else (none)) else (none)) else (none)) else (none)) else (none)) = some r := by first | (rw [hy194]; with_reducible exact H) | (have H2_ := (Option.bind_some _ _).symm.trans H; rw [hy194]; with_reducible exact H2_) | (have H2_ := (Option.bind_some _ _).symm.trans H; with_reducible exact H2_) | with_reducible exact H | (rw [hy194]; exact H) | exact H
                  have Ny194 := Aside0.mk hy194
                  clear hy194
                  by_cases c20 : 1 < (y191.length : Int)
                  · rw [if_pos c20] at H
                    have c20b0 : decide (1 < (y191.length : Int)) = true := decide_eq_true c20
                    have c20b1 : decide (1 < y191.length) = true := decide_eq_true (by omega)
                    clear c20
                    obtain ⟨y195, hy195⟩ : ∃ y_ : List Int, y_ = (y194.set (1 : Int).toNat 255) := ⟨_, rfl⟩
                    replace H : (if 2 < (y191.length : Int) then (if 3 < (y191.length : Int) then (if 4 < (y191.length : Int) then (if 5 < (y191.length : Int) then (if 6 < (y191.length : Int) then (if 7 < (y191.length : Int) then ((sieve_May.f k (strOfNums ((bytesOf t186).set ((ji9) : Int).toNat (Go.bits .andNot .u8 (rd (bytesOf t186) (ji9)) (ji16)))) a0).bind fun t202 => (if (t202 == (!((Go.bits .and .u8 (ji14) 1) == 1))) = true then ((sieve_May.f k (strOfNums ((((((y195.set (2 : Int).toNat 255).set (3 : Int).toNat 255).set (4 : Int).toNat 255).set (5 : Int).toNat 255).set (6 : Int).toNat 255).set (7 : Int).toNat 255)) a0).bind fun t203 => (if t203 = true then ((sieve_May.f k (strOfNums (List.replicate 8 0)) a0).bind fun t207 => (some (!t207))) else (some false))) else (some false))) else (none)) else (none)) else (none)) else (none)) else (none)) else (none)) = some r := by first | (rw [hy195]; with_reducible exact H) | (have H2_ := (Option.bind_some _ _).symm.trans H; rw [hy195]; with_reducible exact H2_) | (have H2_ := (Option.bind_some _ _).symm.trans H; with_reducible exact H2_) | with_reducible exact H | (rw [hy195]; exact H) | exact H
                    have Ny195 := Aside0.mk hy195
                    clear hy195
                    by_cases c22 : 2 < (y191.length : Int)
                    · rw [if_pos c22] at H
                      have c22b0 : decide (2 < (y191.length : Int)) = true := decide_eq_true c22
                      have c22b1 : decide (2 < y191.length) = true := decide_eq_true (by omega)
                      clear c22
                      obtain ⟨y196, hy196⟩ : ∃ y_ : List Int, y_ = (y195.set (2 : Int).toNat 255) := ⟨_, rfl⟩
                      replace H : (if 3 < (y191.length : Int) then (if 4 < (y191.length : Int) then (if 5 < (y191.length : Int) then (if 6 < (y191.length : Int) then (if 7 < (y191.length : Int) then ((sieve_May.f k (strOfNums ((bytesOf t186).set ((ji9) : Int).toNat (Go.bits .andNot .u8 (rd (bytesOf t186) (ji9)) (ji16)))) a0).bind fun t202 => (if (t202 == (!((Go.bits .and .u8 (ji14) 1) == 1))) = true then ((sieve_May.f k (strOfNums (((((y196.set (3 : Int).toNat 255).set (4 : Int).toNat 255).set (5 : Int).toNat 255).set (6 : Int).toNat 255).set (7 : Int).toNat 255)) a0).bind fun t203 => (if t203 = true then ((sieve_May.f k (strOfNums (List.replicate 8 0)) a0).bind fun t207 => (some (!t207))) else (some false))) else (some false))) else (none)) else (none)) else (none)) else (none)) else (none)) = some r := by first | (rw [hy196]; with_reducible exact H) | (have H2_ := (Option.bind_some _ _).symm.trans H; rw [hy196]; with_reducible exact H2_) | (have H2_ := (Option.bind_some _ _).symm.trans H; with_reducible exact H2_) | with_reducible exact H | (rw [hy196]; exact H) | exact H
                      have Ny196 := Aside0.mk hy196
                      clear hy196
                      by_cases c24 : 3 < (y191.length : Int)
                      · rw [if_pos c24] at H
                        have c24b0 : decide (3 < (y191.length : Int)) = true := decide_eq_true c24
                        have c24b1 : decide (3 < y191.length) = true := decide_eq_true (by omega)
                        clear c24
                        obtain ⟨y197, hy197⟩ : ∃ y_ : List Int, y_ = (y196.set (3 : Int).toNat 255) := ⟨_, rfl⟩
                        replace H : (if 4 < (y191.length : Int) then (if 5 < (y191.length : Int) then (if 6 < (y191.length : Int) then (if 7 < (y191.length : Int) then ((sieve_May.f k (strOfNums ((bytesOf t186).set ((ji9) : Int).toNat (Go.bits .andNot .u8 (rd (bytesOf t186) (ji9)) (ji16)))) a0).bind fun t202 => (if (t202 == (!((Go.bits .and .u8 (ji14) 1) == 1))) = true then ((sieve_May.f k (strOfNums ((((y197.set (4 : Int).toNat 255).set (5 : Int).toNat 255).set (6 : Int).toNat 255).set (7 : Int).toNat 255)) a0).bind fun t203 => (if t203 = true then ((sieve_May.f k (strOfNums (List.replicate 8 0)) a0).bind fun t207 => (some (!t207))) else (some false))) else (some false))) else (none)) else (none)) else (none)) else (none)) = some r := by first | (rw [hy197]; with_reducible exact H) | (have H2_ := (Option.bind_some _ _).symm.trans H; rw [hy197]; with_reducible exact H2_) | (have H2_ := (Option.bind_some _ _).symm.trans H; with_reducible exact H2_) | with_reducible exact H | (rw [hy197]; exact H) | exact H
                        have Ny197 := Aside0.mk hy197
                        clear hy197
                        by_cases c26 : 4 < (y191.length : Int)
                        · rw [if_pos c26] at H
                          have c26b0 : decide (4 < (y191.length : Int)) = true := decide_eq_true c26
                          have c26b1 : decide (4 < y191.length) = true := decide_eq_true (by omega)
                          clear c26
                          obtain ⟨y198, hy198⟩ : ∃ y_ : List Int, y_ = (y197.set (4 : Int).toNat 255) := ⟨_, rfl⟩
                          replace H : (if 5 < (y191.length : Int) then (if 6 < (y191.length : Int) then (if 7 < (y191.length : Int) then ((sieve_May.f k (strOfNums ((bytesOf t186).set ((ji9) : Int).toNat (Go.bits .andNot .u8 (rd (bytesOf t186) (ji9)) (ji16)))) a0).bind fun t202 => (if (t202 == (!((Go.bits .and .u8 (ji14) 1) == 1))) = true then ((sieve_May.f k (strOfNums (((y198.set (5 : Int).toNat 255).set (6 : Int).toNat 255).set (7 : Int).toNat 255)) a0).bind fun t203 => (if t203 = true then ((sieve_May.f k (strOfNums (List.replicate 8 0)) a0).bind fun t207 => (some (!t207))) else (some false))) else (some false))) else (none)) else (none)) else (none)) = some r := by first | (rw [hy198]; with_reducible exact H) | (have H2_ := (Option.bind_some _ _).symm.trans H; rw [hy198]; with_reducible exact H2_) | (have H2_ := (Option.bind_some _ _).symm.trans H; with_reducible exact H2_) | with_reducible exact H | (rw [hy198]; exact H) | exact H
                          have Ny198 := Aside0.mk hy198
                          clear hy198
                          by_cases c28 : 5 < (y191.length : Int)
                          · rw [if_pos c28] at H
                            have c28b0 : decide (5 < (y191.length : Int)) = true := decide_eq_true c28
                            have c28b1 : decide (5 < y191.length) = true := decide_eq_true (by omega)
                            clear c28
                            obtain ⟨y199, hy199⟩ : ∃ y_ : List Int, y_ = (y198.set (5 : Int).toNat 255) := ⟨_, rfl⟩
                            replace H : (if 6 < (y191.length : Int) then (if 7 < (y191.length : Int) then ((sieve_May.f k (strOfNums ((bytesOf t186).set ((ji9) : Int).toNat (Go.bits .andNot .u8 (rd (bytesOf t186) (ji9)) (ji16)))) a0).bind fun t202 => (if (t202 == (!((Go.bits .and .u8 (ji14) 1) == 1))) = true then ((sieve_May.f k (strOfNums ((y199.set (6 : Int).toNat 255).set (7 : Int).toNat 255)) a0).bind fun t203 => (if t203 = true then ((sieve_May.f k (strOfNums (List.replicate 8 0)) a0).bind fun t207 => (some (!t207))) else (some false))) else (some false))) else (none)) else (none)) = some r := by first | (rw [hy199]; with_reducible exact H) | (have H2_ := (Option.bind_some _ _).symm.trans H; rw [hy199]; with_reducible exact H2_) | (have H2_ := (Option.bind_some _ _).symm.trans H; with_reducible exact H2_) | with_reducible exact H | (rw [hy199]; exact H) | exact H
                            have Ny199 := Aside0.mk hy199
                            clear hy199
                            by_cases c30 : 6 < (y191.length : Int)
                            · rw [if_pos c30] at H
                              have c30b0 : decide (6 < (y191.length : Int)) = true := decide_eq_true c30
                              have c30b1 : decide (6 < y191.length) = true := decide_eq_true (by omega)
                              clear c30
                              obtain ⟨y200, hy200⟩ : ∃ y_ : List Int, y_ = (y199.set (6 : Int).toNat 255) := ⟨_, rfl⟩
                              replace H : (if 7 < (y191.length : Int) then ((sieve_May.f k (strOfNums ((bytesOf t186).set ((ji9) : Int).toNat (Go.bits .andNot .u8 (rd (bytesOf t186) (ji9)) (ji16)))) a0).bind fun t202 => (if (t202 == (!((Go.bits .and .u8 (ji14) 1) == 1))) = true then ((sieve_May.f k (strOfNums (y200.set (7 : Int).toNat 255)) a0).bind fun t203 => (if t203 = true then ((sieve_May.f k (strOfNums (List.replicate 8 0)) a0).bind fun t207 => (some (!t207))) else (some false))) else (some false))) else (none)) = some r := by first | (rw [hy200]; with_reducible exact H) | (have H2_ := (Option.bind_some _ _).symm.trans H; rw [hy200]; with_reducible exact H2_) | (have H2_ := (Option.bind_some _ _).symm.trans H; with_reducible exact H2_) | with_reducible exact H | (rw [hy200]; exact H) | exact H
                              have Ny200 := Aside0.mk hy200
                              clear hy200
                              by_cases c32 : 7 < (y191.length : Int)
                              · rw [if_pos c32] at H
                                have c32b0 : decide (7 < (y191.length : Int)) = true := decide_eq_true c32
                                have c32b1 : decide (7 < y191.length) = true := decide_eq_true (by omega)
                                clear c32
                                obtain ⟨y201, hy201⟩ : ∃ y_ : List Int, y_ = (y200.set (7 : Int).toNat 255) := ⟨_, rfl⟩
                                replace H : ((sieve_May.f k (strOfNums ((bytesOf t186).set ((ji9) : Int).toNat (Go.bits .andNot .u8 (rd (bytesOf t186) (ji9)) (ji16)))) a0).bind fun t202 => (if (t202 == (!((Go.bits .and .u8 (ji14) 1) == 1))) = true then ((sieve_May.f k (strOfNums y201) a0).bind fun t203 => (if t203 = true then ((sieve_May.f k (strOfNums (List.replicate 8 0)) a0).bind fun t207 => (some (!t207))) else (some false))) else (some false))) = some r := by first | (rw [hy201]; with_reducible exact H) | (have H2_ := (Option.bind_some _ _).symm.trans H; rw [hy201]; with_reducible exact H2_) | (have H2_ := (Option.bind_some _ _).symm.trans H; with_reducible exact H2_) | with_reducible exact H | (rw [hy201]; exact H) | exact H
                                have Ny201 := Aside0.mk hy201
                                clear hy201
                                replace H := Option.bind_eq_some_iff.mp H
                                obtain ⟨t202, A340, H⟩ := H
                                replace H : (if (t202 == (!((Go.bits .and .u8 (ji14) 1) == 1))) = true then ((sieve_May.f k (strOfNums y201) a0).bind fun t203 => (if t203 = true then ((sieve_May.f k (strOfNums (List.replicate 8 0)) a0).bind fun t207 => (some (!t207))) else (some false))) else (some false)) = some r := H
                                have A34 := Aside0.mk A340
                                clear A340
                                by_cases c35 : (t202 == (!((Go.bits .and .u8 (ji14) 1) == 1))) = true
                                · rw [if_pos c35] at H
                                  have c35b0 : (t202 == (!((Go.bits .and .u8 (ji14) 1) == 1))) = true := c35
                                  (try (have c35b1 : decide (t202 = (!((Go.bits .and .u8 (ji14) 1) == 1))) = true := by simpa using c35))
                                  (try (have c35b2 : (t202 == (!((Go.bits .and .u8 (ji14) 1) == 1))) = true := by simpa using c35))
                                  (try (have c35b3 : ((!((Go.bits .and .u8 (ji14) 1) == 1))) = t202 := by have h_ := c35; revert h_; generalize t202 = u_; generalize (!((Go.bits .and .u8 (ji14) 1) == 1)) = v_; cases u_ <;> cases v_ <;> simp))
                                  clear c35
                                  replace H := Option.bind_eq_some_iff.mp H
                                  obtain ⟨t203, A360, H⟩ := H
                                  replace H : (if t203 = true then ((sieve_May.f k (strOfNums (List.replicate 8 0)) a0).bind fun t207 => (some (!t207))) else (some false)) = some r := H
                                  have A36 := Aside0.mk A360
                                  clear A360
                                  by_cases c37 : t203 = true
                                  · subst c37
                                    have H1 : ((sieve_May.f k (strOfNums (List.replicate 8 0)) a0).bind fun t207 => (some (!t207))) = some r := by rw [if_pos rfl] at H; exact H
                                    clear H
                                    have H := H1
                                    clear H1
                                    obtain ⟨y204, hy204⟩ : ∃ y_ : List Int, y_ = (List.replicate 8 0) := ⟨_, rfl⟩
                                    replace H : ((sieve_May.f k (strOfNums y204) a0).bind fun t207 => (some (!t207))) = some r := by first | (rw [hy204]; with_reducible exact H) | (have H2_ := (Option.bind_some _ _).symm.trans H; rw [hy204]; with_reducible exact H2_) | (have H2_ := (Option.bind_some _ _).symm.trans H; with_reducible exact H2_) | with_reducible exact H | (rw [hy204]; exact H) | exact H
                                    have Ny204 := Aside0.mk hy204
                                    clear hy204
                                    replace H := Option.bind_eq_some_iff.mp H
                                    obtain ⟨t207, A380, H⟩ := H
                                    replace H : (some (!t207)) = some r := H
                                    have A38 := Aside0.mk A380
                                    clear A380
                                    obtain rfl := Option.some.inj H
                                    go_enter Try.func6, Try.ntmps6
                                    go_wp2_with (first | ((with_reducible refine gate_callee (f := 7) rfl ?_); refine goesL_ (some 10) rfl rfl Try.func7 (by kernel_rfl) rfl #[] rfl (by (try simp only [List.map_toArray, List.map_cons, List.map_nil]); first | done | rfl | (simp only [List.length_drop, List.length_take]; rfl)) ?_; (with_reducible refine (ravelinlaw7_known.calls k  true _ A3.out (by first | rfl | assumption | exact of_decide_eq_true (by assumption))).mono ?_); rintro e w39 ⟨rfl, hb⟩; refine ⟨_, rfl, ?_⟩; have n0_ := Aside0.mk (below_step (by repeat (first | (with_reducible first | exact HB.out | apply below_alloc | apply pw_below_drewN | apply below_drew1) | exact HB.out)) hb); clear HB; have HB := n0_; clear n0_; (try clear hb); (try clear hb2); (try clear hk); (try clear hi)) | ((with_reducible refine gate_dst (N := 16) rfl ?_); (try (refine gate_guard (by rfl) ?_; dsimp only)); refine Kd.R_lit Kd.string _ 9 ?hg (N := 16) ?hd (xs := ([a0] : List ByteArray)) (inner := [.string a0]) (ok := fun _ => True) (okp := fun _ => True) ?hr ?hp (fun _ hk => hk) trivial (Below.refl _ _) (Nat.le_refl _) (by simp) ?_; (case hd => rfl); (case hg => rfl); (case hr => first | (go_simp; done) | (go_simp; rfl)); (case hp => exact (Reps.one (show Kd.M Kd.string _ _ _ a0 [.string a0] from rfl) (Reps.none _ _))); intro v184 w40 ho41 hb hg_ hnew_; clear hg_ hnew_; (first | rw [← Ny183.out] at ho41 | (simp only [Int.reduceToNat] at ho41; rw [← Ny183.out] at ho41)); have n0_ := Aside0.mk (Kd.R_lower ho41 (below_size (by repeat (first | (with_reducible first | exact HB.out | apply below_alloc | apply pw_below_drewN | apply below_drew1) | exact HB.out)))); have n1_ := Aside0.mk (below_step (by repeat (first | (with_reducible first | exact HB.out | apply below_alloc | apply pw_below_drewN | apply below_drew1) | exact HB.out)) hb); clear HB; have HO185 := n0_; have HB := n1_; clear n0_ n1_; clear hb ho41; obtain ⟨Ao42, co42, eo42⟩ := Kd.R_slice HO185.out; subst eo42) | ((with_reducible refine gate_callee (f := 11) rfl ?_); refine goesL_ (some 17) rfl rfl Try.func11 (by kernel_rfl) rfl #[.slice Ao42 y183.length co42] rfl (by (try simp only [List.map_toArray, List.map_cons, List.map_nil]); first | done | rfl | (simp only [List.length_drop, List.length_take]; rfl)) ?_; (with_reducible refine (sieve_Make.calls k _ _ y183 t186 _ ?side1 ?side2 A7.out).mono ?_); (case side1 => repeat (first | exact (Kd.R_reads' HO185.out).2.2 | (with_reducible refine Kd.C_alloc ?_ _) | (with_reducible refine Kd.C_drewN ?_ _) | (with_reducible refine Kd.C_drew ?_))); (case side2 => exact (Kd.R_reads' HO185.out).2.1); rintro e w43 ⟨rfl, hb⟩; refine ⟨_, rfl, ?_⟩; have n0_ := Aside0.mk (Kd.R_below (by (with_reducible repeat (first | apply Kd.R_alloc | apply Kd.R_drewN | apply Kd.R_drew)); exact HO185.out) hb); have n1_ := Aside0.mk (below_step (by repeat (first | (with_reducible first | exact HB.out | apply below_alloc | apply pw_below_drewN | apply below_drew1) | exact HB.out)) hb); clear HO185; clear HB; have HO185 := n0_; have HB := n1_; clear n0_ n1_; (try clear hb); (try clear hb2); (try clear hk); (try clear hi)) | ((with_reducible refine gate_dst (N := 18) rfl ?_); (try (refine gate_guard (by rfl) ?_; dsimp only)); refine conv_event (N := 18) (src := 9) (dst := 33) (e := 5) (x := .tmp 17) (s := t186) ?hg ?hd ?ho ?hx Try.underlying9 Try.underlying33 Try.underlying5 ?_; (case hd => rfl); (case hg => rfl); (case ho => rfl); (case hx => rfl); intro gy187 hg cy187 w44 hy hb; have n0_ := Aside0.mk (Kd.R_below (by (with_reducible repeat (first | apply Kd.R_alloc | apply Kd.R_drewN | apply Kd.R_drew)); exact HO185.out) hb); have n1_ := Aside0.mk (below_step (by repeat (first | (with_reducible first | exact HB.out | apply below_alloc | apply pw_below_drewN | apply below_drew1) | exact HB.out)) hb); have n2_ := Aside0.mk (hy); have n3_ := Aside0.mk ((by rw [hg]; exact (below_size (by repeat (first | (with_reducible first | exact HB.out | apply below_alloc | apply pw_below_drewN | apply below_drew1) | exact HB.out))) : w.heap.size ≤ gy187)); clear HO185; clear HB; have HO185 := n0_; have HB := n1_; have HY187 := n2_; have GY187 := n3_; clear n0_ n1_ n2_ n3_; clear hb hy hg; have PY188 := Aside0.mk (of_decide_eq_true (by first | (with_reducible assumption) | assumption) : 0 ≤ ((ji9) : Int)); have QY188 := Aside0.mk ((of_decide_eq_true (by first | (with_reducible assumption) | assumption)) : ((ji9) : Int) < (t186.size : Int)); have pz188 := eq_true PY188.out; have qz188 := eq_true QY188.out; have hcy188 := by_cell HY187.out ((ji9) : Int) PY188.out (by simp only [List.length_set, bytesOf_length]; exact QY188.out); have hfy188 := by_free HY187.out ((ji9) : Int) PY188.out (by simp only [List.length_set, bytesOf_length]; exact QY188.out); have PY189 := Aside0.mk (of_decide_eq_true (by first | (with_reducible assumption) | assumption) : 0 ≤ ((ji9) : Int)); have QY189 := Aside0.mk ((of_decide_eq_true (by first | (with_reducible assumption) | assumption)) : ((ji9) : Int) < (t186.size : Int)); have pz189 := eq_true PY189.out; have qz189 := eq_true QY189.out; have hcy189 := by_cell HY187.out ((ji9) : Int) PY189.out (by simp only [List.length_set, bytesOf_length]; exact QY189.out); have hfy189 := by_free HY187.out ((ji9) : Int) PY189.out (by simp only [List.length_set, bytesOf_length]; exact QY189.out); have PY190 := Aside0.mk (of_decide_eq_true (by first | (with_reducible assumption) | assumption) : 0 ≤ ((ji9) : Int)); have QY190 := Aside0.mk ((of_decide_eq_true (by first | (with_reducible assumption) | assumption)) : ((ji9) : Int) < (t186.size : Int)); have pz190 := eq_true PY190.out; have qz190 := eq_true QY190.out; have hcy190 := by_cell HY187.out ((ji9) : Int) PY190.out (by simp only [List.length_set, bytesOf_length]; exact QY190.out); have hfy190 := by_free HY187.out ((ji9) : Int) PY190.out (by simp only [List.length_set, bytesOf_length]; exact QY190.out)) | ((with_reducible refine gate_store (t := 5) (p := 49) rfl ?_); refine store_event (t := 5) (p := 49) (v := ?vo_w45) (w1 := (w44.setCell ⟨gy187, ((ji9) : Int).toNat, none⟩ (.int .u8 (Go.bits .andNot .u8 (rd (bytesOf t186) (ji9)) (ji16))))) ?hg ?ho ?hn ?hr ?_; (case ho => rfl); (case hg => rfl); (case hn => rfl); (case hr => first | (go_simp; done) | (go_simp; rfl)); intro w45 hw; have n0_ := Aside0.mk (by_R HY187.out (by (with_reducible repeat (first | apply Kd.R_alloc | apply Kd.R_drewN | apply Kd.R_drew)); exact HO185.out) hw); have n1_ := Aside0.mk ((by rw [hw]; exact below_set (by repeat (first | (with_reducible first | exact HB.out | apply below_alloc | apply pw_below_drewN | apply below_drew1) | exact HB.out)) GY187.out : Below w.heap.size w w45)); have n2_ := Aside0.mk ((by rw [hw]; exact by_set HY187.out ((ji9) : Int) PY190.out (by simp only [List.length_set, bytesOf_length]; exact QY190.out) (Go.bits .andNot .u8 (rd (bytesOf t186) (ji9)) (ji16)) : ByRow w45 gy187 5 ((bytesOf t186).set ((ji9) : Int).toNat (Go.bits .andNot .u8 (rd (bytesOf t186) (ji9)) (ji16))))); clear HO185; clear HB; clear HY187; have HO185 := n0_; have HB := n1_; have HY187 := n2_; clear n0_ n1_ n2_; clear hw) | ((with_reducible refine gate_dst (N := 50) rfl ?_); (try (refine gate_guard (by rfl) ?_; dsimp only)); refine Kd.R_make (Kd.int .u8) _ 5 rfl (N := 50) rfl 33 _ _ rfl 8 rfl rfl Try.underlying33 (.int .u8 0) 1 info5 rfl (by decide) (by omega) 0 (ok := fun _ => True) (okp := fun _ => True) rfl (fun _ hk => hk) trivial (by omega) (by omega) (Below.refl _ _) (Nat.le_refl _) ?_; intro v192 w46 ho47 hb hg_ hnew_; clear hg_ hnew_; (first | rw [← Ny191.out] at ho47 | (simp only [Int.reduceToNat] at ho47; rw [← Ny191.out] at ho47)); have n0_ := Aside0.mk (Kd.R_below (by (with_reducible repeat (first | apply Kd.R_alloc | apply Kd.R_drewN | apply Kd.R_drew)); exact HO185.out) hb); have n1_ := Aside0.mk (Kd.R_lower ho47 (below_size (by repeat (first | (with_reducible first | exact HB.out | apply below_alloc | apply pw_below_drewN | apply below_drew1) | exact HB.out)))); have n2_ := Aside0.mk (by_below HY187.out hb); have n3_ := Aside0.mk (below_step (by repeat (first | (with_reducible first | exact HB.out | apply below_alloc | apply pw_below_drewN | apply below_drew1) | exact HB.out)) hb); clear HO185; clear HY187; clear HB; have HO185 := n0_; have HO193 := n1_; have HY187 := n2_; have HB := n3_; clear n0_ n1_ n2_ n3_; clear hb ho47))
                                    refine wp_loop_rounds 9 ?_
                                    rw [rounds_succ]
                                    have p19 : 0 ≤ (0 : Int) := (by omega)
                                    have q19 : (0 : Int) < ((y191.length : Int) : Int) := of_decide_eq_true (by first | (with_reducible assumption) | assumption)
                                    have qi19 : (0 < y191.length) = True := eq_true (by omega)
                                    obtain ⟨go19, co19, eo19, gb19, gl19, cl19, HG19⟩ := Kd.R_form HO193.out (by omega)
                                    (first | cases eo19 | (injection eo19 with ea_ en_ ec_; (first | subst ea_ | (injection ea_ with ea_; subst ea_)); subst ec_; clear en_))
                                    have GB19 := Aside0.mk gb19
                                    have GG19 := Aside0.mk HG19
                                    clear gb19 gl19 HG19
                                    obtain ⟨hx19_0, hf19_0⟩ := Kd.R_celln 0 HO193.out (0 : Int) p19 q19
                                    (try rw [show ((0 : Int)).toNat = 0 from rfl] at hx19_0)
                                    (try simp only [Nat.reduceMul, Nat.zero_mul, Nat.zero_add, Nat.reduceAdd] at hx19_0)
                                    (try rw [show ((0 : Int)).toNat = 0 from rfl] at hf19_0)
                                    (try simp only [Nat.reduceMul, Nat.zero_mul, Nat.zero_add, Nat.reduceAdd] at hf19_0)
                                    replace p19 := eq_true p19
                                    replace q19 := eq_true q19
                                    obtain ⟨hy48_, hz48_⟩ := Kd.R_celln 0 HO193.out (0 : Int) (by omega) (of_decide_eq_true (by first | (with_reducible assumption) | assumption))
                                    (try simp only [Int.reduceToNat, Int.toNat_zero, Int.toNat_ofNat, Nat.reduceMul, Nat.zero_mul, Nat.zero_add] at hy48_ hz48_)
                                    (try rw [show ((0 : Int)).toNat = 0 from rfl] at hy48_)
                                    (try rw [show ((0 : Int)).toNat = 0 from rfl] at hz48_)
                                    have HP48 := Kd.R_putg HO193.out (0 : Int) 255
                                    go_wp2_with (first | ((with_reducible refine gate_store (t := 5) (p := 57) rfl ?_); refine store_event (t := 5) (p := 57) (v := ?vo_w49) (w1 := (w46.setCell ⟨go19, (0 : Int).toNat, none⟩ (.int .u8 255))) ?hg ?ho ?hn ?hr ?_; (case ho => rfl); (case hg => rfl); (case hn => rfl); (case hr => first | (go_simp; done) | (go_simp; rfl)); intro w49 hw; have hg : w46.grownBy w49 (some go19) := (by rw [hw]; exact HP48.2); have hp_ : Kd.R (Kd.int .u8) 5 w49 w.heap.size (fun _ => True) (.slice (some ⟨go19, 0, none⟩) y191.length co19) y194 := (by rw [hw, Ny194.out]; exact HP48.1); clear HP48; have n0_ := Aside0.mk (Kd.R_over' (v := (.slice (some ⟨go19, 0, none⟩) y191.length co19)) (by (with_reducible repeat (first | apply Kd.R_alloc | apply Kd.R_drewN | apply Kd.R_drew)); exact HO185.out) (Kd.R_typed HO193.out) (by decide) hg); have n1_ := Aside0.mk (hp_); have n2_ := Aside0.mk ((by rw [hw]; exact below_set (HB.out) GB19.out : Below w.heap.size w w49)); have n3_ := Aside0.mk (by_grown HY187.out hg (by_own_ne (v := (.slice (some ⟨go19, 0, none⟩) y191.length co19)) HY187.out (by (with_reducible repeat (first | apply Kd.R_alloc | apply Kd.R_drewN | apply Kd.R_drew)); exact HO193.out))); clear HO185; clear HO193; clear HB; clear HY187; have HO185 := n0_; have HO193 := n1_; have HB := n2_; have HY187 := n3_; clear n0_ n1_ n2_ n3_; clear hg hw hp_))
                                    rw [rounds_succ]
                                    have p21 : 0 ≤ (1 : Int) := (by omega)
                                    have q21 : (1 : Int) < ((y191.length : Int) : Int) := of_decide_eq_true (by first | (with_reducible assumption) | assumption)
                                    have qi21 : (1 < y191.length) = True := eq_true (by omega)
                                    obtain ⟨hx21_0, hf21_0⟩ := Kd.R_celln 0 HO193.out (1 : Int) p21 q21
                                    (try rw [show ((1 : Int)).toNat = 1 from rfl] at hx21_0)
                                    (try simp only [Nat.reduceMul, Nat.zero_mul, Nat.zero_add, Nat.reduceAdd] at hx21_0)
                                    (try rw [show ((1 : Int)).toNat = 1 from rfl] at hf21_0)
                                    (try simp only [Nat.reduceMul, Nat.zero_mul, Nat.zero_add, Nat.reduceAdd] at hf21_0)
                                    replace p21 := eq_true p21
                                    replace q21 := eq_true q21
                                    obtain ⟨hy50_, hz50_⟩ := Kd.R_celln 0 HO193.out (1 : Int) (by omega) (of_decide_eq_true (by first | (with_reducible assumption) | assumption))
                                    (try simp only [Int.reduceToNat, Int.toNat_zero, Int.toNat_ofNat, Nat.reduceMul, Nat.zero_mul, Nat.zero_add] at hy50_ hz50_)
                                    (try rw [show ((1 : Int)).toNat = 1 from rfl] at hy50_)
                                    (try rw [show ((1 : Int)).toNat = 1 from rfl] at hz50_)
                                    have HP50 := Kd.R_putg HO193.out (1 : Int) 255
                                    go_wp2_with (first | ((with_reducible refine gate_store (t := 5) (p := 57) rfl ?_); refine store_event (t := 5) (p := 57) (v := ?vo_w51) (w1 := (w49.setCell ⟨go19, (1 : Int).toNat, none⟩ (.int .u8 255))) ?hg ?ho ?hn ?hr ?_; (case ho => rfl); (case hg => rfl); (case hn => rfl); (case hr => first | (go_simp; done) | (go_simp; rfl)); intro w51 hw; have hg : w49.grownBy w51 (some go19) := (by rw [hw]; exact HP50.2); have hp_ : Kd.R (Kd.int .u8) 5 w51 w.heap.size (fun _ => True) (.slice (some ⟨go19, 0, none⟩) y191.length co19) y195 := (by rw [hw, Ny195.out]; exact HP50.1); clear HP50; have n0_ := Aside0.mk (Kd.R_over' (v := (.slice (some ⟨go19, 0, none⟩) y191.length co19)) (by (with_reducible repeat (first | apply Kd.R_alloc | apply Kd.R_drewN | apply Kd.R_drew)); exact HO185.out) (Kd.R_typed HO193.out) (by decide) hg); have n1_ := Aside0.mk (hp_); have n2_ := Aside0.mk ((by rw [hw]; exact below_set (HB.out) GB19.out : Below w.heap.size w w51)); have n3_ := Aside0.mk (by_grown HY187.out hg (by_own_ne (v := (.slice (some ⟨go19, 0, none⟩) y191.length co19)) HY187.out (by (with_reducible repeat (first | apply Kd.R_alloc | apply Kd.R_drewN | apply Kd.R_drew)); exact HO193.out))); clear HO185; clear HO193; clear HB; clear HY187; have HO185 := n0_; have HO193 := n1_; have HB := n2_; have HY187 := n3_; clear n0_ n1_ n2_ n3_; clear hg hw hp_))
                                    rw [rounds_succ]
                                    have p23 : 0 ≤ (2 : Int) := (by omega)
                                    have q23 : (2 : Int) < ((y191.length : Int) : Int) := of_decide_eq_true (by first | (with_reducible assumption) | assumption)
                                    have qi23 : (2 < y191.length) = True := eq_true (by omega)
                                    obtain ⟨hx23_0, hf23_0⟩ := Kd.R_celln 0 HO193.out (2 : Int) p23 q23
                                    (try rw [show ((2 : Int)).toNat = 2 from rfl] at hx23_0)
                                    (try simp only [Nat.reduceMul, Nat.zero_mul, Nat.zero_add, Nat.reduceAdd] at hx23_0)
                                    (try rw [show ((2 : Int)).toNat = 2 from rfl] at hf23_0)
                                    (try simp only [Nat.reduceMul, Nat.zero_mul, Nat.zero_add, Nat.reduceAdd] at hf23_0)
                                    replace p23 := eq_true p23
                                    replace q23 := eq_true q23
                                    obtain ⟨hy52_, hz52_⟩ := Kd.R_celln 0 HO193.out (2 : Int) (by omega) (of_decide_eq_true (by first | (with_reducible assumption) | assumption))
                                    (try simp only [Int.reduceToNat, Int.toNat_zero, Int.toNat_ofNat, Nat.reduceMul, Nat.zero_mul, Nat.zero_add] at hy52_ hz52_)
                                    (try rw [show ((2 : Int)).toNat = 2 from rfl] at hy52_)
                                    (try rw [show ((2 : Int)).toNat = 2 from rfl] at hz52_)
                                    have HP52 := Kd.R_putg HO193.out (2 : Int) 255
                                    go_wp2_with (first | ((with_reducible refine gate_store (t := 5) (p := 57) rfl ?_); refine store_event (t := 5) (p := 57) (v := ?vo_w53) (w1 := (w51.setCell ⟨go19, (2 : Int).toNat, none⟩ (.int .u8 255))) ?hg ?ho ?hn ?hr ?_; (case ho => rfl); (case hg => rfl); (case hn => rfl); (case hr => first | (go_simp; done) | (go_simp; rfl)); intro w53 hw; have hg : w51.grownBy w53 (some go19) := (by rw [hw]; exact HP52.2); have hp_ : Kd.R (Kd.int .u8) 5 w53 w.heap.size (fun _ => True) (.slice (some ⟨go19, 0, none⟩) y191.length co19) y196 := (by rw [hw, Ny196.out]; exact HP52.1); clear HP52; have n0_ := Aside0.mk (Kd.R_over' (v := (.slice (some ⟨go19, 0, none⟩) y191.length co19)) (by (with_reducible repeat (first | apply Kd.R_alloc | apply Kd.R_drewN | apply Kd.R_drew)); exact HO185.out) (Kd.R_typed HO193.out) (by decide) hg); have n1_ := Aside0.mk (hp_); have n2_ := Aside0.mk ((by rw [hw]; exact below_set (HB.out) GB19.out : Below w.heap.size w w53)); have n3_ := Aside0.mk (by_grown HY187.out hg (by_own_ne (v := (.slice (some ⟨go19, 0, none⟩) y191.length co19)) HY187.out (by (with_reducible repeat (first | apply Kd.R_alloc | apply Kd.R_drewN | apply Kd.R_drew)); exact HO193.out))); clear HO185; clear HO193; clear HB; clear HY187; have HO185 := n0_; have HO193 := n1_; have HB := n2_; have HY187 := n3_; clear n0_ n1_ n2_ n3_; clear hg hw hp_))
                                    rw [rounds_succ]
                                    have p25 : 0 ≤ (3 : Int) := (by omega)
                                    have q25 : (3 : Int) < ((y191.length : Int) : Int) := of_decide_eq_true (by first | (with_reducible assumption) | assumption)
                                    have qi25 : (3 < y191.length) = True := eq_true (by omega)
                                    obtain ⟨hx25_0, hf25_0⟩ := Kd.R_celln 0 HO193.out (3 : Int) p25 q25
                                    (try rw [show ((3 : Int)).toNat = 3 from rfl] at hx25_0)
                                    (try simp only [Nat.reduceMul, Nat.zero_mul, Nat.zero_add, Nat.reduceAdd] at hx25_0)
                                    (try rw [show ((3 : Int)).toNat = 3 from rfl] at hf25_0)
                                    (try simp only [Nat.reduceMul, Nat.zero_mul, Nat.zero_add, Nat.reduceAdd] at hf25_0)
                                    replace p25 := eq_true p25
                                    replace q25 := eq_true q25
                                    obtain ⟨hy54_, hz54_⟩ := Kd.R_celln 0 HO193.out (3 : Int) (by omega) (of_decide_eq_true (by first | (with_reducible assumption) | assumption))
                                    (try simp only [Int.reduceToNat, Int.toNat_zero, Int.toNat_ofNat, Nat.reduceMul, Nat.zero_mul, Nat.zero_add] at hy54_ hz54_)
                                    (try rw [show ((3 : Int)).toNat = 3 from rfl] at hy54_)
                                    (try rw [show ((3 : Int)).toNat = 3 from rfl] at hz54_)
                                    have HP54 := Kd.R_putg HO193.out (3 : Int) 255
                                    go_wp2_with (first | ((with_reducible refine gate_store (t := 5) (p := 57) rfl ?_); refine store_event (t := 5) (p := 57) (v := ?vo_w55) (w1 := (w53.setCell ⟨go19, (3 : Int).toNat, none⟩ (.int .u8 255))) ?hg ?ho ?hn ?hr ?_; (case ho => rfl); (case hg => rfl); (case hn => rfl); (case hr => first | (go_simp; done) | (go_simp; rfl)); intro w55 hw; have hg : w53.grownBy w55 (some go19) := (by rw [hw]; exact HP54.2); have hp_ : Kd.R (Kd.int .u8) 5 w55 w.heap.size (fun _ => True) (.slice (some ⟨go19, 0, none⟩) y191.length co19) y197 := (by rw [hw, Ny197.out]; exact HP54.1); clear HP54; have n0_ := Aside0.mk (Kd.R_over' (v := (.slice (some ⟨go19, 0, none⟩) y191.length co19)) (by (with_reducible repeat (first | apply Kd.R_alloc | apply Kd.R_drewN | apply Kd.R_drew)); exact HO185.out) (Kd.R_typed HO193.out) (by decide) hg); have n1_ := Aside0.mk (hp_); have n2_ := Aside0.mk ((by rw [hw]; exact below_set (HB.out) GB19.out : Below w.heap.size w w55)); have n3_ := Aside0.mk (by_grown HY187.out hg (by_own_ne (v := (.slice (some ⟨go19, 0, none⟩) y191.length co19)) HY187.out (by (with_reducible repeat (first | apply Kd.R_alloc | apply Kd.R_drewN | apply Kd.R_drew)); exact HO193.out))); clear HO185; clear HO193; clear HB; clear HY187; have HO185 := n0_; have HO193 := n1_; have HB := n2_; have HY187 := n3_; clear n0_ n1_ n2_ n3_; clear hg hw hp_))
                                    rw [rounds_succ]
                                    have p27 : 0 ≤ (4 : Int) := (by omega)
                                    have q27 : (4 : Int) < ((y191.length : Int) : Int) := of_decide_eq_true (by first | (with_reducible assumption) | assumption)
                                    have qi27 : (4 < y191.length) = True := eq_true (by omega)
                                    obtain ⟨hx27_0, hf27_0⟩ := Kd.R_celln 0 HO193.out (4 : Int) p27 q27
                                    (try rw [show ((4 : Int)).toNat = 4 from rfl] at hx27_0)
                                    (try simp only [Nat.reduceMul, Nat.zero_mul, Nat.zero_add, Nat.reduceAdd] at hx27_0)
                                    (try rw [show ((4 : Int)).toNat = 4 from rfl] at hf27_0)
                                    (try simp only [Nat.reduceMul, Nat.zero_mul, Nat.zero_add, Nat.reduceAdd] at hf27_0)
                                    replace p27 := eq_true p27
                                    replace q27 := eq_true q27
                                    obtain ⟨hy56_, hz56_⟩ := Kd.R_celln 0 HO193.out (4 : Int) (by omega) (of_decide_eq_true (by first | (with_reducible assumption) | assumption))
                                    (try simp only [Int.reduceToNat, Int.toNat_zero, Int.toNat_ofNat, Nat.reduceMul, Nat.zero_mul, Nat.zero_add] at hy56_ hz56_)
                                    (try rw [show ((4 : Int)).toNat = 4 from rfl] at hy56_)
                                    (try rw [show ((4 : Int)).toNat = 4 from rfl] at hz56_)
                                    have HP56 := Kd.R_putg HO193.out (4 : Int) 255
                                    go_wp2_with (first | ((with_reducible refine gate_store (t := 5) (p := 57) rfl ?_); refine store_event (t := 5) (p := 57) (v := ?vo_w57) (w1 := (w55.setCell ⟨go19, (4 : Int).toNat, none⟩ (.int .u8 255))) ?hg ?ho ?hn ?hr ?_; (case ho => rfl); (case hg => rfl); (case hn => rfl); (case hr => first | (go_simp; done) | (go_simp; rfl)); intro w57 hw; have hg : w55.grownBy w57 (some go19) := (by rw [hw]; exact HP56.2); have hp_ : Kd.R (Kd.int .u8) 5 w57 w.heap.size (fun _ => True) (.slice (some ⟨go19, 0, none⟩) y191.length co19) y198 := (by rw [hw, Ny198.out]; exact HP56.1); clear HP56; have n0_ := Aside0.mk (Kd.R_over' (v := (.slice (some ⟨go19, 0, none⟩) y191.length co19)) (by (with_reducible repeat (first | apply Kd.R_alloc | apply Kd.R_drewN | apply Kd.R_drew)); exact HO185.out) (Kd.R_typed HO193.out) (by decide) hg); have n1_ := Aside0.mk (hp_); have n2_ := Aside0.mk ((by rw [hw]; exact below_set (HB.out) GB19.out : Below w.heap.size w w57)); have n3_ := Aside0.mk (by_grown HY187.out hg (by_own_ne (v := (.slice (some ⟨go19, 0, none⟩) y191.length co19)) HY187.out (by (with_reducible repeat (first | apply Kd.R_alloc | apply Kd.R_drewN | apply Kd.R_drew)); exact HO193.out))); clear HO185; clear HO193; clear HB; clear HY187; have HO185 := n0_; have HO193 := n1_; have HB := n2_; have HY187 := n3_; clear n0_ n1_ n2_ n3_; clear hg hw hp_))
                                    rw [rounds_succ]
                                    have p29 : 0 ≤ (5 : Int) := (by omega)
                                    have q29 : (5 : Int) < ((y191.length : Int) : Int) := of_decide_eq_true (by first | (with_reducible assumption) | assumption)
                                    have qi29 : (5 < y191.length) = True := eq_true (by omega)
                                    obtain ⟨hx29_0, hf29_0⟩ := Kd.R_celln 0 HO193.out (5 : Int) p29 q29
                                    (try rw [show ((5 : Int)).toNat = 5 from rfl] at hx29_0)
                                    (try simp only [Nat.reduceMul, Nat.zero_mul, Nat.zero_add, Nat.reduceAdd] at hx29_0)
                                    (try rw [show ((5 : Int)).toNat = 5 from rfl] at hf29_0)
                                    (try simp only [Nat.reduceMul, Nat.zero_mul, Nat.zero_add, Nat.reduceAdd] at hf29_0)
                                    replace p29 := eq_true p29
                                    replace q29 := eq_true q29
                                    obtain ⟨hy58_, hz58_⟩ := Kd.R_celln 0 HO193.out (5 : Int) (by omega) (of_decide_eq_true (by first | (with_reducible assumption) | assumption))
                                    (try simp only [Int.reduceToNat, Int.toNat_zero, Int.toNat_ofNat, Nat.reduceMul, Nat.zero_mul, Nat.zero_add] at hy58_ hz58_)
                                    (try rw [show ((5 : Int)).toNat = 5 from rfl] at hy58_)
                                    (try rw [show ((5 : Int)).toNat = 5 from rfl] at hz58_)
                                    have HP58 := Kd.R_putg HO193.out (5 : Int) 255
                                    go_wp2_with (first | ((with_reducible refine gate_store (t := 5) (p := 57) rfl ?_); refine store_event (t := 5) (p := 57) (v := ?vo_w59) (w1 := (w57.setCell ⟨go19, (5 : Int).toNat, none⟩ (.int .u8 255))) ?hg ?ho ?hn ?hr ?_; (case ho => rfl); (case hg => rfl); (case hn => rfl); (case hr => first | (go_simp; done) | (go_simp; rfl)); intro w59 hw; have hg : w57.grownBy w59 (some go19) := (by rw [hw]; exact HP58.2); have hp_ : Kd.R (Kd.int .u8) 5 w59 w.heap.size (fun _ => True) (.slice (some ⟨go19, 0, none⟩) y191.length co19) y199 := (by rw [hw, Ny199.out]; exact HP58.1); clear HP58; have n0_ := Aside0.mk (Kd.R_over' (v := (.slice (some ⟨go19, 0, none⟩) y191.length co19)) (by (with_reducible repeat (first | apply Kd.R_alloc | apply Kd.R_drewN | apply Kd.R_drew)); exact HO185.out) (Kd.R_typed HO193.out) (by decide) hg); have n1_ := Aside0.mk (hp_); have n2_ := Aside0.mk ((by rw [hw]; exact below_set (HB.out) GB19.out : Below w.heap.size w w59)); have n3_ := Aside0.mk (by_grown HY187.out hg (by_own_ne (v := (.slice (some ⟨go19, 0, none⟩) y191.length co19)) HY187.out (by (with_reducible repeat (first | apply Kd.R_alloc | apply Kd.R_drewN | apply Kd.R_drew)); exact HO193.out))); clear HO185; clear HO193; clear HB; clear HY187; have HO185 := n0_; have HO193 := n1_; have HB := n2_; have HY187 := n3_; clear n0_ n1_ n2_ n3_; clear hg hw hp_))
                                    rw [rounds_succ]
                                    have p31 : 0 ≤ (6 : Int) := (by omega)
                                    have q31 : (6 : Int) < ((y191.length : Int) : Int) := of_decide_eq_true (by first | (with_reducible assumption) | assumption)
                                    have qi31 : (6 < y191.length) = True := eq_true (by omega)
                                    obtain ⟨hx31_0, hf31_0⟩ := Kd.R_celln 0 HO193.out (6 : Int) p31 q31
                                    (try rw [show ((6 : Int)).toNat = 6 from rfl] at hx31_0)
                                    (try simp only [Nat.reduceMul, Nat.zero_mul, Nat.zero_add, Nat.reduceAdd] at hx31_0)
                                    (try rw [show ((6 : Int)).toNat = 6 from rfl] at hf31_0)
                                    (try simp only [Nat.reduceMul, Nat.zero_mul, Nat.zero_add, Nat.reduceAdd] at hf31_0)
                                    replace p31 := eq_true p31
                                    replace q31 := eq_true q31
                                    obtain ⟨hy60_, hz60_⟩ := Kd.R_celln 0 HO193.out (6 : Int) (by omega) (of_decide_eq_true (by first | (with_reducible assumption) | assumption))
                                    (try simp only [Int.reduceToNat, Int.toNat_zero, Int.toNat_ofNat, Nat.reduceMul, Nat.zero_mul, Nat.zero_add] at hy60_ hz60_)
                                    (try rw [show ((6 : Int)).toNat = 6 from rfl] at hy60_)
                                    (try rw [show ((6 : Int)).toNat = 6 from rfl] at hz60_)
                                    have HP60 := Kd.R_putg HO193.out (6 : Int) 255
                                    go_wp2_with (first | ((with_reducible refine gate_store (t := 5) (p := 57) rfl ?_); refine store_event (t := 5) (p := 57) (v := ?vo_w61) (w1 := (w59.setCell ⟨go19, (6 : Int).toNat, none⟩ (.int .u8 255))) ?hg ?ho ?hn ?hr ?_; (case ho => rfl); (case hg => rfl); (case hn => rfl); (case hr => first | (go_simp; done) | (go_simp; rfl)); intro w61 hw; have hg : w59.grownBy w61 (some go19) := (by rw [hw]; exact HP60.2); have hp_ : Kd.R (Kd.int .u8) 5 w61 w.heap.size (fun _ => True) (.slice (some ⟨go19, 0, none⟩) y191.length co19) y200 := (by rw [hw, Ny200.out]; exact HP60.1); clear HP60; have n0_ := Aside0.mk (Kd.R_over' (v := (.slice (some ⟨go19, 0, none⟩) y191.length co19)) (by (with_reducible repeat (first | apply Kd.R_alloc | apply Kd.R_drewN | apply Kd.R_drew)); exact HO185.out) (Kd.R_typed HO193.out) (by decide) hg); have n1_ := Aside0.mk (hp_); have n2_ := Aside0.mk ((by rw [hw]; exact below_set (HB.out) GB19.out : Below w.heap.size w w61)); have n3_ := Aside0.mk (by_grown HY187.out hg (by_own_ne (v := (.slice (some ⟨go19, 0, none⟩) y191.length co19)) HY187.out (by (with_reducible repeat (first | apply Kd.R_alloc | apply Kd.R_drewN | apply Kd.R_drew)); exact HO193.out))); clear HO185; clear HO193; clear HB; clear HY187; have HO185 := n0_; have HO193 := n1_; have HB := n2_; have HY187 := n3_; clear n0_ n1_ n2_ n3_; clear hg hw hp_))
                                    rw [rounds_succ]
                                    have p33 : 0 ≤ (7 : Int) := (by omega)
                                    have q33 : (7 : Int) < ((y191.length : Int) : Int) := of_decide_eq_true (by first | (with_reducible assumption) | assumption)
                                    have qi33 : (7 < y191.length) = True := eq_true (by omega)
                                    obtain ⟨hx33_0, hf33_0⟩ := Kd.R_celln 0 HO193.out (7 : Int) p33 q33
                                    (try rw [show ((7 : Int)).toNat = 7 from rfl] at hx33_0)
                                    (try simp only [Nat.reduceMul, Nat.zero_mul, Nat.zero_add, Nat.reduceAdd] at hx33_0)
                                    (try rw [show ((7 : Int)).toNat = 7 from rfl] at hf33_0)
                                    (try simp only [Nat.reduceMul, Nat.zero_mul, Nat.zero_add, Nat.reduceAdd] at hf33_0)
                                    replace p33 := eq_true p33
                                    replace q33 := eq_true q33
                                    obtain ⟨hy62_, hz62_⟩ := Kd.R_celln 0 HO193.out (7 : Int) (by omega) (of_decide_eq_true (by first | (with_reducible assumption) | assumption))
                                    (try simp only [Int.reduceToNat, Int.toNat_zero, Int.toNat_ofNat, Nat.reduceMul, Nat.zero_mul, Nat.zero_add] at hy62_ hz62_)
                                    (try rw [show ((7 : Int)).toNat = 7 from rfl] at hy62_)
                                    (try rw [show ((7 : Int)).toNat = 7 from rfl] at hz62_)
                                    have HP62 := Kd.R_putg HO193.out (7 : Int) 255
                                    go_wp2_with (first | ((with_reducible refine gate_store (t := 5) (p := 57) rfl ?_); refine store_event (t := 5) (p := 57) (v := ?vo_w63) (w1 := (w61.setCell ⟨go19, (7 : Int).toNat, none⟩ (.int .u8 255))) ?hg ?ho ?hn ?hr ?_; (case ho => rfl); (case hg => rfl); (case hn => rfl); (case hr => first | (go_simp; done) | (go_simp; rfl)); intro w63 hw; have hg : w61.grownBy w63 (some go19) := (by rw [hw]; exact HP62.2); have hp_ : Kd.R (Kd.int .u8) 5 w63 w.heap.size (fun _ => True) (.slice (some ⟨go19, 0, none⟩) y191.length co19) y201 := (by rw [hw, Ny201.out]; exact HP62.1); clear HP62; have n0_ := Aside0.mk (Kd.R_over' (v := (.slice (some ⟨go19, 0, none⟩) y191.length co19)) (by (with_reducible repeat (first | apply Kd.R_alloc | apply Kd.R_drewN | apply Kd.R_drew)); exact HO185.out) (Kd.R_typed HO193.out) (by decide) hg); have n1_ := Aside0.mk (hp_); have n2_ := Aside0.mk ((by rw [hw]; exact below_set (HB.out) GB19.out : Below w.heap.size w w63)); have n3_ := Aside0.mk (by_grown HY187.out hg (by_own_ne (v := (.slice (some ⟨go19, 0, none⟩) y191.length co19)) HY187.out (by (with_reducible repeat (first | apply Kd.R_alloc | apply Kd.R_drewN | apply Kd.R_drew)); exact HO193.out))); clear HO185; clear HO193; clear HB; clear HY187; have HO185 := n0_; have HO193 := n1_; have HB := n2_; have HY187 := n3_; clear n0_ n1_ n2_ n3_; clear hg hw hp_))
                                    rw [rounds_succ]
                                    have hzy64 := by_string (P := Try.prog) (src := 33) (dst := 9) HY187.out Try.underlying33 Try.underlying5 Try.underlying9 t186.size cy187 (by simp only [List.length_set, bytesOf_length])
                                    go_wp2_with (first | ((with_reducible refine gate_callee (f := 13) rfl ?_); refine goesL_ (some 61) rfl rfl Try.func13 (by kernel_rfl) rfl #[.string (strOfNums ((bytesOf t186).set ((ji9) : Int).toNat (Go.bits .andNot .u8 (rd (bytesOf t186) (ji9)) (ji16)))), .string a0] rfl (by (try simp only [List.map_toArray, List.map_cons, List.map_nil]); first | done | (simp only [hji16, hji9]; rfl) | rfl | (simp only [List.length_drop, List.length_take]; rfl)) ?_; (with_reducible refine (sieve_May.calls k (strOfNums ((bytesOf t186).set ((ji9) : Int).toNat (Go.bits .andNot .u8 (rd (bytesOf t186) (ji9)) (ji16)))) a0 t202 _ A34.out).mono ?_); rintro e w65 ⟨rfl, hb⟩; refine ⟨_, rfl, ?_⟩; have n0_ := Aside0.mk (Kd.R_below (by (with_reducible repeat (first | apply Kd.R_alloc | apply Kd.R_drewN | apply Kd.R_drew)); exact HO185.out) hb); have n1_ := Aside0.mk (Kd.R_below (by (with_reducible repeat (first | apply Kd.R_alloc | apply Kd.R_drewN | apply Kd.R_drew)); exact HO193.out) hb); have n2_ := Aside0.mk (below_step (by repeat (first | (with_reducible first | exact HB.out | apply below_alloc | apply pw_below_drewN | apply below_drew1) | exact HB.out)) hb); clear HO185; clear HO193; clear HB; have HO185 := n0_; have HO193 := n1_; have HB := n2_; clear n0_ n1_ n2_; (try clear hb); (try clear hb2); (try clear hk); (try clear hi); have hcv66 := own_string (P := Try.prog) Try.underlying33 Try.underlying5 Try.underlying9 (Kd.own_of_R HO193.out)) | (go_at_call 13; (with_reducible refine (sieve_May.calls k (strOfNums y201) a0 true _ A36.out).mono ?_); rintro e w67 ⟨rfl, hb⟩; have n0_ := Aside0.mk (Kd.R_below (by (with_reducible repeat (first | apply Kd.R_alloc | apply Kd.R_drewN | apply Kd.R_drew)); exact HO185.out) hb); have n1_ := Aside0.mk (Kd.R_below (by (with_reducible repeat (first | apply Kd.R_alloc | apply Kd.R_drewN | apply Kd.R_drew)); exact HO193.out) hb); have n2_ := Aside0.mk (below_step (by repeat (first | (with_reducible first | exact HB.out | apply below_alloc | apply pw_below_drewN | apply below_drew1) | exact HB.out)) hb); clear HO185; clear HO193; clear HB; have HO185 := n0_; have HO193 := n1_; have HB := n2_; clear n0_ n1_ n2_; (try clear hb); (try clear hb2); (try clear hk); (try clear hi)) | ((with_reducible refine gate_dst (N := 72) rfl ?_); (try (refine gate_guard (by rfl) ?_; dsimp only)); refine Kd.R_make (Kd.int .u8) _ 5 rfl (N := 72) rfl 33 _ _ rfl 8 rfl rfl Try.underlying33 (.int .u8 0) 1 info5 rfl (by decide) (by omega) 0 (ok := fun _ => True) (okp := fun _ => True) rfl (fun _ hk => hk) trivial (by omega) (by omega) (Below.refl _ _) (Nat.le_refl _) ?_; intro v205 w68 ho69 hb hg_ hnew_; clear hg_ hnew_; (first | rw [← Ny204.out] at ho69 | (simp only [Int.reduceToNat] at ho69; rw [← Ny204.out] at ho69)); have n0_ := Aside0.mk (Kd.R_below (by (with_reducible repeat (first | apply Kd.R_alloc | apply Kd.R_drewN | apply Kd.R_drew)); exact HO185.out) hb); have n1_ := Aside0.mk (Kd.R_elder' (by (with_reducible repeat (first | apply Kd.R_alloc | apply Kd.R_drewN | apply Kd.R_drew)); exact HO193.out) (Kd.R_base ho69) hb); have n2_ := Aside0.mk (Kd.R_lower (Kd.R_new' ho69 (Kd.R_lt (by (with_reducible repeat (first | apply Kd.R_alloc | apply Kd.R_drewN | apply Kd.R_drew)); exact HO193.out))) (below_size (by repeat (first | (with_reducible first | exact HB.out | apply below_alloc | apply pw_below_drewN | apply below_drew1) | exact HB.out)))); have n3_ := Aside0.mk (below_step (by repeat (first | (with_reducible first | exact HB.out | apply below_alloc | apply pw_below_drewN | apply below_drew1) | exact HB.out)) hb); clear HO185; clear HO193; clear HB; have HO185 := n0_; have HO193 := n1_; have HO206 := n2_; have HB := n3_; clear n0_ n1_ n2_ n3_; clear hb ho69; have hcv70 := own_string (P := Try.prog) Try.underlying33 Try.underlying5 Try.underlying9 (Kd.own_of_R HO206.out)) | (go_at_call 13; (with_reducible refine (sieve_May.calls k (strOfNums y204) a0 t207 _ A38.out).mono ?_); rintro e w71 ⟨rfl, hb⟩; have n0_ := Aside0.mk (Kd.R_below (by (with_reducible repeat (first | apply Kd.R_alloc | apply Kd.R_drewN | apply Kd.R_drew)); exact HO185.out) hb); have n1_ := Aside0.mk (Kd.R_below (by (with_reducible repeat (first | apply Kd.R_alloc | apply Kd.R_drewN | apply Kd.R_drew)); exact HO193.out) hb); have n2_ := Aside0.mk (Kd.R_below (by (with_reducible repeat (first | apply Kd.R_alloc | apply Kd.R_drewN | apply Kd.R_drew)); exact HO206.out) hb); have n3_ := Aside0.mk (below_step (by repeat (first | (with_reducible first | exact HB.out | apply below_alloc | apply pw_below_drewN | apply below_drew1) | exact HB.out)) hb); clear HO185; clear HO193; clear HO206; clear HB; have HO185 := n0_; have HO193 := n1_; have HO206 := n2_; have HB := n3_; clear n0_ n1_ n2_ n3_; (try clear hb); (try clear hb2); (try clear hk); (try clear hi)))
                                    go_ret
                                    exact ⟨by first | rfl | (simp [errW_none, errW_some] <;> rfl) | (simp only [← hji9, ← hji12, ← hji14, ← hji16]; first | rfl | (simp [errW_none, errW_some] <;> rfl)) | (simp [*, errW_none, errW_some] <;> rfl), by repeat (first | (with_reducible first | exact HB.out | apply below_alloc | apply pw_below_drewN | apply below_drew1) | exact HB.out)⟩
                                  · replace c37 := Bool.eq_false_iff.mpr c37
                                    subst c37
                                    have H1 : (some false) = some r := by rw [if_neg (show ¬ (false = true) by decide)] at H; exact H
                                    clear H
                                    have H := H1
                                    clear H1
                                    exact absurd ((Option.some.inj H).trans HR_.out) (by decide)
                                · rw [if_neg c35] at H
                                  have c35b0 : (t202 == (!((Go.bits .and .u8 (ji14) 1) == 1))) = false := by simpa using c35
                                  (try (have c35b1 : decide (t202 = (!((Go.bits .and .u8 (ji14) 1) == 1))) = false := by simpa using c35))
                                  (try (have c35b2 : (t202 == (!((Go.bits .and .u8 (ji14) 1) == 1))) = false := by simpa using c35))
                                  (try (have c35b3 : ¬ (t202 = (!((Go.bits .and .u8 (ji14) 1) == 1))) := by simpa using c35))
                                  (try (have c35b4 : ((!((Go.bits .and .u8 (ji14) 1) == 1))) = !t202 := by have h_ := c35; revert h_; generalize t202 = u_; generalize (!((Go.bits .and .u8 (ji14) 1) == 1)) = v_; cases u_ <;> cases v_ <;> simp))
                                  clear c35
                                  exact absurd ((Option.some.inj H).trans HR_.out) (by decide)
                              · rw [if_neg c32] at H
                                exact absurd H (by simp)
                            · rw [if_neg c30] at H
                              exact absurd H (by simp)
                          · rw [if_neg c28] at H
                            exact absurd H (by simp)
                        · rw [if_neg c26] at H
                          exact absurd H (by simp)
                      · rw [if_neg c24] at H
                        exact absurd H (by simp)
                    · rw [if_neg c22] at H
                      exact absurd H (by simp)
                  · rw [if_neg c20] at H
                    exact absurd H (by simp)
                · rw [if_neg c18] at H
                  exact absurd H (by simp)
              · rw [if_neg c17] at H
                exact absurd H (by simp)
            · rw [if_neg c13] at H
              exact absurd H (by simp)
          · rw [if_neg c11] at H
            exact absurd H (by simp)
        · rw [if_neg c10] at H
          exact absurd H (by simp)
  · replace c4 := Bool.eq_false_iff.mpr c4
    subst c4
    have H1 : (some false) = some r := by rw [if_neg (show ¬ (false = true) by decide)] at H; exact H
    clear H
    have H := H1
    clear H1
    exact absurd ((Option.some.inj H).trans HR_.out) (by decide)

/-- THE ONE PURE STATEMENT of ravelinlaw7_SieveBits: yours. -/
def ravelinlaw7_SieveBits.Pure : Prop := ∀ (a0 : ByteArray) (a1 : Int), a0.size ≤ 140737488351232 → (Lit.int .u8 a1).wf = true → ∃ k, ravelinlaw7_SieveBits.f k a0 a1 = some true
theorem ravelinlaw7_SieveBits.walk (P : ravelinlaw7_SieveBits.Pure) (a0 : ByteArray) (a1 : Int) (w : World) (w0 : a0.size ≤ 140737488351232) (w1 : (Lit.int .u8 a1).wf = true) :
    Calls Try.prog 6 #[.string a0, .int .u8 a1] w fun e w' => e = .returned (.bool true) ∧ Below w.heap.size w w' := by
  obtain ⟨k, h⟩ := P a0 a1 w0 w1
  refine (ravelinlaw7_SieveBits.calls k a0 a1 true w h rfl).mono ?_
  rintro e w' ⟨rfl, hd⟩
  exact ⟨rfl, hd⟩

end Go.Proofs.Ytcnlhpakiadipaa.P
