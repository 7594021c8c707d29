-- Printed by a changed copy of the kit's printer (wip/tools/ext.py); labels and more
import Derived.Test.YtmbedgopceigaaaM0
import Derived.Test.YtmbedgopceigaaaM3
namespace Go.Proofs.Ytmbedgopceigaaa.P
open Go.RowKit Go.Proofs.YtmbedgopceigaaaW.PrintWords Go.Proofs.YtmbedgopceigaaaW.PrintLast Go.Proofs.YtmbedgopceigaaaW.PrintMore
attribute [local go_sem] max2_int min2_int max_two min_two max_three min_three max_four min_four   -- for this text's walks alone
attribute [local go_sem high] string_leq string_geq string_gtr
set_option linter.unusedVariables false
set_option linter.unusedSimpArgs false

/-! ### cell_TakeNum: function 56 -/
mutual
def cell_TakeNum.j0 : Nat → ByteArray → Int → Option (Int × Int × Int)
  | 0, _, _ => none
  | k + 1, x0, x5 => cell_TakeNum.l0 k x0 x5 0 (x0.size : Int) 0
def cell_TakeNum.l0 : Nat → ByteArray → Int → Int → Int → Int → Option (Int × Int × Int)
  | 0, _, _, _, _, _ => none
  | k + 1, x0, x5, x6, x30, x31 => if x31 < x30 then (if x31 = 0 then (cell_TakeNum.l0 k x0 x5 x6 x30 (wrap64 (x31 + 1))) else (if x31 > x5 then (if x6 > 9223372036854775807 then (some (0, 0, 10)) else (some (wrap64 (x6), wrap64 (x5 + 1), 0))) else (if 0 ≤ x31 then (if x31 < (x0.size : Int) then (cell_TakeNum.l0 k x0 x5 (IntKind.u64.wrap ((IntKind.u64.wrap (x6 * 256)) + (IntKind.u64.wrap (bt x0 x31)))) x30 (wrap64 (x31 + 1))) else (none)) else (none)))) else (if x6 > 9223372036854775807 then (some (0, 0, 10)) else (some (wrap64 (x6), wrap64 (x5 + 1), 0)))
end
def cell_TakeNum.f (k : Nat) (a0 : ByteArray) : Option (Int × Int × Int) := if a0.toList = ([] : List UInt8) then (some (0, 0, 12)) else (if 0 < (a0.size : Int) then (if (wrap64 (bt a0 0)) > 8 then (some (0, 0, 10)) else (if (a0.size : Int) ≤ (wrap64 (bt a0 0)) then (some (0, 0, 12)) else (if (wrap64 (bt a0 0)) > 0 then (if 1 < (a0.size : Int) then (if (bt a0 1) = 0 then (some (0, 0, 10)) else (cell_TakeNum.j0 k a0 (wrap64 (bt a0 0)))) else (none)) else (cell_TakeNum.j0 k a0 (wrap64 (bt a0 0)))))) else (none))
theorem cell_TakeNum.mono_l : ∀ k, (∀ y0 y1, LeO (cell_TakeNum.j0 k y0 y1) (cell_TakeNum.j0 (k + 1) y0 y1)) ∧ (∀ y0 y1 y2 y3 y4, LeO (cell_TakeNum.l0 k y0 y1 y2 y3 y4) (cell_TakeNum.l0 (k + 1) y0 y1 y2 y3 y4))
  | 0 => ⟨fun _ _ r h => by simp [cell_TakeNum.j0] at h, fun _ _ _ _ _ r h => by simp [cell_TakeNum.l0] at h⟩
  | k + 1 => by
    obtain ⟨ih0, ih1⟩ := cell_TakeNum.mono_l k
    refine ⟨?_, ?_⟩
    all_goals
      intros
      first | unfold cell_TakeNum.j0 | unfold cell_TakeNum.l0
      repeat' first
      | (with_reducible exact ih0 _ _)
      | (with_reducible exact ih1 _ _ _ _ _)
      | (with_reducible exact LeO.refl _)
      | (with_reducible exact LeO.none _)
      | (with_reducible refine LeO.ite ?_ ?_)
      | (with_reducible refine LeO.bind ?_ (fun _ => ?_))
      | exact ih0 _ _
      | exact ih1 _ _ _ _ _
      | exact LeO.none _
      | refine LeO.ite ?_ ?_
      | refine LeO.bind ?_ (fun _ => ?_)
theorem cell_TakeNum.mono : ∀ a0 k, LeO (cell_TakeNum.f k a0) (cell_TakeNum.f (k + 1) a0) := by
  intro a0 k
  obtain ⟨ih0, ih1⟩ := cell_TakeNum.mono_l k
  unfold cell_TakeNum.f
  repeat' first
      | (with_reducible exact ih0 _ _)
      | (with_reducible exact ih1 _ _ _ _ _)
      | (with_reducible exact LeO.refl _)
      | (with_reducible exact LeO.none _)
      | (with_reducible refine LeO.ite ?_ ?_)
      | (with_reducible refine LeO.bind ?_ (fun _ => ?_))
      | exact ih0 _ _
      | exact ih1 _ _ _ _ _
      | exact LeO.none _
      | refine LeO.ite ?_ ?_
      | refine LeO.bind ?_ (fun _ => ?_)
set_option maxHeartbeats 8000000 in
set_option maxRecDepth 100000 in
theorem cell_TakeNum.calls (k : Nat) (a0 : ByteArray) (r1 : Int) (r2 : Int) (r3 : Int) (w : World) (h : cell_TakeNum.f k a0 = some (r1, r2, r3)) :
    Calls Try.prog 56 #[.string a0] w fun e w' => e = .returned (.tuple #[.int .i64 r1, .int .i64 r2, .int .i64 r3]) ∧ Drawn0 w w' := by
  have H : (if a0.toList = ([] : List UInt8) then (some (0, 0, 12)) else (if 0 < (a0.size : Int) then (if (wrap64 (bt a0 0)) > 8 then (some (0, 0, 10)) else (if (a0.size : Int) ≤ (wrap64 (bt a0 0)) then (some (0, 0, 12)) else (if (wrap64 (bt a0 0)) > 0 then (if 1 < (a0.size : Int) then (if (bt a0 1) = 0 then (some (0, 0, 10)) else (cell_TakeNum.j0 k a0 (wrap64 (bt a0 0)))) else (none)) else (cell_TakeNum.j0 k a0 (wrap64 (bt a0 0)))))) else (none))) = some (r1, r2, r3) := h
  clear h
  by_cases c2 : a0.toList = ([] : List UInt8)
  · rw [if_pos c2] at H
    have c2b0 : (a0.toList == ([] : List UInt8)) = true := beq_iff_eq.mpr c2
    have c2b1 : (a0.toList != ([] : List UInt8)) = false := bne_eq_false_iff_eq.mpr c2
    clear c2
    simp only [Option.some.injEq, Prod.mk.injEq] at H
    obtain ⟨rfl, rfl, rfl⟩ := H
    go_enter Try.func56, Try.ntmps56
    go_wp2_with (first | go_step3 | go_in)
    ((try rw [Exit.noGoto_ret]); go_ret3)
    exact ⟨by first | rfl | (simp; done) | (simp [*]; done), by repeat (first | exact Drawn0.refl _ | apply Drawn0.step)⟩
  rw [if_neg c2] at H
  have c2b0 : (a0.toList == ([] : List UInt8)) = false := beq_eq_false_iff_ne.mpr c2
  have c2b1 : (a0.toList != ([] : List UInt8)) = true := bne_iff_ne.mpr c2
  by_cases c3 : 0 < (a0.size : Int)
  rotate_left
  · rw [if_neg c3] at H
    exact absurd H (by simp)
  rw [if_pos c3] at H
  have c3b0 : decide (0 < (a0.size : Int)) = true := decide_eq_true c3
  have c3b1 : decide (0 < a0.size) = true := decide_eq_true (by omega)
  clear c3
  have HC5 := Aside0.mk H
  clear H
  have p4 : 0 ≤ (0 : Int) := (by omega)
  have q4 : 0 < a0.size := (by have : (0 : Int) < (a0.size : Int) := of_decide_eq_true (by first | (with_reducible assumption) | assumption); omega)
  have hx4 : ∀ h : 0 < a0.size, ((a0[0]'h).toNat : Int) = bt a0 0 := bt_at a0 0
  clear p4
  have qi4 : (0 < (a0.size : Int)) = True := eq_true (of_decide_eq_true (by first | (with_reducible assumption) | assumption))
  replace q4 := eq_true q4
  go_enter Try.func56, Try.ntmps56
  go_upto_block 0 with go_step3
  go_cut [] (fun wc => ∃ (kq : Nat), Aside0 (cell_TakeNum.j0 kq a0 (wrap64 (bt a0 0)) = some (r1, r2, r3)) ∧ Aside0 (kq ≤ k) ∧ Drawn0 w wc)
  case first =>
    have H := HC5.out
    clear HC5
    by_cases c6 : (wrap64 (bt a0 0)) > 8
    · rw [if_pos c6] at H
      have c6b0 : decide (8 < (wrap64 (bt a0 0))) = true := decide_eq_true c6
      clear c6
      (first | rw [c6b0] | (simp only [i64_w, i32_w]; rw [c6b0]) | skip)
      simp only [Option.some.injEq, Prod.mk.injEq] at H
      obtain ⟨rfl, rfl, rfl⟩ := H
      go_wp2_with (first | go_step3 | go_in)
      ((try rw [Exit.noGoto_ret]); go_ret3)
      exact ⟨by first | rfl | (simp; done) | (simp [*]; done), by repeat (first | exact Drawn0.refl _ | apply Drawn0.step)⟩
    rw [if_neg c6] at H
    have c6b0 : decide (8 < (wrap64 (bt a0 0))) = false := decide_eq_false c6
    clear c6
    (first | rw [c6b0] | (simp only [i64_w, i32_w]; rw [c6b0]) | skip)
    by_cases c7 : (a0.size : Int) ≤ (wrap64 (bt a0 0))
    · rw [if_pos c7] at H
      have c7b0 : decide ((a0.size : Int) ≤ (wrap64 (bt a0 0))) = true := decide_eq_true c7
      clear c7
      simp only [Option.some.injEq, Prod.mk.injEq] at H
      obtain ⟨rfl, rfl, rfl⟩ := H
      go_wp2_with (first | go_step3 | go_in)
      ((try rw [Exit.noGoto_ret]); go_ret3)
      exact ⟨by first | rfl | (simp; done) | (simp [*]; done), by repeat (first | exact Drawn0.refl _ | apply Drawn0.step)⟩
    rw [if_neg c7] at H
    have c7b0 : decide ((a0.size : Int) ≤ (wrap64 (bt a0 0))) = false := decide_eq_false c7
    clear c7
    by_cases c8 : (wrap64 (bt a0 0)) > 0
    rotate_left
    · rw [if_neg c8] at H
      have c8b0 : decide (0 < (wrap64 (bt a0 0))) = false := decide_eq_false c8
      clear c8
      have H' := Aside0.mk H
      clear H
      go_wp2_with (first | go_step3 | go_in)
      go_meet
      case rel => exact ⟨_, H', ⟨by first | omega | exact Nat.le_refl _⟩, by repeat (first | exact Drawn0.refl _ | apply Drawn0.step)⟩
    rw [if_pos c8] at H
    have c8b0 : decide (0 < (wrap64 (bt a0 0))) = true := decide_eq_true c8
    clear c8
    by_cases c9 : 1 < (a0.size : Int)
    rotate_left
    · rw [if_neg c9] at H
      exact absurd H (by simp)
    rw [if_pos c9] at H
    have c9b0 : decide (1 < (a0.size : Int)) = true := decide_eq_true c9
    have c9b1 : decide (1 < a0.size) = true := decide_eq_true (by omega)
    clear c9
    by_cases c11 : (bt a0 1) = 0
    rotate_left
    · rw [if_neg c11] at H
      have c11b0 : ((bt a0 1) == 0) = false := beq_eq_false_iff_ne.mpr c11
      have c11b1 : ((bt a0 1) != 0) = true := bne_iff_ne.mpr c11
      have H' := Aside0.mk H
      clear H
      have p10 : 0 ≤ (1 : Int) := (by omega)
      have q10 : 1 < a0.size := (by have : (1 : Int) < (a0.size : Int) := of_decide_eq_true (by first | (with_reducible assumption) | assumption); omega)
      have hx10 : ∀ h : 1 < a0.size, ((a0[1]'h).toNat : Int) = bt a0 1 := bt_at a0 1
      clear p10
      have qi10 : (1 < (a0.size : Int)) = True := eq_true (of_decide_eq_true (by first | (with_reducible assumption) | assumption))
      replace q10 := eq_true q10
      go_wp2_with (first | go_step3 | go_in)
      go_meet
      case rel => exact ⟨_, H', ⟨by first | omega | exact Nat.le_refl _⟩, by repeat (first | exact Drawn0.refl _ | apply Drawn0.step)⟩
    rw [if_pos c11] at H
    have c11b0 : ((bt a0 1) == 0) = true := beq_iff_eq.mpr c11
    have c11b1 : ((bt a0 1) != 0) = false := bne_eq_false_iff_eq.mpr c11
    clear c11
    simp only [Option.some.injEq, Prod.mk.injEq] at H
    obtain ⟨rfl, rfl, rfl⟩ := H
    have p10 : 0 ≤ (1 : Int) := (by omega)
    have q10 : 1 < a0.size := (by have : (1 : Int) < (a0.size : Int) := of_decide_eq_true (by first | (with_reducible assumption) | assumption); omega)
    have hx10 : ∀ h : 1 < a0.size, ((a0[1]'h).toNat : Int) = bt a0 1 := bt_at a0 1
    clear p10
    have qi10 : (1 < (a0.size : Int)) = True := eq_true (of_decide_eq_true (by first | (with_reducible assumption) | assumption))
    replace q10 := eq_true q10
    go_wp2_with (first | go_step3 | go_in)
    ((try rw [Exit.noGoto_ret]); go_ret3)
    exact ⟨by first | rfl | (simp; done) | (simp [*]; done), by repeat (first | exact Drawn0.refl _ | apply Drawn0.step)⟩
  clear HC5
  try clear c1
  try clear p1
  try clear q1
  try clear hx1
  try clear qi1
  try clear c2
  try clear c2b0
  try clear c2b1
  try clear p2
  try clear c3
  try clear c3b0
  try clear c3b1
  try clear p3
  try clear p4
  try clear q4
  try clear hx4
  try clear qi4
  try clear c5
  try clear c6
  try clear c6b0
  try clear p6
  try clear c7
  try clear c7b0
  try clear c8
  try clear c8b0
  try clear c9
  try clear c9b0
  try clear c9b1
  try clear p10
  try clear q10
  try clear hx10
  try clear qi10
  try clear c11
  try clear c11b0
  try clear c11b1
  try clear p10
  try clear p4
  try clear q10
  try clear q4
  obtain ⟨kq, HA, HJ4, ⟨mc4, rfl⟩⟩ := hcut
  cases kq with
  | zero => exact absurd HA.out (by simp [cell_TakeNum.j0])
  | succ kj4 => ?_
  have H := HA.out
  clear HA
  simp only [cell_TakeNum.j0] at H
  have H' := Aside0.mk H
  clear H
  go_wp2_with (first | go_step3 | go_in)
  go_loopg [6, 31] kj4 (fun kq v6 v31 w' => ∃ (x6_2 : Int) (x31_2 : Int), v6 = .int .u64 x6_2 ∧ v31 = .int .i64 x31_2 ∧ Aside0 (cell_TakeNum.l0 kq a0 (wrap64 (bt a0 0)) x6_2 (a0.size : Int) x31_2 = some (r1, r2, r3)) ∧ Aside0 (kq ≤ kj4) ∧ Drawn0 w w')
  case atStart => exact ⟨(0), (0), (by first | rfl | (simp; done) | (simp [*]; done)), (by first | rfl | (simp; done) | (simp [*]; done)), H', ⟨Nat.le_refl _⟩, by repeat (first | exact Drawn0.refl _ | apply Drawn0.step)⟩
  clear H'
  try clear c1
  try clear p1
  try clear q1
  try clear hx1
  try clear qi1
  try clear c2
  try clear c2b0
  try clear c2b1
  try clear p2
  try clear c3
  try clear c3b0
  try clear c3b1
  try clear p3
  try clear c4
  try clear p4
  try clear q4
  try clear hx4
  try clear qi4
  try clear c5
  try clear c6
  try clear c6b0
  try clear p6
  try clear c7
  try clear c7b0
  try clear c8
  try clear c8b0
  try clear c9
  try clear c9b0
  try clear c9b1
  try clear p10
  try clear q10
  try clear hx10
  try clear qi10
  try clear c11
  try clear c11b0
  try clear c11b1
  try clear p1
  try clear p10
  try clear p2
  try clear p3
  try clear p4
  try clear p6
  try clear q1
  try clear q10
  try clear q4
  obtain ⟨x6_2, x31_2, rfl, rfl, HA, HK2, ⟨m2, rfl⟩⟩ := hrel
  cases gk with
  | zero => exact absurd HA.out (by simp [cell_TakeNum.l0])
  | succ k2 => ?_
  have H := HA.out
  clear HA
  simp only [cell_TakeNum.l0] at H
  by_cases c12 : x31_2 < (a0.size : Int)
  rotate_left
  · rw [if_neg c12] at H
    have c12b0 : decide (x31_2 < (a0.size : Int)) = false := decide_eq_false c12
    clear c12
    by_cases c19 : x6_2 > 9223372036854775807
    · rw [if_pos c19] at H
      have c19b0 : decide (9223372036854775807 < x6_2) = true := decide_eq_true c19
      clear c19
      simp only [Option.some.injEq, Prod.mk.injEq] at H
      obtain ⟨rfl, rfl, rfl⟩ := H
      go_wp2_with (first | go_step3 | go_in)
      ((try rw [Exit.noGoto_ret]); go_ret3)
      exact ⟨by first | rfl | (simp; done) | (simp [*]; done), by repeat (first | exact Drawn0.refl _ | apply Drawn0.step)⟩
    rw [if_neg c19] at H
    have c19b0 : decide (9223372036854775807 < x6_2) = false := decide_eq_false c19
    clear c19
    simp only [Option.some.injEq, Prod.mk.injEq] at H
    obtain ⟨rfl, rfl, rfl⟩ := H
    go_wp2_with (first | go_step3 | go_in)
    ((try rw [Exit.noGoto_ret]); go_ret3)
    exact ⟨by first | rfl | (simp; done) | (simp [*]; done), by repeat (first | exact Drawn0.refl _ | apply Drawn0.step)⟩
  rw [if_pos c12] at H
  have c12b0 : decide (x31_2 < (a0.size : Int)) = true := decide_eq_true c12
  clear c12
  by_cases c13 : x31_2 = 0
  · rw [if_pos c13] at H
    have c13b0 : (x31_2 == 0) = true := beq_iff_eq.mpr c13
    have c13b1 : (x31_2 != 0) = false := bne_eq_false_iff_eq.mpr c13
    clear c13
    have H' := Aside0.mk H
    clear H
    go_wp2_with (first | go_step3 | go_in)
    go_roundg k2
    case measure => have := HJ4.out; have := HK2.out; omega
    case rel => exact ⟨(x6_2), (wrap64 (x31_2 + 1)), (by first | rfl | (simp; done) | (simp [*]; done)), (by first | rfl | (simp; done) | (simp [*]; done)), H', ⟨by have := HJ4.out; have := HK2.out; omega⟩, by repeat (first | exact Drawn0.refl _ | apply Drawn0.step)⟩
  rw [if_neg c13] at H
  have c13b0 : (x31_2 == 0) = false := beq_eq_false_iff_ne.mpr c13
  have c13b1 : (x31_2 != 0) = true := bne_iff_ne.mpr c13
  by_cases c14 : x31_2 > (wrap64 (bt a0 0))
  · rw [if_pos c14] at H
    have c14b0 : decide ((wrap64 (bt a0 0)) < x31_2) = true := decide_eq_true c14
    clear c14
    by_cases c15 : x6_2 > 9223372036854775807
    · rw [if_pos c15] at H
      have c15b0 : decide (9223372036854775807 < x6_2) = true := decide_eq_true c15
      clear c15
      simp only [Option.some.injEq, Prod.mk.injEq] at H
      obtain ⟨rfl, rfl, rfl⟩ := H
      go_wp2_with (first | go_step3 | go_in)
      ((try rw [Exit.noGoto_ret]); go_ret3)
      exact ⟨by first | rfl | (simp; done) | (simp [*]; done), by repeat (first | exact Drawn0.refl _ | apply Drawn0.step)⟩
    rw [if_neg c15] at H
    have c15b0 : decide (9223372036854775807 < x6_2) = false := decide_eq_false c15
    clear c15
    simp only [Option.some.injEq, Prod.mk.injEq] at H
    obtain ⟨rfl, rfl, rfl⟩ := H
    go_wp2_with (first | go_step3 | go_in)
    ((try rw [Exit.noGoto_ret]); go_ret3)
    exact ⟨by first | rfl | (simp; done) | (simp [*]; done), by repeat (first | exact Drawn0.refl _ | apply Drawn0.step)⟩
  rw [if_neg c14] at H
  have c14b0 : decide ((wrap64 (bt a0 0)) < x31_2) = false := decide_eq_false c14
  clear c14
  by_cases c16 : 0 ≤ x31_2
  rotate_left
  · rw [if_neg c16] at H
    exact absurd H (by simp)
  rw [if_pos c16] at H
  have c16b0 : decide (0 ≤ x31_2) = true := decide_eq_true c16
  clear c16
  by_cases c17 : x31_2 < (a0.size : Int)
  rotate_left
  · rw [if_neg c17] at H
    exact absurd H (by simp)
  rw [if_pos c17] at H
  have c17b0 : decide (x31_2 < (a0.size : Int)) = true := decide_eq_true c17
  clear c17
  have H' := Aside0.mk H
  clear H
  have p18 : 0 ≤ (x31_2 : Int) := of_decide_eq_true (by first | (with_reducible assumption) | assumption)
  have q18 : x31_2 < (a0.size : Int) := of_decide_eq_true (by first | (with_reducible assumption) | assumption)
  have hx18 := bt_at a0 x31_2
  replace p18 := eq_true p18
  replace q18 := eq_true q18
  go_wp2_with (first | go_step3 | go_in)
  go_roundg k2
  case measure => have := HJ4.out; have := HK2.out; omega
  case rel => exact ⟨(IntKind.u64.wrap ((IntKind.u64.wrap (x6_2 * 256)) + (IntKind.u64.wrap (bt a0 x31_2)))), (wrap64 (x31_2 + 1)), (by first | rfl | (simp; done) | (simp [*]; done)), (by first | rfl | (simp; done) | (simp [*]; done)), H', ⟨by have := HJ4.out; have := HK2.out; omega⟩, by repeat (first | exact Drawn0.refl _ | apply Drawn0.step)⟩

/-! ### seal_Open: function 42 -/
def seal_Open.f (k : Nat) (a0 : ByteArray) : Option (ByteArray × Int × Int) := (cell_TakeNum.f k a0).bind fun bt173 => (if bt173.2.2 = 12 then (some ((⟨#[]⟩ : ByteArray), 0, bt173.2.2)) else (if bt173.2.2 = 0 then (if (wrap64 ((a0.size : Int) - bt173.2.1)) < 4 then (some ((⟨#[]⟩ : ByteArray), 0, 12)) else (if bt173.1 > (wrap64 ((wrap64 ((a0.size : Int) - bt173.2.1)) - 4)) then (some ((⟨#[]⟩ : ByteArray), 0, 12)) else (if 0 ≤ (wrap64 (bt173.2.1 + 4)) then (if (wrap64 (bt173.2.1 + 4)) ≤ (wrap64 ((wrap64 (bt173.2.1 + 4)) + bt173.1)) then (if (wrap64 ((wrap64 (bt173.2.1 + 4)) + bt173.1)) ≤ (a0.size : Int) then (if 0 ≤ bt173.2.1 then (if bt173.2.1 ≤ (wrap64 (bt173.2.1 + 4)) then (if (wrap64 (bt173.2.1 + 4)) ≤ (a0.size : Int) then ((seal_Sum.f k (a0.extract ((wrap64 (bt173.2.1 + 4)) : Int).toNat ((wrap64 ((wrap64 (bt173.2.1 + 4)) + bt173.1)) : Int).toNat)).bind fun t176 => ((seal_bytes.f k t176).bind fun t177 => (if (a0.extract (bt173.2.1 : Int).toNat ((wrap64 (bt173.2.1 + 4)) : Int).toNat).toList = t177.toList then (some (a0.extract ((wrap64 (bt173.2.1 + 4)) : Int).toNat ((wrap64 ((wrap64 (bt173.2.1 + 4)) + bt173.1)) : Int).toNat, wrap64 ((wrap64 (bt173.2.1 + 4)) + bt173.1), 0)) else (some ((⟨#[]⟩ : ByteArray), 0, 13))))) else (none)) else (none)) else (none)) else (none)) else (none)) else (none)))) else (some ((⟨#[]⟩ : ByteArray), 0, 13))))
theorem seal_Open.mono : ∀ a0 k, LeO (seal_Open.f k a0) (seal_Open.f (k + 1) a0) := by
  intro a0 k
  unfold seal_Open.f
  repeat' first
      | (with_reducible exact cell_TakeNum.mono _ _)
      | (with_reducible exact seal_Sum.mono _ _)
      | (with_reducible exact seal_bytes.mono _ _)
      | (with_reducible exact LeO.refl _)
      | (with_reducible exact LeO.none _)
      | (with_reducible refine LeO.ite ?_ ?_)
      | (with_reducible refine LeO.bind ?_ (fun _ => ?_))
      | exact cell_TakeNum.mono _ _
      | exact seal_Sum.mono _ _
      | exact seal_bytes.mono _ _
      | exact LeO.none _
      | refine LeO.ite ?_ ?_
      | refine LeO.bind ?_ (fun _ => ?_)
def seal_Open.T9 : Bool × List (List Nat × List Nat) := (true, [([], []), ([], []), ([], []), ([2], [2]), ([0, 1, 3], [0, 1, 3]), ([], []), ([5], [5]), ([6, 6], [6]), ([4, 7], [4, 7])])
def seal_Open.B9 : List Nat := [0, 0, 0, 4, 15, 0, 32, 96, 255]
theorem seal_Open.tab9 : rtab .any (opsOf Try.f42 9) = seal_Open.T9 := by kernel_rfl
theorem seal_Open.bits9 : waitsOk seal_Open.T9.2 seal_Open.B9 = true := by kernel_rfl
set_option maxHeartbeats 8000000 in
set_option maxRecDepth 100000 in
theorem seal_Open.calls (k : Nat) (a0 : ByteArray) (r1 : ByteArray) (r2 : Int) (r3 : Int) (w : World) (h : seal_Open.f k a0 = some (r1, r2, r3)) :
    Calls Try.prog 42 #[.string a0] w fun e w' => e = .returned (.tuple #[.string r1, .int .i64 r2, .int .i64 r3]) ∧ Below w.heap.size w w' := by
  have HB := Aside0.mk (Below.refl w.heap.size w)
  have H : ((cell_TakeNum.f k a0).bind fun bt173 => (if bt173.2.2 = 12 then (some ((⟨#[]⟩ : ByteArray), 0, bt173.2.2)) else (if bt173.2.2 = 0 then (if (wrap64 ((a0.size : Int) - bt173.2.1)) < 4 then (some ((⟨#[]⟩ : ByteArray), 0, 12)) else (if bt173.1 > (wrap64 ((wrap64 ((a0.size : Int) - bt173.2.1)) - 4)) then (some ((⟨#[]⟩ : ByteArray), 0, 12)) else (if 0 ≤ (wrap64 (bt173.2.1 + 4)) then (if (wrap64 (bt173.2.1 + 4)) ≤ (wrap64 ((wrap64 (bt173.2.1 + 4)) + bt173.1)) then (if (wrap64 ((wrap64 (bt173.2.1 + 4)) + bt173.1)) ≤ (a0.size : Int) then (if 0 ≤ bt173.2.1 then (if bt173.2.1 ≤ (wrap64 (bt173.2.1 + 4)) then (if (wrap64 (bt173.2.1 + 4)) ≤ (a0.size : Int) then ((seal_Sum.f k (a0.extract ((wrap64 (bt173.2.1 + 4)) : Int).toNat ((wrap64 ((wrap64 (bt173.2.1 + 4)) + bt173.1)) : Int).toNat)).bind fun t176 => ((seal_bytes.f k t176).bind fun t177 => (if (a0.extract (bt173.2.1 : Int).toNat ((wrap64 (bt173.2.1 + 4)) : Int).toNat).toList = t177.toList then (some (a0.extract ((wrap64 (bt173.2.1 + 4)) : Int).toNat ((wrap64 ((wrap64 (bt173.2.1 + 4)) + bt173.1)) : Int).toNat, wrap64 ((wrap64 (bt173.2.1 + 4)) + bt173.1), 0)) else (some ((⟨#[]⟩ : ByteArray), 0, 13))))) else (none)) else (none)) else (none)) else (none)) else (none)) else (none)))) else (some ((⟨#[]⟩ : ByteArray), 0, 13))))) = some (r1, r2, r3) := h
  clear h
  replace H := Option.bind_eq_some_iff.mp H
  obtain ⟨⟨t173, t174, t175⟩, A20, H⟩ := H
  replace H : (if t175 = 12 then (some ((⟨#[]⟩ : ByteArray), 0, t175)) else (if t175 = 0 then (if (wrap64 ((a0.size : Int) - t174)) < 4 then (some ((⟨#[]⟩ : ByteArray), 0, 12)) else (if t173 > (wrap64 ((wrap64 ((a0.size : Int) - t174)) - 4)) then (some ((⟨#[]⟩ : ByteArray), 0, 12)) else (if 0 ≤ (wrap64 (t174 + 4)) then (if (wrap64 (t174 + 4)) ≤ (wrap64 ((wrap64 (t174 + 4)) + t173)) then (if (wrap64 ((wrap64 (t174 + 4)) + t173)) ≤ (a0.size : Int) then (if 0 ≤ t174 then (if t174 ≤ (wrap64 (t174 + 4)) then (if (wrap64 (t174 + 4)) ≤ (a0.size : Int) then ((seal_Sum.f k (a0.extract ((wrap64 (t174 + 4)) : Int).toNat ((wrap64 ((wrap64 (t174 + 4)) + t173)) : Int).toNat)).bind fun t176 => ((seal_bytes.f k t176).bind fun t177 => (if (a0.extract (t174 : Int).toNat ((wrap64 (t174 + 4)) : Int).toNat).toList = t177.toList then (some (a0.extract ((wrap64 (t174 + 4)) : Int).toNat ((wrap64 ((wrap64 (t174 + 4)) + t173)) : Int).toNat, wrap64 ((wrap64 (t174 + 4)) + t173), 0)) else (some ((⟨#[]⟩ : ByteArray), 0, 13))))) else (none)) else (none)) else (none)) else (none)) else (none)) else (none)))) else (some ((⟨#[]⟩ : ByteArray), 0, 13)))) = some (r1, r2, r3) := H
  have A2 := Aside0.mk A20
  clear A20
  by_cases c3 : t175 = 12
  · rw [if_pos c3] at H
    have c3b0 : (t175 == 12) = true := beq_iff_eq.mpr c3
    have c3b1 : (t175 != 12) = false := bne_eq_false_iff_eq.mpr c3
    clear c3
    simp only [Option.some.injEq, Prod.mk.injEq] at H
    obtain ⟨rfl, rfl, rfl⟩ := H
    go_enter Try.func42, Try.ntmps42
    go_wp2_with (first | ((with_reducible refine gate_callee (f := 56) rfl ?_); refine goesL_ (some 11) rfl rfl Try.func56 (by kernel_rfl) rfl #[.string a0] rfl (by (try simp only [List.map_toArray, List.map_cons, List.map_nil]); first | done | rfl | (simp only [List.length_drop, List.length_take]; rfl)) ?_; (with_reducible refine (cell_TakeNum.calls k a0 t173 t174 t175 _ A2.out).mono ?_); rintro e w' ⟨rfl, ⟨nd, rfl⟩⟩; refine ⟨_, rfl, ?_⟩))
    go_ret3
    exact ⟨by first | rfl | (simp [errW_none, errW_some] <;> rfl) | (simp [*, errW_none, errW_some] <;> rfl), by repeat (first | (with_reducible first | exact HB.out | apply below_alloc | apply pw_below_drewN | apply below_drew1) | exact HB.out)⟩
  rw [if_neg c3] at H
  have c3b0 : (t175 == 12) = false := beq_eq_false_iff_ne.mpr c3
  have c3b1 : (t175 != 12) = true := bne_iff_ne.mpr c3
  by_cases c4 : t175 = 0
  rotate_left
  · rw [if_neg c4] at H
    have c4b0 : (t175 == 0) = false := beq_eq_false_iff_ne.mpr c4
    have c4b1 : (t175 != 0) = true := bne_iff_ne.mpr c4
    simp only [Option.some.injEq, Prod.mk.injEq] at H
    obtain ⟨rfl, rfl, rfl⟩ := H
    go_enter Try.func42, Try.ntmps42
    go_wp2_with (first | ((with_reducible refine gate_callee (f := 56) rfl ?_); refine goesL_ (some 11) rfl rfl Try.func56 (by kernel_rfl) rfl #[.string a0] rfl (by (try simp only [List.map_toArray, List.map_cons, List.map_nil]); first | done | rfl | (simp only [List.length_drop, List.length_take]; rfl)) ?_; (with_reducible refine (cell_TakeNum.calls k a0 t173 t174 t175 _ A2.out).mono ?_); rintro e w' ⟨rfl, ⟨nd, rfl⟩⟩; refine ⟨_, rfl, ?_⟩))
    go_ret3
    exact ⟨by first | rfl | (simp [errW_none, errW_some] <;> rfl) | (simp [*, errW_none, errW_some] <;> rfl), by repeat (first | (with_reducible first | exact HB.out | apply below_alloc | apply pw_below_drewN | apply below_drew1) | exact HB.out)⟩
  rw [if_pos c4] at H
  have c4b0 : (t175 == 0) = true := beq_iff_eq.mpr c4
  have c4b1 : (t175 != 0) = false := bne_eq_false_iff_eq.mpr c4
  clear c4
  by_cases c5 : (wrap64 ((a0.size : Int) - t174)) < 4
  · rw [if_pos c5] at H
    have c5b0 : decide ((wrap64 ((a0.size : Int) - t174)) < 4) = true := decide_eq_true c5
    clear c5
    simp only [Option.some.injEq, Prod.mk.injEq] at H
    obtain ⟨rfl, rfl, rfl⟩ := H
    go_enter Try.func42, Try.ntmps42
    go_wp2_with (first | ((with_reducible refine gate_callee (f := 56) rfl ?_); refine goesL_ (some 11) rfl rfl Try.func56 (by kernel_rfl) rfl #[.string a0] rfl (by (try simp only [List.map_toArray, List.map_cons, List.map_nil]); first | done | rfl | (simp only [List.length_drop, List.length_take]; rfl)) ?_; (with_reducible refine (cell_TakeNum.calls k a0 t173 t174 t175 _ A2.out).mono ?_); rintro e w' ⟨rfl, ⟨nd, rfl⟩⟩; refine ⟨_, rfl, ?_⟩))
    go_ret3
    exact ⟨by first | rfl | (simp [errW_none, errW_some] <;> rfl) | (simp [*, errW_none, errW_some] <;> rfl), by repeat (first | (with_reducible first | exact HB.out | apply below_alloc | apply pw_below_drewN | apply below_drew1) | exact HB.out)⟩
  rw [if_neg c5] at H
  have c5b0 : decide ((wrap64 ((a0.size : Int) - t174)) < 4) = false := decide_eq_false c5
  clear c5
  by_cases c6 : t173 > (wrap64 ((wrap64 ((a0.size : Int) - t174)) - 4))
  · rw [if_pos c6] at H
    have c6b0 : decide ((wrap64 ((wrap64 ((a0.size : Int) - t174)) - 4)) < t173) = true := decide_eq_true c6
    clear c6
    simp only [Option.some.injEq, Prod.mk.injEq] at H
    obtain ⟨rfl, rfl, rfl⟩ := H
    go_enter Try.func42, Try.ntmps42
    go_wp2_with (first | ((with_reducible refine gate_callee (f := 56) rfl ?_); refine goesL_ (some 11) rfl rfl Try.func56 (by kernel_rfl) rfl #[.string a0] rfl (by (try simp only [List.map_toArray, List.map_cons, List.map_nil]); first | done | rfl | (simp only [List.length_drop, List.length_take]; rfl)) ?_; (with_reducible refine (cell_TakeNum.calls k a0 t173 t174 t175 _ A2.out).mono ?_); rintro e w' ⟨rfl, ⟨nd, rfl⟩⟩; refine ⟨_, rfl, ?_⟩))
    go_ret3
    exact ⟨by first | rfl | (simp [errW_none, errW_some] <;> rfl) | (simp [*, errW_none, errW_some] <;> rfl), by repeat (first | (with_reducible first | exact HB.out | apply below_alloc | apply pw_below_drewN | apply below_drew1) | exact HB.out)⟩
  rw [if_neg c6] at H
  have c6b0 : decide ((wrap64 ((wrap64 ((a0.size : Int) - t174)) - 4)) < t173) = false := decide_eq_false c6
  clear c6
  obtain ⟨ji7, hji7⟩ : ∃ j_ : Int, (wrap64 (t174 + 4)) = j_ := ⟨_, rfl⟩
  replace H : (if 0 ≤ (ji7) then (if (ji7) ≤ (wrap64 ((ji7) + t173)) then (if (wrap64 ((ji7) + t173)) ≤ (a0.size : Int) then (if 0 ≤ t174 then (if t174 ≤ (ji7) then (if (ji7) ≤ (a0.size : Int) then ((seal_Sum.f k (a0.extract ((ji7) : Int).toNat ((wrap64 ((ji7) + t173)) : Int).toNat)).bind fun t176 => ((seal_bytes.f k t176).bind fun t177 => (if (a0.extract (t174 : Int).toNat ((ji7) : Int).toNat).toList = t177.toList then (some (a0.extract ((ji7) : Int).toNat ((wrap64 ((ji7) + t173)) : Int).toNat, wrap64 ((ji7) + t173), 0)) else (some ((⟨#[]⟩ : ByteArray), 0, 13))))) else (none)) else (none)) else (none)) else (none)) else (none)) else (none)) = some (r1, r2, r3) := by first | (rw [hji7] at H; exact H) | (simp only [hji7] at H ⊢; exact H)
  (try rw [hji7] at A2)
  have hji7w : (IntKind.i64.wrap (t174 + 4)) = ji7 := (i64_w _).trans hji7
  by_cases c8 : 0 ≤ (ji7)
  rotate_left
  · rw [if_neg c8] at H
    exact absurd H (by simp)
  rw [if_pos c8] at H
  have c8b0 := eq_true c8
  have c8b1 : decide (0 ≤ (ji7)) = true := decide_eq_true c8
  clear c8
  by_cases c9 : (ji7) ≤ (wrap64 ((ji7) + t173))
  rotate_left
  · rw [if_neg c9] at H
    exact absurd H (by simp)
  rw [if_pos c9] at H
  have c9b0 := eq_true c9
  have c9b1 : decide ((ji7) ≤ (wrap64 ((ji7) + t173))) = true := decide_eq_true c9
  by_cases c10 : (wrap64 ((ji7) + t173)) ≤ (a0.size : Int)
  rotate_left
  · rw [if_neg c10] at H
    exact absurd H (by simp)
  rw [if_pos c10] at H
  have c10b0 := eq_true c10
  have c10b1 : decide ((wrap64 ((ji7) + t173)) ≤ (a0.size : Int)) = true := decide_eq_true c10
  by_cases c11 : 0 ≤ t174
  rotate_left
  · rw [if_neg c11] at H
    exact absurd H (by simp)
  rw [if_pos c11] at H
  have c11b0 := eq_true c11
  have c11b1 : decide (0 ≤ t174) = true := decide_eq_true c11
  clear c11
  by_cases c12 : t174 ≤ (ji7)
  rotate_left
  · rw [if_neg c12] at H
    exact absurd H (by simp)
  rw [if_pos c12] at H
  have c12b0 := eq_true c12
  have c12b1 : decide (t174 ≤ (ji7)) = true := decide_eq_true c12
  clear c12
  by_cases c13 : (ji7) ≤ (a0.size : Int)
  rotate_left
  · rw [if_neg c13] at H
    exact absurd H (by simp)
  rw [if_pos c13] at H
  have c13b0 := eq_true c13
  have c13b1 : decide ((ji7) ≤ (a0.size : Int)) = true := decide_eq_true c13
  clear c13
  replace H := Option.bind_eq_some_iff.mp H
  obtain ⟨t176, A140, H⟩ := H
  replace H : ((seal_bytes.f k t176).bind fun t177 => (if (a0.extract (t174 : Int).toNat ((ji7) : Int).toNat).toList = t177.toList then (some (a0.extract ((ji7) : Int).toNat ((wrap64 ((ji7) + t173)) : Int).toNat, wrap64 ((ji7) + t173), 0)) else (some ((⟨#[]⟩ : ByteArray), 0, 13)))) = some (r1, r2, r3) := H
  have A14 := Aside0.mk A140
  clear A140
  replace H := Option.bind_eq_some_iff.mp H
  obtain ⟨t177, A150, H⟩ := H
  replace H : (if (a0.extract (t174 : Int).toNat ((ji7) : Int).toNat).toList = t177.toList then (some (a0.extract ((ji7) : Int).toNat ((wrap64 ((ji7) + t173)) : Int).toNat, wrap64 ((ji7) + t173), 0)) else (some ((⟨#[]⟩ : ByteArray), 0, 13))) = some (r1, r2, r3) := H
  have A15 := Aside0.mk A150
  clear A150
  by_cases c16 : (a0.extract (t174 : Int).toNat ((ji7) : Int).toNat).toList = t177.toList
  rotate_left
  · rw [if_neg c16] at H
    have c16b0 : ((a0.extract (t174 : Int).toNat ((ji7) : Int).toNat).toList == t177.toList) = false := beq_eq_false_iff_ne.mpr c16
    have c16b1 : ((a0.extract (t174 : Int).toNat ((ji7) : Int).toNat).toList != t177.toList) = true := bne_iff_ne.mpr c16
    simp only [Option.some.injEq, Prod.mk.injEq] at H
    obtain ⟨rfl, rfl, rfl⟩ := H
    go_enter Try.func42, Try.ntmps42
    try go_wp2_with (first | ((with_reducible refine gate_callee (f := 56) rfl ?_); refine goesL_ (some 11) rfl rfl Try.func56 (by kernel_rfl) rfl #[.string a0] rfl (by (try simp only [List.map_toArray, List.map_cons, List.map_nil]); first | done | rfl | (simp only [List.length_drop, List.length_take]; rfl)) ?_; (with_reducible refine (cell_TakeNum.calls k a0 t173 t174 t175 _ A2.out).mono ?_); rintro e w' ⟨rfl, ⟨nd, rfl⟩⟩; refine ⟨_, rfl, ?_⟩))
    rw [drewN_self w]
    generalize hq_ : World.drewN w _ = w20
    have n0_ : Aside0 (Below w.heap.size w w20) := ⟨by rw [← hq_]; exact (by repeat (first | (with_reducible first | exact HB.out | apply below_alloc | apply pw_below_drewN | apply below_drew1) | exact HB.out))⟩
    clear HB hq_
    have HB := n0_
    clear n0_
    have n0_ := Aside0.mk (below_drew1 HB.out)
    clear HB
    have HB := n0_
    clear n0_
    refine start_ (n := 9) (S := fun w' => True) (ds := []) #[false, false, false, false, false, false, false, false, false] (by kernel_rfl) rfl rfl trivial (fun hHeld => ?_); refine with_tabW seal_Open.tab9 seal_Open.bits9 (fun HT_ HW_ => ?_)
    generalize w20.drew = w21 at HB hHeld ⊢
    refine pure_ (i := 0) (N := some 45) (v := ?_) (a' := ?_) #[true, false, false, false, false, false, false, false, false] rfl rfl (any_of HT_.out (by kernel_rfl)) (fun _ _ _ h => h) (Or.inl ⟨by rfl, ?_⟩) ?_ ?_
    rotate_left
    · intro w'
      go_simp
      with_reducible rfl
    rotate_left
    · simp only [Act.put, List.setIfInBounds_toArray, List.set_cons_zero, List.set_cons_succ, i64_w, i32_w]
      rfl
    refine pure_ (i := 1) (N := some 46) (v := ?_) (a' := ?_) #[true, true, false, false, false, false, false, false, false] rfl rfl (any_of HT_.out (by kernel_rfl)) (fun _ _ _ h => h) (Or.inl ⟨by rfl, ?_⟩) ?_ ?_
    rotate_left
    · intro w'
      go_simp
      with_reducible rfl
    rotate_left
    · simp only [Act.put, List.setIfInBounds_toArray, List.set_cons_zero, List.set_cons_succ, i64_w, i32_w]
      rfl
    refine pure_ (i := 2) (N := some 47) (v := ?_) (a' := ?_) #[true, true, true, false, false, false, false, false, false] rfl rfl (any_of HT_.out (by kernel_rfl)) (fun _ _ _ h => h) (Or.inl ⟨by rfl, ?_⟩) ?_ ?_
    rotate_left
    · intro w'
      go_simp
      with_reducible rfl
    rotate_left
    · simp only [Act.put, List.setIfInBounds_toArray, List.set_cons_zero, List.set_cons_succ, i64_w, i32_w]
      rfl
    refine pure_ (i := 3) (N := some 48) (v := ?_) (a' := ?_) #[true, true, true, true, false, false, false, false, false] rfl rfl (any_of HT_.out (by kernel_rfl)) (fun _ _ _ h => h) (Or.inl ⟨by rfl, ?_⟩) ?_ ?_
    rotate_left
    · intro w'
      go_simp
      with_reducible rfl
    rotate_left
    · simp only [Act.put, List.setIfInBounds_toArray, List.set_cons_zero, List.set_cons_succ, i64_w, i32_w]
      rfl
    refine pure_ (i := 4) (N := some 49) (v := ?_) (a' := ?_) #[true, true, true, true, true, false, false, false, false] rfl rfl (any_of HT_.out (by kernel_rfl)) (fun _ _ _ h => h) (Or.inl ⟨by rfl, ?_⟩) ?_ ?_
    rotate_left
    · intro w'
      go_simp
      with_reducible rfl
    rotate_left
    · simp only [Act.put, List.setIfInBounds_toArray, List.set_cons_zero, List.set_cons_succ, i64_w, i32_w]
      rfl
    refine pure_ (i := 5) (N := some 50) (v := ?_) (a' := ?_) #[true, true, true, true, true, true, false, false, false] rfl rfl (any_of HT_.out (by kernel_rfl)) (fun _ _ _ h => h) (Or.inl ⟨by rfl, ?_⟩) ?_ ?_
    rotate_left
    · intro w'
      go_simp
      with_reducible rfl
    rotate_left
    · simp only [Act.put, List.setIfInBounds_toArray, List.set_cons_zero, List.set_cons_succ, i64_w, i32_w]
      rfl
    refine one_ (i := 6) (N := some 51) #[true, true, true, true, true, true, true, false, false] rfl rfl (one_of HT_.out (by kernel_rfl)) (by decide) (fun K hK => ?_)
    refine goes_ Try.func55 (by kernel_rfl) rfl #[.string (a0.extract ((ji7) : Int).toNat ((wrap64 ((ji7) + t173)) : Int).toNat)] (by rfl) rfl rfl (by (try simp only [List.map_toArray, List.map_cons, List.map_nil]); first | done | (simp only [hji7]; rfl) | rfl | (simp only [List.length_drop, List.length_take]; rfl)) ?_
    with_reducible refine (seal_Sum.calls k (a0.extract ((ji7) : Int).toNat ((wrap64 ((ji7) + t173)) : Int).toNat) t176 _ A14.out).mono ?_
    rintro e w' ⟨rfl, ⟨nd, rfl⟩⟩
    refine ⟨_, rfl, ?_⟩
    refine hK.out _ _ trivial (fun hHeld => ?_)
    clear hK K
    refine norm_ (a' := ?_) ?_ ?_
    rotate_left
    · show Act.put _ (some 51) _ = _
      simp only [Act.put, List.setIfInBounds_toArray, List.set_cons_zero, List.set_cons_succ, i64_w, i32_w]
      rfl
    refine one_ (i := 7) (N := some 52) #[true, true, true, true, true, true, true, true, false] rfl rfl (one_of HT_.out (by kernel_rfl)) (by decide) (fun K hK => ?_)
    refine goes_ Try.func54 (by kernel_rfl) rfl #[.int .u32 t176] (by rfl) rfl rfl (by (try simp only [List.map_toArray, List.map_cons, List.map_nil]); first | done | rfl | (simp only [List.length_drop, List.length_take]; rfl)) ?_
    with_reducible refine (seal_bytes.calls k t176 t177 _ A15.out).mono ?_
    rintro e w22 ⟨rfl, hb⟩
    refine ⟨_, rfl, ?_⟩
    have n0_ := Aside0.mk (below_step (by repeat (first | (with_reducible first | exact HB.out | apply below_alloc | apply pw_below_drewN | apply below_drew1) | exact HB.out)) hb)
    clear HB
    have HB := n0_
    clear n0_
    (try clear hb)
    (try clear hb2)
    (try clear hk)
    (try clear hi)
    refine hK.out _ _ trivial (fun hHeld => ?_)
    clear hK K
    refine norm_ (a' := ?_) ?_ ?_
    rotate_left
    · show Act.put _ (some 52) _ = _
      simp only [Act.put, List.setIfInBounds_toArray, List.set_cons_zero, List.set_cons_succ, i64_w, i32_w]
      rfl
    refine pure_ (i := 8) (N := some 53) (v := ?_) (a' := ?_) #[true, true, true, true, true, true, true, true, true] rfl rfl (any_of HT_.out (by kernel_rfl)) (fun _ _ _ h => h) (Or.inl ⟨by rfl, ?_⟩) ?_ ?_
    rotate_left
    · intro w'
      go_simp
      with_reducible rfl
    rotate_left
    · simp only [Act.put, List.setIfInBounds_toArray, List.set_cons_zero, List.set_cons_succ, i64_w, i32_w]
      rfl
    refine done_ (done_of HT_.out (by kernel_rfl)) ?_
    try go_wp2
    go_ret3
    exact ⟨by first | rfl | (simp [errW_none, errW_some] <;> rfl) | (simp only [← hji7]; first | rfl | (simp [errW_none, errW_some] <;> rfl)) | (simp [*, errW_none, errW_some] <;> rfl), by repeat (first | (with_reducible first | exact HB.out | apply below_alloc | apply pw_below_drewN | apply below_drew1) | exact HB.out)⟩
  rw [if_pos c16] at H
  have c16b0 : ((a0.extract (t174 : Int).toNat ((ji7) : Int).toNat).toList == t177.toList) = true := beq_iff_eq.mpr c16
  have c16b1 : ((a0.extract (t174 : Int).toNat ((ji7) : Int).toNat).toList != t177.toList) = false := bne_eq_false_iff_eq.mpr c16
  clear c16
  simp only [Option.some.injEq, Prod.mk.injEq] at H
  obtain ⟨rfl, rfl, rfl⟩ := H
  go_enter Try.func42, Try.ntmps42
  try go_wp2_with (first | ((with_reducible refine gate_callee (f := 56) rfl ?_); refine goesL_ (some 11) rfl rfl Try.func56 (by kernel_rfl) rfl #[.string a0] rfl (by (try simp only [List.map_toArray, List.map_cons, List.map_nil]); first | done | rfl | (simp only [List.length_drop, List.length_take]; rfl)) ?_; (with_reducible refine (cell_TakeNum.calls k a0 t173 t174 t175 _ A2.out).mono ?_); rintro e w' ⟨rfl, ⟨nd, rfl⟩⟩; refine ⟨_, rfl, ?_⟩))
  rw [drewN_self w]
  generalize hq_ : World.drewN w _ = w17
  have n0_ : Aside0 (Below w.heap.size w w17) := ⟨by rw [← hq_]; exact (by repeat (first | (with_reducible first | exact HB.out | apply below_alloc | apply pw_below_drewN | apply below_drew1) | exact HB.out))⟩
  clear HB hq_
  have HB := n0_
  clear n0_
  have n0_ := Aside0.mk (below_drew1 HB.out)
  clear HB
  have HB := n0_
  clear n0_
  refine start_ (n := 9) (S := fun w' => True) (ds := []) #[false, false, false, false, false, false, false, false, false] (by kernel_rfl) rfl rfl trivial (fun hHeld => ?_); refine with_tabW seal_Open.tab9 seal_Open.bits9 (fun HT_ HW_ => ?_)
  generalize w17.drew = w18 at HB hHeld ⊢
  refine pure_ (i := 0) (N := some 45) (v := ?_) (a' := ?_) #[true, false, false, false, false, false, false, false, false] rfl rfl (any_of HT_.out (by kernel_rfl)) (fun _ _ _ h => h) (Or.inl ⟨by rfl, ?_⟩) ?_ ?_
  rotate_left
  · intro w'
    go_simp
    with_reducible rfl
  rotate_left
  · simp only [Act.put, List.setIfInBounds_toArray, List.set_cons_zero, List.set_cons_succ, i64_w, i32_w]
    rfl
  refine pure_ (i := 1) (N := some 46) (v := ?_) (a' := ?_) #[true, true, false, false, false, false, false, false, false] rfl rfl (any_of HT_.out (by kernel_rfl)) (fun _ _ _ h => h) (Or.inl ⟨by rfl, ?_⟩) ?_ ?_
  rotate_left
  · intro w'
    go_simp
    with_reducible rfl
  rotate_left
  · simp only [Act.put, List.setIfInBounds_toArray, List.set_cons_zero, List.set_cons_succ, i64_w, i32_w]
    rfl
  refine pure_ (i := 2) (N := some 47) (v := ?_) (a' := ?_) #[true, true, true, false, false, false, false, false, false] rfl rfl (any_of HT_.out (by kernel_rfl)) (fun _ _ _ h => h) (Or.inl ⟨by rfl, ?_⟩) ?_ ?_
  rotate_left
  · intro w'
    go_simp
    with_reducible rfl
  rotate_left
  · simp only [Act.put, List.setIfInBounds_toArray, List.set_cons_zero, List.set_cons_succ, i64_w, i32_w]
    rfl
  refine pure_ (i := 3) (N := some 48) (v := ?_) (a' := ?_) #[true, true, true, true, false, false, false, false, false] rfl rfl (any_of HT_.out (by kernel_rfl)) (fun _ _ _ h => h) (Or.inl ⟨by rfl, ?_⟩) ?_ ?_
  rotate_left
  · intro w'
    go_simp
    with_reducible rfl
  rotate_left
  · simp only [Act.put, List.setIfInBounds_toArray, List.set_cons_zero, List.set_cons_succ, i64_w, i32_w]
    rfl
  refine pure_ (i := 4) (N := some 49) (v := ?_) (a' := ?_) #[true, true, true, true, true, false, false, false, false] rfl rfl (any_of HT_.out (by kernel_rfl)) (fun _ _ _ h => h) (Or.inl ⟨by rfl, ?_⟩) ?_ ?_
  rotate_left
  · intro w'
    go_simp
    with_reducible rfl
  rotate_left
  · simp only [Act.put, List.setIfInBounds_toArray, List.set_cons_zero, List.set_cons_succ, i64_w, i32_w]
    rfl
  refine pure_ (i := 5) (N := some 50) (v := ?_) (a' := ?_) #[true, true, true, true, true, true, false, false, false] rfl rfl (any_of HT_.out (by kernel_rfl)) (fun _ _ _ h => h) (Or.inl ⟨by rfl, ?_⟩) ?_ ?_
  rotate_left
  · intro w'
    go_simp
    with_reducible rfl
  rotate_left
  · simp only [Act.put, List.setIfInBounds_toArray, List.set_cons_zero, List.set_cons_succ, i64_w, i32_w]
    rfl
  refine one_ (i := 6) (N := some 51) #[true, true, true, true, true, true, true, false, false] rfl rfl (one_of HT_.out (by kernel_rfl)) (by decide) (fun K hK => ?_)
  refine goes_ Try.func55 (by kernel_rfl) rfl #[.string (a0.extract ((ji7) : Int).toNat ((wrap64 ((ji7) + t173)) : Int).toNat)] (by rfl) rfl rfl (by (try simp only [List.map_toArray, List.map_cons, List.map_nil]); first | done | (simp only [hji7]; rfl) | rfl | (simp only [List.length_drop, List.length_take]; rfl)) ?_
  with_reducible refine (seal_Sum.calls k (a0.extract ((ji7) : Int).toNat ((wrap64 ((ji7) + t173)) : Int).toNat) t176 _ A14.out).mono ?_
  rintro e w' ⟨rfl, ⟨nd, rfl⟩⟩
  refine ⟨_, rfl, ?_⟩
  refine hK.out _ _ trivial (fun hHeld => ?_)
  clear hK K
  refine norm_ (a' := ?_) ?_ ?_
  rotate_left
  · show Act.put _ (some 51) _ = _
    simp only [Act.put, List.setIfInBounds_toArray, List.set_cons_zero, List.set_cons_succ, i64_w, i32_w]
    rfl
  refine one_ (i := 7) (N := some 52) #[true, true, true, true, true, true, true, true, false] rfl rfl (one_of HT_.out (by kernel_rfl)) (by decide) (fun K hK => ?_)
  refine goes_ Try.func54 (by kernel_rfl) rfl #[.int .u32 t176] (by rfl) rfl rfl (by (try simp only [List.map_toArray, List.map_cons, List.map_nil]); first | done | rfl | (simp only [List.length_drop, List.length_take]; rfl)) ?_
  with_reducible refine (seal_bytes.calls k t176 t177 _ A15.out).mono ?_
  rintro e w19 ⟨rfl, hb⟩
  refine ⟨_, rfl, ?_⟩
  have n0_ := Aside0.mk (below_step (by repeat (first | (with_reducible first | exact HB.out | apply below_alloc | apply pw_below_drewN | apply below_drew1) | exact HB.out)) hb)
  clear HB
  have HB := n0_
  clear n0_
  (try clear hb)
  (try clear hb2)
  (try clear hk)
  (try clear hi)
  refine hK.out _ _ trivial (fun hHeld => ?_)
  clear hK K
  refine norm_ (a' := ?_) ?_ ?_
  rotate_left
  · show Act.put _ (some 52) _ = _
    simp only [Act.put, List.setIfInBounds_toArray, List.set_cons_zero, List.set_cons_succ, i64_w, i32_w]
    rfl
  refine pure_ (i := 8) (N := some 53) (v := ?_) (a' := ?_) #[true, true, true, true, true, true, true, true, true] rfl rfl (any_of HT_.out (by kernel_rfl)) (fun _ _ _ h => h) (Or.inl ⟨by rfl, ?_⟩) ?_ ?_
  rotate_left
  · intro w'
    go_simp
    with_reducible rfl
  rotate_left
  · simp only [Act.put, List.setIfInBounds_toArray, List.set_cons_zero, List.set_cons_succ, i64_w, i32_w]
    rfl
  refine done_ (done_of HT_.out (by kernel_rfl)) ?_
  try go_wp2
  go_ret3
  exact ⟨by first | rfl | (simp [errW_none, errW_some] <;> rfl) | (simp only [← hji7]; first | rfl | (simp [errW_none, errW_some] <;> rfl)) | (simp [*, errW_none, errW_some] <;> rfl), by repeat (first | (with_reducible first | exact HB.out | apply below_alloc | apply pw_below_drewN | apply below_drew1) | exact HB.out)⟩

/-- A state of type 90 at block g of W; what its slices lead to came in by w0. -/
def IsS90 (w0 W : World) (g : Nat) (f0 : ByteArray) (f1 : Int) (f2 : Int) : Prop := W.heap[g]? = some (.cells #[.string f0, .int .i64 f1, .int .i64 f2] 90 (0, 0)) ∧ w0.heap.size ≤ g
theorem IsS90.grown {w0 W : World} {g : Nat} {f0 : ByteArray} {f1 : Int} {f2 : Int} {W1 : World} {row : Option Nat} (h : IsS90 w0 W g f0 f1 f2) (hw : W.grownBy W1 row) (hne : some g ≠ row) : IsS90 w0 W1 g f0 f1 f2 := by
  obtain ⟨hb, hg⟩ := h
  exact ⟨blk_grown hb hw hne, hg⟩
theorem IsS90.own_neN {w0 W : World} {g : Nat} {f0 : ByteArray} {f1 : Int} {f2 : Int} {α : Type} {d : Kd α} {e : Nat} {base : Nat} {ok : Nat → Prop} {v : Value} {xs : List α} (h : IsS90 w0 W g f0 f1 f2) (ho : Kd.N d e W base ok v xs) (ht : e ≠ 90) : some g ≠ v.ownBlock := by
  obtain ⟨hb, hg⟩ := h
  exact Kd.N_ne ho hb ht
theorem IsS90.fresh {w0 W : World} {g : Nat} {f0 : ByteArray} {f1 : Int} {f2 : Int} (h : IsS90 w0 W g f0 f1 f2) : ∀ k, W.heap.size ≤ k → k ≠ g := by
  obtain ⟨hb, hg⟩ := h
  exact Kd.freshB hb
theorem IsS90.kept {w0 W : World} {g : Nat} {f0 : ByteArray} {f1 : Int} {f2 : Int} {W1 : World} {S : Nat → Prop} (h : IsS90 w0 W g f0 f1 f2) (hk : Kept W W1 S) (hne : ¬ S g) : IsS90 w0 W1 g f0 f1 f2 := by
  obtain ⟨hb, hg⟩ := h
  exact ⟨blk_kept hb hk hne, hg⟩
theorem IsS90.below {w0 W : World} {g : Nat} {f0 : ByteArray} {f1 : Int} {f2 : Int} {W1 : World} (h : IsS90 w0 W g f0 f1 f2) (hw : Below W.heap.size W W1) : IsS90 w0 W1 g f0 f1 f2 := h.grown (grown_of_below hw none) (by simp)
theorem IsS90.alloc {w0 W : World} {g : Nat} {f0 : ByteArray} {f1 : Int} {f2 : Int} (h : IsS90 w0 W g f0 f1 f2) (o : Obj) : IsS90 w0 (W.alloc o) g f0 f1 f2 := h.below (below_alloc (Below.refl _ _) o)
theorem IsS90.drewN {w0 W : World} {g : Nat} {f0 : ByteArray} {f1 : Int} {f2 : Int} (h : IsS90 w0 W g f0 f1 f2) (m : Nat) : IsS90 w0 (W.drewN m) g f0 f1 f2 := h
theorem IsS90.drew {w0 W : World} {g : Nat} {f0 : ByteArray} {f1 : Int} {f2 : Int} (h : IsS90 w0 W g f0 f1 f2) : IsS90 w0 W.drew g f0 f1 f2 := h
theorem IsS90.at_ {w0 W : World} {g : Nat} {f0 : ByteArray} {f1 : Int} {f2 : Int} {w' : World} {m : Nat} (hq : W.drewN m = w') (h : IsS90 w0 W g f0 f1 f2) : IsS90 w0 w' g f0 f1 f2 := by subst hq; exact IsS90.drewN h m
theorem IsS90.apart {w0 W : World} {g : Nat} {f0 : ByteArray} {f1 : Int} {f2 : Int} {α : Type} {d : Kd α} {e : Nat} {base : Nat} {ok : Nat → Prop} {v : Value} {xs : List α} (h : IsS90 w0 W g f0 f1 f2) (ho : d.R e W base ok v xs) (ht : ∀ q, q ∈ e :: d.E → q ≠ 90) : d.R e W base (fun k => ok k ∧ k ≠ g) v xs := by
  obtain ⟨hb, hg⟩ := h
  exact Kd.R_types ho hb ht
theorem IsS90.own_ne {w0 W : World} {g : Nat} {f0 : ByteArray} {f1 : Int} {f2 : Int} {α : Type} {d : Kd α} {e : Nat} {base : Nat} {ok : Nat → Prop} {v : Value} {xs : List α} (h : IsS90 w0 W g f0 f1 f2) (ho : d.R e W base ok v xs) (ht : e ≠ 90) : some g ≠ v.ownBlock := by
  obtain ⟨hb, hg⟩ := h
  exact Kd.R_ne ho hb ht
theorem IsS90.apartQ {w0 W : World} {g : Nat} {f0 : ByteArray} {f1 : Int} {f2 : Int} {α : Type} {d : Kd α} {e : Nat} {base : Nat} {ok : Nat → Prop} {v : Value} {xs : List α} (h : IsS90 w0 W g f0 f1 f2) (ho : d.Q e W base ok v xs) (ht : ∀ q, q ∈ e :: d.E → q ≠ 90) : d.Q e W base (fun k => ok k ∧ k ≠ g) v xs := by
  obtain ⟨hb, hg⟩ := h
  exact Kd.Q_types ho hb ht
theorem IsS90.own_neQ {w0 W : World} {g : Nat} {f0 : ByteArray} {f1 : Int} {f2 : Int} {α : Type} {d : Kd α} {e : Nat} {base : Nat} {ok : Nat → Prop} {v : Value} {xs : List α} (h : IsS90 w0 W g f0 f1 f2) (ho : d.Q e W base ok v xs) (ht : e ≠ 90) : some g ≠ v.ownBlock := by
  obtain ⟨hb, hg⟩ := h
  exact Kd.Q_ne ho hb ht
theorem IsS90.apartS {w0 W : World} {g : Nat} {f0 : ByteArray} {f1 : Int} {f2 : Int} {α : Type} {d : Kd α} {e : Nat} {base : Nat} {ok : Nat → Prop} {v : Value} {xs : List α} (h : IsS90 w0 W g f0 f1 f2) (ho : d.S e W base ok v xs) (ht : ∀ q, q ∈ e :: d.E → q ≠ 90) : d.S e W base (fun k => ok k ∧ k ≠ g) v xs := by
  obtain ⟨hb, hg⟩ := h
  exact Kd.S_types ho hb ht
theorem IsS90.own_neS {w0 W : World} {g : Nat} {f0 : ByteArray} {f1 : Int} {f2 : Int} {α : Type} {d : Kd α} {e : Nat} {base : Nat} {ok : Nat → Prop} {v : Value} {xs : List α} (h : IsS90 w0 W g f0 f1 f2) (ho : d.S e W base ok v xs) (ht : e ≠ 90) : some g ≠ v.ownBlock := by
  obtain ⟨hb, hg⟩ := h
  exact Kd.S_ne ho hb ht
theorem IsS90.lt {w0 W : World} {g : Nat} {f0 : ByteArray} {f1 : Int} {f2 : Int} (h : IsS90 w0 W g f0 f1 f2) : g < W.heap.size := by
  obtain ⟨hb, hg⟩ := h
  exact blk_lt hb
theorem IsS90.ge {w0 W : World} {g : Nat} {f0 : ByteArray} {f1 : Int} {f2 : Int} (h : IsS90 w0 W g f0 f1 f2) : w0.heap.size ≤ g := by
  obtain ⟨hb, hg⟩ := h
  exact hg
theorem IsS90.ne_blk {w0 W : World} {g : Nat} {f0 : ByteArray} {f1 : Int} {f2 : Int} {a : Nat} {cs : Array Value} {t : TypeId} {fr : Nat × Nat} (h : IsS90 w0 W g f0 f1 f2) (hb2 : W.heap[a]? = some (.cells cs t fr)) (ht : t ≠ 90) : g ≠ a := by
  obtain ⟨hb, hg⟩ := h
  rintro rfl
  rw [hb] at hb2
  injection hb2 with hb2
  injection hb2 with _ ht2
  exact ht ht2.symm
theorem IsS90.far {w0 W : World} {g : Nat} {f0 : ByteArray} {f1 : Int} {f2 : Int} {p : Addr} (h : IsS90 w0 W g f0 f1 f2) (hne : g ≠ p.block) (u : Value) : IsS90 w0 (W.setCell p u) g f0 f1 f2 := by
  obtain ⟨hb, hg⟩ := h
  exact ⟨blk_far hb hne u, hg⟩
theorem cellS90_0 {W : World} {g : Nat} {f0 : ByteArray} {f1 : Int} {f2 : Int} (h : W.heap[g]? = some (.cells #[.string f0, .int .i64 f1, .int .i64 f2] 90 (0, 0))) : W.cell? ⟨g, 0, none⟩ = some (.string f0) := (blk_cell h 0).trans rfl
theorem IsS90.set_0 {w0 W : World} {g : Nat} {f0 : ByteArray} {f1 : Int} {f2 : Int} (h : IsS90 w0 W g f0 f1 f2) (x : ByteArray) : IsS90 w0 (W.setCell ⟨g, 0, none⟩ (.string x)) g x f1 f2 := by
  obtain ⟨hb, hg⟩ := h
  exact ⟨by simpa using blk_set hb 0 (.string x), hg⟩
theorem cellS90_1 {W : World} {g : Nat} {f0 : ByteArray} {f1 : Int} {f2 : Int} (h : W.heap[g]? = some (.cells #[.string f0, .int .i64 f1, .int .i64 f2] 90 (0, 0))) : W.cell? ⟨g, 1, none⟩ = some (.int .i64 f1) := (blk_cell h 1).trans rfl
theorem IsS90.set_1 {w0 W : World} {g : Nat} {f0 : ByteArray} {f1 : Int} {f2 : Int} (h : IsS90 w0 W g f0 f1 f2) (x : Int) : IsS90 w0 (W.setCell ⟨g, 1, none⟩ (.int .i64 x)) g f0 x f2 := by
  obtain ⟨hb, hg⟩ := h
  exact ⟨by simpa using blk_set hb 1 (.int .i64 x), hg⟩
theorem cellS90_2 {W : World} {g : Nat} {f0 : ByteArray} {f1 : Int} {f2 : Int} (h : W.heap[g]? = some (.cells #[.string f0, .int .i64 f1, .int .i64 f2] 90 (0, 0))) : W.cell? ⟨g, 2, none⟩ = some (.int .i64 f2) := (blk_cell h 2).trans rfl
theorem IsS90.set_2 {w0 W : World} {g : Nat} {f0 : ByteArray} {f1 : Int} {f2 : Int} (h : IsS90 w0 W g f0 f1 f2) (x : Int) : IsS90 w0 (W.setCell ⟨g, 2, none⟩ (.int .i64 x)) g f0 f1 x := by
  obtain ⟨hb, hg⟩ := h
  exact ⟨by simpa using blk_set hb 2 (.int .i64 x), hg⟩
theorem IsS90.new (w0 W : World) (f0 : ByteArray) (f1 : Int) (f2 : Int) (hB : Below w0.heap.size w0 W) : IsS90 w0 (W.alloc (.cells #[.string f0, .int .i64 f1, .int .i64 f2] 90)) W.heap.size f0 f1 f2 := ⟨by simpa using heap_alloc_new W _, hB.size⟩

/-! ### entry_Taker_Num: function 57 -/
def entry_Taker_Num.f (k : Nat) (s0_0 : ByteArray) (s0_1 : Int) (s0_2 : Int) : Option (Int × ByteArray × Int × Int) := if s0_2 = 0 then (if 0 ≤ s0_1 then (if s0_1 ≤ (s0_0.size : Int) then ((cell_TakeNum.f k (s0_0.extract (s0_1 : Int).toNat s0_0.size)).bind fun bt178 => (some (bt178.1, s0_0, wrap64 (s0_1 + bt178.2.1), bt178.2.2))) else (none)) else (none)) else (some (0, s0_0, s0_1, s0_2))
theorem entry_Taker_Num.mono : ∀ a0 a1 a2 k, LeO (entry_Taker_Num.f k a0 a1 a2) (entry_Taker_Num.f (k + 1) a0 a1 a2) := by
  intro a0 a1 a2 k
  unfold entry_Taker_Num.f
  repeat' first
      | (with_reducible exact cell_TakeNum.mono _ _)
      | (with_reducible exact LeO.refl _)
      | (with_reducible exact LeO.none _)
      | (with_reducible refine LeO.ite ?_ ?_)
      | (with_reducible refine LeO.bind ?_ (fun _ => ?_))
      | exact cell_TakeNum.mono _ _
      | exact LeO.none _
      | refine LeO.ite ?_ ?_
      | refine LeO.bind ?_ (fun _ => ?_)
set_option maxHeartbeats 8000000 in
set_option maxRecDepth 100000 in
theorem entry_Taker_Num.calls (k : Nat) (g : Nat) (s0_0 : ByteArray) (s0_1 : Int) (s0_2 : Int) (r1 : Int) (r2 : ByteArray) (r3 : Int) (r4 : Int) (w0 w : World) (hI : IsS90 w0 w g s0_0 s0_1 s0_2) (hB : Below w0.heap.size w0 w) (h : entry_Taker_Num.f k s0_0 s0_1 s0_2 = some (r1, r2, r3, r4)) :
    Calls Try.prog 57 #[.pointer (some ⟨g, 0, none⟩)] w fun e w' => e = .returned (.int .i64 r1) ∧ IsS90 w0 w' g r2 r3 r4 ∧ Below w0.heap.size w0 w' ∧ KeepBut w w' g none := by
  have HI0 := Aside0.mk hI
  have HK := Aside0.mk (KeepBut.refl w g none)
  have HL := Aside0.mk hB.size
  clear hI
  have HW0 := Aside0.mk hB.size
  have HB := Aside0.mk hB
  clear hB
  have H : (if s0_2 = 0 then (if 0 ≤ s0_1 then (if s0_1 ≤ (s0_0.size : Int) then ((cell_TakeNum.f k (s0_0.extract (s0_1 : Int).toNat s0_0.size)).bind fun bt178 => (some (bt178.1, s0_0, wrap64 (s0_1 + bt178.2.1), bt178.2.2))) else (none)) else (none)) else (some (0, s0_0, s0_1, s0_2))) = some (r1, r2, r3, r4) := h
  clear h
  by_cases c2 : s0_2 = 0
  rotate_left
  · rw [if_neg c2] at H
    have c2b0 : (s0_2 == 0) = false := beq_eq_false_iff_ne.mpr c2
    have c2b1 : (s0_2 != 0) = true := bne_iff_ne.mpr c2
    simp only [Option.some.injEq, Prod.mk.injEq] at H
    obtain ⟨rfl, rfl, rfl, rfl⟩ := H
    obtain ⟨HGz7, hgz7⟩ := HI0.out
    have hcz7_0 := cellS90_0 HGz7
    have hcz7_1 := cellS90_1 HGz7
    have hcz7_2 := cellS90_2 HGz7
    have hfz7_0 := blk_frozen HGz7 0
    have hfz7_1 := blk_frozen HGz7 1
    have hfz7_2 := blk_frozen HGz7 2
    clear HGz7 hgz7
    go_enter Try.func57, Try.ntmps57
    go_wp2
    repeat (go_quiet (fail); try go_wp2)
    go_ret
    exact ⟨by first | rfl | (simp [errW_none, errW_some] <;> rfl) | (simp [*, errW_none, errW_some] <;> rfl), by repeat (first | (with_reducible first | exact HI0.out | apply IsS90.alloc | apply IsS90.drewN | apply IsS90.drew | apply IsS90.set_0 | apply IsS90.set_1 | apply IsS90.set_2) | exact HI0.out), by repeat (first | (with_reducible first | exact HB.out | apply below_alloc | apply pw_below_drewN | apply below_drew1 | refine below_set ?_ (IsS90.ge HI0.out)) | exact HB.out), by repeat (first | (with_reducible first | exact HK.out | apply KeepBut.set_ | apply keep_drewN | apply keep_drew | apply keep_alloc) | exact HK.out)⟩
  rw [if_pos c2] at H
  have c2b0 : (s0_2 == 0) = true := beq_iff_eq.mpr c2
  have c2b1 : (s0_2 != 0) = false := bne_eq_false_iff_eq.mpr c2
  clear c2
  by_cases c3 : 0 ≤ s0_1
  rotate_left
  · rw [if_neg c3] at H
    exact absurd H (by simp)
  rw [if_pos c3] at H
  have c3b0 := eq_true c3
  have c3b1 : decide (0 ≤ s0_1) = true := decide_eq_true c3
  clear c3
  by_cases c4 : s0_1 ≤ (s0_0.size : Int)
  rotate_left
  · rw [if_neg c4] at H
    exact absurd H (by simp)
  rw [if_pos c4] at H
  have c4b0 := eq_true c4
  have c4b1 : decide (s0_1 ≤ (s0_0.size : Int)) = true := decide_eq_true c4
  clear c4
  replace H := Option.bind_eq_some_iff.mp H
  obtain ⟨⟨t178, t179, t180⟩, A50, H⟩ := H
  replace H : (some (t178, s0_0, wrap64 (s0_1 + t179), t180)) = some (r1, r2, r3, r4) := H
  have A5 := Aside0.mk A50
  clear A50
  simp only [Option.some.injEq, Prod.mk.injEq] at H
  obtain ⟨rfl, rfl, rfl, rfl⟩ := H
  obtain ⟨HGz6, hgz6⟩ := HI0.out
  have hcz6_0 := cellS90_0 HGz6
  have hcz6_1 := cellS90_1 HGz6
  have hcz6_2 := cellS90_2 HGz6
  have hfz6_0 := blk_frozen HGz6 0
  have hfz6_1 := blk_frozen HGz6 1
  have hfz6_2 := blk_frozen HGz6 2
  clear HGz6 hgz6
  go_enter Try.func57, Try.ntmps57
  go_wp2_with (first | (go_at_call 56; (with_reducible refine (cell_TakeNum.calls k (s0_0.extract (s0_1 : Int).toNat s0_0.size) t178 t179 t180 _ A5.out).mono ?_); rintro e w' ⟨rfl, ⟨nd, rfl⟩⟩; (try first | exact ⟨rfl, _, World.drewN_drewN _ _ _⟩ | exact ⟨rfl, _, Eq.trans (World.drewN_drewN _ _ _) (congrArg (World.drewN _) (Nat.add_assoc _ _ _))⟩)))
  repeat (go_quiet (first | (go_at_call 56; (with_reducible refine (cell_TakeNum.calls k (s0_0.extract (s0_1 : Int).toNat s0_0.size) t178 t179 t180 _ A5.out).mono ?_); rintro e w' ⟨rfl, ⟨nd, rfl⟩⟩; (try first | exact ⟨rfl, _, World.drewN_drewN _ _ _⟩ | exact ⟨rfl, _, Eq.trans (World.drewN_drewN _ _ _) (congrArg (World.drewN _) (Nat.add_assoc _ _ _))⟩))); try go_wp2_with (first | (go_at_call 56; (with_reducible refine (cell_TakeNum.calls k (s0_0.extract (s0_1 : Int).toNat s0_0.size) t178 t179 t180 _ A5.out).mono ?_); rintro e w' ⟨rfl, ⟨nd, rfl⟩⟩; (try first | exact ⟨rfl, _, World.drewN_drewN _ _ _⟩ | exact ⟨rfl, _, Eq.trans (World.drewN_drewN _ _ _) (congrArg (World.drewN _) (Nat.add_assoc _ _ _))⟩))))
  go_ret
  exact ⟨by first | rfl | (simp [errW_none, errW_some] <;> rfl) | (simp [*, errW_none, errW_some] <;> rfl), by repeat (first | (with_reducible first | exact HI0.out | apply IsS90.alloc | apply IsS90.drewN | apply IsS90.drew | apply IsS90.set_0 | apply IsS90.set_1 | apply IsS90.set_2) | exact HI0.out), by repeat (first | (with_reducible first | exact HB.out | apply below_alloc | apply pw_below_drewN | apply below_drew1 | refine below_set ?_ (IsS90.ge HI0.out)) | exact HB.out), by repeat (first | (with_reducible first | exact HK.out | apply KeepBut.set_ | apply keep_drewN | apply keep_drew | apply keep_alloc) | exact HK.out)⟩

end Go.Proofs.Ytmbedgopceigaaa.P

namespace Go.Proofs.Ytmbedgopceigaaa.P
open Go.RowKit Go.Proofs.YtmbedgopceigaaaW.PrintWords Go.Proofs.YtmbedgopceigaaaW.PrintLast Go.Proofs.YtmbedgopceigaaaW.PrintMore
attribute [local go_sem] max2_int min2_int max_two min_two max_three min_three max_four min_four   -- for this text's walks alone
attribute [local go_sem high] string_leq string_geq string_gtr
set_option linter.unusedVariables false
set_option linter.unusedSimpArgs false

/-! ### cell_TakeText: function 72 -/
def cell_TakeText.f (k : Nat) (a0 : ByteArray) : Option (ByteArray × Int × Int) := (cell_TakeNum.f k a0).bind fun bt181 => (if bt181.2.2 = 0 then (if bt181.1 > (wrap64 ((a0.size : Int) - bt181.2.1)) then (some ((⟨#[]⟩ : ByteArray), 0, 12)) else (if 0 ≤ bt181.2.1 then (if bt181.2.1 ≤ (wrap64 (bt181.2.1 + bt181.1)) then (if (wrap64 (bt181.2.1 + bt181.1)) ≤ (a0.size : Int) then (some (a0.extract (bt181.2.1 : Int).toNat ((wrap64 (bt181.2.1 + bt181.1)) : Int).toNat, wrap64 (bt181.2.1 + bt181.1), 0)) else (none)) else (none)) else (none))) else (some ((⟨#[]⟩ : ByteArray), 0, bt181.2.2)))
theorem cell_TakeText.mono : ∀ a0 k, LeO (cell_TakeText.f k a0) (cell_TakeText.f (k + 1) a0) := by
  intro a0 k
  unfold cell_TakeText.f
  repeat' first
      | (with_reducible exact cell_TakeNum.mono _ _)
      | (with_reducible exact LeO.refl _)
      | (with_reducible exact LeO.none _)
      | (with_reducible refine LeO.ite ?_ ?_)
      | (with_reducible refine LeO.bind ?_ (fun _ => ?_))
      | exact cell_TakeNum.mono _ _
      | exact LeO.none _
      | refine LeO.ite ?_ ?_
      | refine LeO.bind ?_ (fun _ => ?_)
set_option maxHeartbeats 8000000 in
set_option maxRecDepth 100000 in
theorem cell_TakeText.calls (k : Nat) (a0 : ByteArray) (r1 : ByteArray) (r2 : Int) (r3 : Int) (w : World) (h : cell_TakeText.f k a0 = some (r1, r2, r3)) :
    Calls Try.prog 72 #[.string a0] w fun e w' => e = .returned (.tuple #[.string r1, .int .i64 r2, .int .i64 r3]) ∧ Drawn0 w w' := by
  have H : ((cell_TakeNum.f k a0).bind fun bt181 => (if bt181.2.2 = 0 then (if bt181.1 > (wrap64 ((a0.size : Int) - bt181.2.1)) then (some ((⟨#[]⟩ : ByteArray), 0, 12)) else (if 0 ≤ bt181.2.1 then (if bt181.2.1 ≤ (wrap64 (bt181.2.1 + bt181.1)) then (if (wrap64 (bt181.2.1 + bt181.1)) ≤ (a0.size : Int) then (some (a0.extract (bt181.2.1 : Int).toNat ((wrap64 (bt181.2.1 + bt181.1)) : Int).toNat, wrap64 (bt181.2.1 + bt181.1), 0)) else (none)) else (none)) else (none))) else (some ((⟨#[]⟩ : ByteArray), 0, bt181.2.2)))) = some (r1, r2, r3) := h
  clear h
  replace H := Option.bind_eq_some_iff.mp H
  obtain ⟨⟨t181, t182, t183⟩, A20, H⟩ := H
  replace H : (if t183 = 0 then (if t181 > (wrap64 ((a0.size : Int) - t182)) then (some ((⟨#[]⟩ : ByteArray), 0, 12)) else (if 0 ≤ t182 then (if t182 ≤ (wrap64 (t182 + t181)) then (if (wrap64 (t182 + t181)) ≤ (a0.size : Int) then (some (a0.extract (t182 : Int).toNat ((wrap64 (t182 + t181)) : Int).toNat, wrap64 (t182 + t181), 0)) else (none)) else (none)) else (none))) else (some ((⟨#[]⟩ : ByteArray), 0, t183))) = some (r1, r2, r3) := H
  have A2 := Aside0.mk A20
  clear A20
  by_cases c3 : t183 = 0
  rotate_left
  · rw [if_neg c3] at H
    have c3b0 : (t183 == 0) = false := beq_eq_false_iff_ne.mpr c3
    have c3b1 : (t183 != 0) = true := bne_iff_ne.mpr c3
    simp only [Option.some.injEq, Prod.mk.injEq] at H
    obtain ⟨rfl, rfl, rfl⟩ := H
    go_enter Try.func72, Try.ntmps72
    go_wp2_with (first | ((with_reducible refine gate_callee (f := 56) rfl ?_); refine goesL_ (some 10) rfl rfl Try.func56 (by kernel_rfl) rfl #[.string a0] rfl (by (try simp only [List.map_toArray, List.map_cons, List.map_nil]); first | done | rfl | (simp only [List.length_drop, List.length_take]; rfl)) ?_; (with_reducible refine (cell_TakeNum.calls k a0 t181 t182 t183 _ A2.out).mono ?_); rintro e w' ⟨rfl, ⟨nd, rfl⟩⟩; refine ⟨_, rfl, ?_⟩))
    go_ret3
    exact ⟨by first | rfl | (simp; done) | (simp [*]; done), by repeat (first | exact Drawn0.refl _ | apply Drawn0.step)⟩
  rw [if_pos c3] at H
  have c3b0 : (t183 == 0) = true := beq_iff_eq.mpr c3
  have c3b1 : (t183 != 0) = false := bne_eq_false_iff_eq.mpr c3
  clear c3
  by_cases c4 : t181 > (wrap64 ((a0.size : Int) - t182))
  · rw [if_pos c4] at H
    have c4b0 : decide ((wrap64 ((a0.size : Int) - t182)) < t181) = true := decide_eq_true c4
    clear c4
    simp only [Option.some.injEq, Prod.mk.injEq] at H
    obtain ⟨rfl, rfl, rfl⟩ := H
    go_enter Try.func72, Try.ntmps72
    go_wp2_with (first | ((with_reducible refine gate_callee (f := 56) rfl ?_); refine goesL_ (some 10) rfl rfl Try.func56 (by kernel_rfl) rfl #[.string a0] rfl (by (try simp only [List.map_toArray, List.map_cons, List.map_nil]); first | done | rfl | (simp only [List.length_drop, List.length_take]; rfl)) ?_; (with_reducible refine (cell_TakeNum.calls k a0 t181 t182 t183 _ A2.out).mono ?_); rintro e w' ⟨rfl, ⟨nd, rfl⟩⟩; refine ⟨_, rfl, ?_⟩))
    go_ret3
    exact ⟨by first | rfl | (simp; done) | (simp [*]; done), by repeat (first | exact Drawn0.refl _ | apply Drawn0.step)⟩
  rw [if_neg c4] at H
  have c4b0 : decide ((wrap64 ((a0.size : Int) - t182)) < t181) = false := decide_eq_false c4
  clear c4
  by_cases c5 : 0 ≤ t182
  rotate_left
  · rw [if_neg c5] at H
    exact absurd H (by simp)
  rw [if_pos c5] at H
  have c5b0 := eq_true c5
  have c5b1 : decide (0 ≤ t182) = true := decide_eq_true c5
  clear c5
  by_cases c6 : t182 ≤ (wrap64 (t182 + t181))
  rotate_left
  · rw [if_neg c6] at H
    exact absurd H (by simp)
  rw [if_pos c6] at H
  have c6b0 := eq_true c6
  have c6b1 : decide (t182 ≤ (wrap64 (t182 + t181))) = true := decide_eq_true c6
  by_cases c7 : (wrap64 (t182 + t181)) ≤ (a0.size : Int)
  rotate_left
  · rw [if_neg c7] at H
    exact absurd H (by simp)
  rw [if_pos c7] at H
  have c7b0 := eq_true c7
  have c7b1 : decide ((wrap64 (t182 + t181)) ≤ (a0.size : Int)) = true := decide_eq_true c7
  simp only [Option.some.injEq, Prod.mk.injEq] at H
  obtain ⟨rfl, rfl, rfl⟩ := H
  go_enter Try.func72, Try.ntmps72
  go_wp2_with (first | ((with_reducible refine gate_callee (f := 56) rfl ?_); refine goesL_ (some 10) rfl rfl Try.func56 (by kernel_rfl) rfl #[.string a0] rfl (by (try simp only [List.map_toArray, List.map_cons, List.map_nil]); first | done | rfl | (simp only [List.length_drop, List.length_take]; rfl)) ?_; (with_reducible refine (cell_TakeNum.calls k a0 t181 t182 t183 _ A2.out).mono ?_); rintro e w' ⟨rfl, ⟨nd, rfl⟩⟩; refine ⟨_, rfl, ?_⟩))
  go_ret3
  exact ⟨by first | rfl | (simp; done) | (simp [*]; done), by repeat (first | exact Drawn0.refl _ | apply Drawn0.step)⟩

/-! ### entry_Taker_Text: function 58 -/
def entry_Taker_Text.f (k : Nat) (s0_0 : ByteArray) (s0_1 : Int) (s0_2 : Int) : Option (ByteArray × ByteArray × Int × Int) := if s0_2 = 0 then (if 0 ≤ s0_1 then (if s0_1 ≤ (s0_0.size : Int) then ((cell_TakeText.f k (s0_0.extract (s0_1 : Int).toNat s0_0.size)).bind fun bt184 => (some (bt184.1, s0_0, wrap64 (s0_1 + bt184.2.1), bt184.2.2))) else (none)) else (none)) else (some ((⟨#[]⟩ : ByteArray), s0_0, s0_1, s0_2))
theorem entry_Taker_Text.mono : ∀ a0 a1 a2 k, LeO (entry_Taker_Text.f k a0 a1 a2) (entry_Taker_Text.f (k + 1) a0 a1 a2) := by
  intro a0 a1 a2 k
  unfold entry_Taker_Text.f
  repeat' first
      | (with_reducible exact cell_TakeText.mono _ _)
      | (with_reducible exact LeO.refl _)
      | (with_reducible exact LeO.none _)
      | (with_reducible refine LeO.ite ?_ ?_)
      | (with_reducible refine LeO.bind ?_ (fun _ => ?_))
      | exact cell_TakeText.mono _ _
      | exact LeO.none _
      | refine LeO.ite ?_ ?_
      | refine LeO.bind ?_ (fun _ => ?_)
set_option maxHeartbeats 8000000 in
set_option maxRecDepth 100000 in
theorem entry_Taker_Text.calls (k : Nat) (g : Nat) (s0_0 : ByteArray) (s0_1 : Int) (s0_2 : Int) (r1 : ByteArray) (r2 : ByteArray) (r3 : Int) (r4 : Int) (w0 w : World) (hI : IsS90 w0 w g s0_0 s0_1 s0_2) (hB : Below w0.heap.size w0 w) (h : entry_Taker_Text.f k s0_0 s0_1 s0_2 = some (r1, r2, r3, r4)) :
    Calls Try.prog 58 #[.pointer (some ⟨g, 0, none⟩)] w fun e w' => e = .returned (.string r1) ∧ IsS90 w0 w' g r2 r3 r4 ∧ Below w0.heap.size w0 w' ∧ KeepBut w w' g none := by
  have HI0 := Aside0.mk hI
  have HK := Aside0.mk (KeepBut.refl w g none)
  have HL := Aside0.mk hB.size
  clear hI
  have HW0 := Aside0.mk hB.size
  have HB := Aside0.mk hB
  clear hB
  have H : (if s0_2 = 0 then (if 0 ≤ s0_1 then (if s0_1 ≤ (s0_0.size : Int) then ((cell_TakeText.f k (s0_0.extract (s0_1 : Int).toNat s0_0.size)).bind fun bt184 => (some (bt184.1, s0_0, wrap64 (s0_1 + bt184.2.1), bt184.2.2))) else (none)) else (none)) else (some ((⟨#[]⟩ : ByteArray), s0_0, s0_1, s0_2))) = some (r1, r2, r3, r4) := h
  clear h
  by_cases c2 : s0_2 = 0
  rotate_left
  · rw [if_neg c2] at H
    have c2b0 : (s0_2 == 0) = false := beq_eq_false_iff_ne.mpr c2
    have c2b1 : (s0_2 != 0) = true := bne_iff_ne.mpr c2
    simp only [Option.some.injEq, Prod.mk.injEq] at H
    obtain ⟨rfl, rfl, rfl, rfl⟩ := H
    obtain ⟨HGz7, hgz7⟩ := HI0.out
    have hcz7_0 := cellS90_0 HGz7
    have hcz7_1 := cellS90_1 HGz7
    have hcz7_2 := cellS90_2 HGz7
    have hfz7_0 := blk_frozen HGz7 0
    have hfz7_1 := blk_frozen HGz7 1
    have hfz7_2 := blk_frozen HGz7 2
    clear HGz7 hgz7
    go_enter Try.func58, Try.ntmps58
    go_wp2
    repeat (go_quiet (fail); try go_wp2)
    go_ret
    exact ⟨by first | rfl | (simp [errW_none, errW_some] <;> rfl) | (simp [*, errW_none, errW_some] <;> rfl), by repeat (first | (with_reducible first | exact HI0.out | apply IsS90.alloc | apply IsS90.drewN | apply IsS90.drew | apply IsS90.set_0 | apply IsS90.set_1 | apply IsS90.set_2) | exact HI0.out), by repeat (first | (with_reducible first | exact HB.out | apply below_alloc | apply pw_below_drewN | apply below_drew1 | refine below_set ?_ (IsS90.ge HI0.out)) | exact HB.out), by repeat (first | (with_reducible first | exact HK.out | apply KeepBut.set_ | apply keep_drewN | apply keep_drew | apply keep_alloc) | exact HK.out)⟩
  rw [if_pos c2] at H
  have c2b0 : (s0_2 == 0) = true := beq_iff_eq.mpr c2
  have c2b1 : (s0_2 != 0) = false := bne_eq_false_iff_eq.mpr c2
  clear c2
  by_cases c3 : 0 ≤ s0_1
  rotate_left
  · rw [if_neg c3] at H
    exact absurd H (by simp)
  rw [if_pos c3] at H
  have c3b0 := eq_true c3
  have c3b1 : decide (0 ≤ s0_1) = true := decide_eq_true c3
  clear c3
  by_cases c4 : s0_1 ≤ (s0_0.size : Int)
  rotate_left
  · rw [if_neg c4] at H
    exact absurd H (by simp)
  rw [if_pos c4] at H
  have c4b0 := eq_true c4
  have c4b1 : decide (s0_1 ≤ (s0_0.size : Int)) = true := decide_eq_true c4
  clear c4
  replace H := Option.bind_eq_some_iff.mp H
  obtain ⟨⟨t184, t185, t186⟩, A50, H⟩ := H
  replace H : (some (t184, s0_0, wrap64 (s0_1 + t185), t186)) = some (r1, r2, r3, r4) := H
  have A5 := Aside0.mk A50
  clear A50
  simp only [Option.some.injEq, Prod.mk.injEq] at H
  obtain ⟨rfl, rfl, rfl, rfl⟩ := H
  obtain ⟨HGz6, hgz6⟩ := HI0.out
  have hcz6_0 := cellS90_0 HGz6
  have hcz6_1 := cellS90_1 HGz6
  have hcz6_2 := cellS90_2 HGz6
  have hfz6_0 := blk_frozen HGz6 0
  have hfz6_1 := blk_frozen HGz6 1
  have hfz6_2 := blk_frozen HGz6 2
  clear HGz6 hgz6
  go_enter Try.func58, Try.ntmps58
  go_wp2_with (first | (go_at_call 72; (with_reducible refine (cell_TakeText.calls k (s0_0.extract (s0_1 : Int).toNat s0_0.size) t184 t185 t186 _ A5.out).mono ?_); rintro e w' ⟨rfl, ⟨nd, rfl⟩⟩; (try first | exact ⟨rfl, _, World.drewN_drewN _ _ _⟩ | exact ⟨rfl, _, Eq.trans (World.drewN_drewN _ _ _) (congrArg (World.drewN _) (Nat.add_assoc _ _ _))⟩)))
  repeat (go_quiet (first | (go_at_call 72; (with_reducible refine (cell_TakeText.calls k (s0_0.extract (s0_1 : Int).toNat s0_0.size) t184 t185 t186 _ A5.out).mono ?_); rintro e w' ⟨rfl, ⟨nd, rfl⟩⟩; (try first | exact ⟨rfl, _, World.drewN_drewN _ _ _⟩ | exact ⟨rfl, _, Eq.trans (World.drewN_drewN _ _ _) (congrArg (World.drewN _) (Nat.add_assoc _ _ _))⟩))); try go_wp2_with (first | (go_at_call 72; (with_reducible refine (cell_TakeText.calls k (s0_0.extract (s0_1 : Int).toNat s0_0.size) t184 t185 t186 _ A5.out).mono ?_); rintro e w' ⟨rfl, ⟨nd, rfl⟩⟩; (try first | exact ⟨rfl, _, World.drewN_drewN _ _ _⟩ | exact ⟨rfl, _, Eq.trans (World.drewN_drewN _ _ _) (congrArg (World.drewN _) (Nat.add_assoc _ _ _))⟩))))
  go_ret
  exact ⟨by first | rfl | (simp [errW_none, errW_some] <;> rfl) | (simp [*, errW_none, errW_some] <;> rfl), by repeat (first | (with_reducible first | exact HI0.out | apply IsS90.alloc | apply IsS90.drewN | apply IsS90.drew | apply IsS90.set_0 | apply IsS90.set_1 | apply IsS90.set_2) | exact HI0.out), by repeat (first | (with_reducible first | exact HB.out | apply below_alloc | apply pw_below_drewN | apply below_drew1 | refine below_set ?_ (IsS90.ge HI0.out)) | exact HB.out), by repeat (first | (with_reducible first | exact HK.out | apply KeepBut.set_ | apply keep_drewN | apply keep_drew | apply keep_alloc) | exact HK.out)⟩

end Go.Proofs.Ytmbedgopceigaaa.P
