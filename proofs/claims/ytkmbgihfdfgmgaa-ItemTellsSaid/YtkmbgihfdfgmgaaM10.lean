-- Printed by a changed copy of the kit's printer (wip/tools/ext.py); labels and more
import Derived.Test.YtkmbgihfdfgmgaaQShort
import Derived.Test.YtkmbgihfdfgmgaaM0
import Derived.Test.YtkmbgihfdfgmgaaM9
namespace Go.Proofs.Ytkmbgihfdfgmgaa.P
open Go.RowKit Go.Proofs.YtkmbgihfdfgmgaaW.PrintWords Go.Proofs.YtkmbgihfdfgmgaaW.PrintLast Go.Proofs.YtkmbgihfdfgmgaaW.PrintMore
attribute [local go_sem] max2_int min2_int max_two min_two max_three min_three max_four min_four   -- for this text's walks alone
attribute [local go_sem high] string_leq string_geq string_gtr
set_option linter.unusedVariables false
set_option linter.unusedSimpArgs false

abbrev mkPx14_0 : Array Bool := #[false, false, false, false, false, false, false, false, false]
abbrev mkPx14_1 : Array Bool := #[true, false, false, false, false, false, false, false, false]
abbrev mkPx14_2 : Array Bool := #[true, false, false, true, false, false, false, false, false]
abbrev mkPx14_3 : Array Bool := #[true, false, false, true, true, false, false, false, false]
abbrev mkPx14_4 : Array Bool := #[true, false, false, true, true, true, false, false, false]
abbrev mkPx14_5 : Array Bool := #[true, false, false, true, true, true, true, false, false]
abbrev mkPx14_6 : Array Bool := #[true, false, false, true, true, true, true, true, false]
abbrev mkPx14_7 : Array Bool := #[true, true, false, true, true, true, true, true, false]
abbrev mkPx14_8 : Array Bool := #[true, true, true, true, true, true, true, true, false]
abbrev mkPx14_9 : Array Bool := #[true, true, true, true, true, true, true, true, true]
/-! ### ravelinref3_TakeNum: function 27 -/
mutual
def ravelinref3_TakeNum.j0 : Nat → ByteArray → Int → Bool → Option (Int × Int × Int)
  | 0, _, _, _ => none
  | k + 1, x0, x5, x36 => if x36 = true then (some (0, 0, 10)) else (ravelinref3_TakeNum.l0 k x0 x5 0 1)
def ravelinref3_TakeNum.l0 : Nat → ByteArray → Int → Int → Int → Option (Int × Int × Int)
  | 0, _, _, _, _ => none
  | k + 1, x0, x5, x6, x7 => if x7 ≤ x5 then (if 0 ≤ x7 then (if x7 < (x0.size : Int) then (ravelinref3_TakeNum.l0 k x0 x5 (wrap64 ((wrap64 (x6 * 256)) + (wrap64 (bt x0 x7)))) (wrap64 (x7 + 1))) else (none)) else (none)) else (some (x6, wrap64 (x5 + 1), 0))
end
def ravelinref3_TakeNum.f (k : Nat) (a0 : ByteArray) : Option (Int × Int × Int) := if (a0.size : Int) = 0 then (some (0, 0, 12)) else (if 0 < (a0.size : Int) then (if (wrap64 (bt a0 0)) > 8 then (some (0, 0, 10)) else (if (a0.size : Int) < (wrap64 ((wrap64 (bt a0 0)) + 1)) then (some (0, 0, 12)) else (if (wrap64 (bt a0 0)) > 0 then (if 1 < (a0.size : Int) then (if (bt a0 1) = 0 then (ravelinref3_TakeNum.j0 k a0 (wrap64 (bt a0 0)) true) else (if (wrap64 (bt a0 0)) = 8 then (ravelinref3_TakeNum.j0 k a0 (wrap64 (bt a0 0)) (decide ((bt a0 1) ≥ 128))) else (ravelinref3_TakeNum.j0 k a0 (wrap64 (bt a0 0)) false))) else (none)) else (if (wrap64 (bt a0 0)) = 8 then (if 1 < (a0.size : Int) then (ravelinref3_TakeNum.j0 k a0 (wrap64 (bt a0 0)) (decide ((bt a0 1) ≥ 128))) else (none)) else (ravelinref3_TakeNum.j0 k a0 (wrap64 (bt a0 0)) false))))) else (none))
theorem ravelinref3_TakeNum.mono_l : ∀ k, (∀ y0 y1 y2, LeO (ravelinref3_TakeNum.j0 k y0 y1 y2) (ravelinref3_TakeNum.j0 (k + 1) y0 y1 y2)) ∧ (∀ y0 y1 y2 y3, LeO (ravelinref3_TakeNum.l0 k y0 y1 y2 y3) (ravelinref3_TakeNum.l0 (k + 1) y0 y1 y2 y3))
  | 0 => ⟨fun _ _ _ r h => by simp [ravelinref3_TakeNum.j0] at h, fun _ _ _ _ r h => by simp [ravelinref3_TakeNum.l0] at h⟩
  | k + 1 => by
    obtain ⟨ih0, ih1⟩ := ravelinref3_TakeNum.mono_l k
    refine ⟨?_, ?_⟩
    all_goals
      intros
      first | unfold ravelinref3_TakeNum.j0 | unfold ravelinref3_TakeNum.l0
      repeat' first
      | (with_reducible exact ih0 _ _ _)
      | (with_reducible exact ih1 _ _ _ _)
      | (with_reducible exact LeO.refl _)
      | (with_reducible exact LeO.none _)
      | (with_reducible refine LeO.ite ?_ ?_)
      | (with_reducible refine LeO.bind ?_ (fun _ => ?_))
      | exact ih0 _ _ _
      | exact ih1 _ _ _ _
      | exact LeO.none _
      | refine LeO.ite ?_ ?_
      | refine LeO.bind ?_ (fun _ => ?_)
theorem ravelinref3_TakeNum.mono : ∀ a0 k, LeO (ravelinref3_TakeNum.f k a0) (ravelinref3_TakeNum.f (k + 1) a0) := by
  intro a0 k
  obtain ⟨ih0, ih1⟩ := ravelinref3_TakeNum.mono_l k
  unfold ravelinref3_TakeNum.f
  repeat' first
      | (with_reducible exact ih0 _ _ _)
      | (with_reducible exact ih1 _ _ _ _)
      | (with_reducible exact LeO.refl _)
      | (with_reducible exact LeO.none _)
      | (with_reducible refine LeO.ite ?_ ?_)
      | (with_reducible refine LeO.bind ?_ (fun _ => ?_))
      | exact ih0 _ _ _
      | exact ih1 _ _ _ _
      | exact LeO.none _
      | refine LeO.ite ?_ ?_
      | refine LeO.bind ?_ (fun _ => ?_)
set_option maxHeartbeats 8000000 in
set_option maxRecDepth 100000 in
theorem ravelinref3_TakeNum.calls (k : Nat) (a0 : ByteArray) (r1 : Int) (r2 : Int) (r3 : Int) (w : World) (h : ravelinref3_TakeNum.f k a0 = some (r1, r2, r3)) :
    Calls Try.prog 27 #[.string a0] w fun e w' => e = .returned (.tuple #[.int .i64 r1, .int .i64 r2, .int .i64 r3]) ∧ Drawn0 w w' := by
  have H : (if (a0.size : Int) = 0 then (some (0, 0, 12)) else (if 0 < (a0.size : Int) then (if (wrap64 (bt a0 0)) > 8 then (some (0, 0, 10)) else (if (a0.size : Int) < (wrap64 ((wrap64 (bt a0 0)) + 1)) then (some (0, 0, 12)) else (if (wrap64 (bt a0 0)) > 0 then (if 1 < (a0.size : Int) then (if (bt a0 1) = 0 then (ravelinref3_TakeNum.j0 k a0 (wrap64 (bt a0 0)) true) else (if (wrap64 (bt a0 0)) = 8 then (ravelinref3_TakeNum.j0 k a0 (wrap64 (bt a0 0)) (decide ((bt a0 1) ≥ 128))) else (ravelinref3_TakeNum.j0 k a0 (wrap64 (bt a0 0)) false))) else (none)) else (if (wrap64 (bt a0 0)) = 8 then (if 1 < (a0.size : Int) then (ravelinref3_TakeNum.j0 k a0 (wrap64 (bt a0 0)) (decide ((bt a0 1) ≥ 128))) else (none)) else (ravelinref3_TakeNum.j0 k a0 (wrap64 (bt a0 0)) false))))) else (none))) = some (r1, r2, r3) := h
  clear h
  by_cases c2 : (a0.size : Int) = 0
  · rw [if_pos c2] at H
    have c2b0 : ((a0.size : Int) == 0) = true := beq_iff_eq.mpr c2
    have c2b1 : ((a0.size : Int) != 0) = false := bne_eq_false_iff_eq.mpr c2
    clear c2
    simp only [Option.some.injEq, Prod.mk.injEq] at H
    obtain ⟨rfl, rfl, rfl⟩ := H
    go_enter Try.func27, Try.ntmps27
    go_wp2
    go_ret3
    exact ⟨by first | rfl | (simp; done) | (simp [*]; done), by repeat (first | exact Drawn0.refl _ | apply Drawn0.step)⟩
  rw [if_neg c2] at H
  have c2b0 : ((a0.size : Int) == 0) = false := beq_eq_false_iff_ne.mpr c2
  have c2b1 : ((a0.size : Int) != 0) = true := bne_iff_ne.mpr c2
  by_cases c3 : 0 < (a0.size : Int)
  rotate_left
  · rw [if_neg c3] at H
    exact absurd H (by simp)
  rw [if_pos c3] at H
  have c3b0 : decide (0 < (a0.size : Int)) = true := decide_eq_true c3
  have c3b1 : decide (0 < a0.size) = true := decide_eq_true (by omega)
  clear c3
  by_cases c5 : (wrap64 (bt a0 0)) > 8
  · rw [if_pos c5] at H
    have c5b0 : decide (8 < (wrap64 (bt a0 0))) = true := decide_eq_true c5
    clear c5
    simp only [Option.some.injEq, Prod.mk.injEq] at H
    obtain ⟨rfl, rfl, rfl⟩ := H
    have p4 : 0 ≤ (0 : Int) := (by omega)
    have q4 : 0 < a0.size := (by have : (0 : Int) < (a0.size : Int) := of_decide_eq_true (by assumption); omega)
    have hx4 : ∀ h : 0 < a0.size, ((a0[0]'h).toNat : Int) = bt a0 0 := bt_at a0 0
    clear p4
    have qi4 : (0 < (a0.size : Int)) = True := eq_true (of_decide_eq_true (by assumption))
    replace q4 := eq_true q4
    go_enter Try.func27, Try.ntmps27
    go_wp2
    go_ret3
    exact ⟨by first | rfl | (simp; done) | (simp [*]; done), by repeat (first | exact Drawn0.refl _ | apply Drawn0.step)⟩
  rw [if_neg c5] at H
  have c5b0 : decide (8 < (wrap64 (bt a0 0))) = false := decide_eq_false c5
  clear c5
  by_cases c6 : (a0.size : Int) < (wrap64 ((wrap64 (bt a0 0)) + 1))
  · rw [if_pos c6] at H
    have c6b0 : decide ((a0.size : Int) < (wrap64 ((wrap64 (bt a0 0)) + 1))) = true := decide_eq_true c6
    clear c6
    simp only [Option.some.injEq, Prod.mk.injEq] at H
    obtain ⟨rfl, rfl, rfl⟩ := H
    have p4 : 0 ≤ (0 : Int) := (by omega)
    have q4 : 0 < a0.size := (by have : (0 : Int) < (a0.size : Int) := of_decide_eq_true (by assumption); omega)
    have hx4 : ∀ h : 0 < a0.size, ((a0[0]'h).toNat : Int) = bt a0 0 := bt_at a0 0
    clear p4
    have qi4 : (0 < (a0.size : Int)) = True := eq_true (of_decide_eq_true (by assumption))
    replace q4 := eq_true q4
    go_enter Try.func27, Try.ntmps27
    go_wp2
    go_ret3
    exact ⟨by first | rfl | (simp; done) | (simp [*]; done), by repeat (first | exact Drawn0.refl _ | apply Drawn0.step)⟩
  rw [if_neg c6] at H
  have c6b0 : decide ((a0.size : Int) < (wrap64 ((wrap64 (bt a0 0)) + 1))) = false := decide_eq_false c6
  clear c6
  have HC7 := Aside0.mk H
  clear H
  have p4 : 0 ≤ (0 : Int) := (by omega)
  have q4 : 0 < a0.size := (by have : (0 : Int) < (a0.size : Int) := of_decide_eq_true (by assumption); omega)
  have hx4 : ∀ h : 0 < a0.size, ((a0[0]'h).toNat : Int) = bt a0 0 := bt_at a0 0
  clear p4
  have qi4 : (0 < (a0.size : Int)) = True := eq_true (of_decide_eq_true (by assumption))
  replace q4 := eq_true q4
  go_enter Try.func27, Try.ntmps27
  go_upto_region 8 with (fail)
  go_cut [36] (fun v36 wc => ∃ (kq : Nat) (x36_6 : Bool), v36 = .bool x36_6 ∧ Aside0 (ravelinref3_TakeNum.j0 kq a0 (wrap64 (bt a0 0)) x36_6 = some (r1, r2, r3)) ∧ Aside0 (kq ≤ k) ∧ Drawn0 w wc)
  case first =>
    have H := HC7.out
    clear HC7
    by_cases c8 : (wrap64 (bt a0 0)) > 0
    rotate_left
    · rw [if_neg c8] at H
      have c8b0 : decide (0 < (wrap64 (bt a0 0))) = false := decide_eq_false c8
      clear c8
      (first | rw [c8b0] | (simp only [i64_w, i32_w]; rw [c8b0]) | skip)
      by_cases c14 : (wrap64 (bt a0 0)) = 8
      rotate_left
      · rw [if_neg c14] at H
        have c14b0 : ((wrap64 (bt a0 0)) == 8) = false := beq_eq_false_iff_ne.mpr c14
        have c14b1 : ((wrap64 (bt a0 0)) != 8) = true := bne_iff_ne.mpr c14
        have H' := Aside0.mk H
        clear H
        go_wp2
        go_meet
        case rel => exact ⟨_, (false), (by first | rfl | (simp; done) | (simp [*]; done)), H', ⟨by first | omega | exact Nat.le_refl _⟩, by repeat (first | exact Drawn0.refl _ | apply Drawn0.step)⟩
      rw [if_pos c14] at H
      have c14b0 : ((wrap64 (bt a0 0)) == 8) = true := beq_iff_eq.mpr c14
      have c14b1 : ((wrap64 (bt a0 0)) != 8) = false := bne_eq_false_iff_eq.mpr c14
      clear c14
      by_cases c15 : 1 < (a0.size : Int)
      rotate_left
      · rw [if_neg c15] at H
        exact absurd H (by simp)
      rw [if_pos c15] at H
      have c15b0 : decide (1 < (a0.size : Int)) = true := decide_eq_true c15
      have c15b1 : decide (1 < a0.size) = true := decide_eq_true (by omega)
      clear c15
      have H' := Aside0.mk H
      clear H
      have p16 : 0 ≤ (1 : Int) := (by omega)
      have q16 : 1 < a0.size := (by have : (1 : Int) < (a0.size : Int) := of_decide_eq_true (by assumption); omega)
      have hx16 : ∀ h : 1 < a0.size, ((a0[1]'h).toNat : Int) = bt a0 1 := bt_at a0 1
      clear p16
      have qi16 : (1 < (a0.size : Int)) = True := eq_true (of_decide_eq_true (by assumption))
      replace q16 := eq_true q16
      go_wp2
      go_meet
      case rel => exact ⟨_, (decide ((bt a0 1) ≥ 128)), (by first | rfl | (simp; done) | (simp [*]; done)), H', ⟨by first | omega | exact Nat.le_refl _⟩, by repeat (first | exact Drawn0.refl _ | apply Drawn0.step)⟩
    rw [if_pos c8] at H
    have c8b0 : decide (0 < (wrap64 (bt a0 0))) = true := decide_eq_true c8
    clear c8
    (first | rw [c8b0] | (simp only [i64_w, i32_w]; rw [c8b0]) | skip)
    by_cases c9 : 1 < (a0.size : Int)
    rotate_left
    · rw [if_neg c9] at H
      exact absurd H (by simp)
    rw [if_pos c9] at H
    have c9b0 : decide (1 < (a0.size : Int)) = true := decide_eq_true c9
    have c9b1 : decide (1 < a0.size) = true := decide_eq_true (by omega)
    clear c9
    by_cases c11 : (bt a0 1) = 0
    · rw [if_pos c11] at H
      have c11b0 : ((bt a0 1) == 0) = true := beq_iff_eq.mpr c11
      have c11b1 : ((bt a0 1) != 0) = false := bne_eq_false_iff_eq.mpr c11
      clear c11
      have H' := Aside0.mk H
      clear H
      have p10 : 0 ≤ (1 : Int) := (by omega)
      have q10 : 1 < a0.size := (by have : (1 : Int) < (a0.size : Int) := of_decide_eq_true (by assumption); omega)
      have hx10 : ∀ h : 1 < a0.size, ((a0[1]'h).toNat : Int) = bt a0 1 := bt_at a0 1
      clear p10
      have qi10 : (1 < (a0.size : Int)) = True := eq_true (of_decide_eq_true (by assumption))
      replace q10 := eq_true q10
      go_wp2
      go_meet
      case rel => exact ⟨_, (true), (by first | rfl | (simp; done) | (simp [*]; done)), H', ⟨by first | omega | exact Nat.le_refl _⟩, by repeat (first | exact Drawn0.refl _ | apply Drawn0.step)⟩
    rw [if_neg c11] at H
    have c11b0 : ((bt a0 1) == 0) = false := beq_eq_false_iff_ne.mpr c11
    have c11b1 : ((bt a0 1) != 0) = true := bne_iff_ne.mpr c11
    by_cases c12 : (wrap64 (bt a0 0)) = 8
    rotate_left
    · rw [if_neg c12] at H
      have c12b0 : ((wrap64 (bt a0 0)) == 8) = false := beq_eq_false_iff_ne.mpr c12
      have c12b1 : ((wrap64 (bt a0 0)) != 8) = true := bne_iff_ne.mpr c12
      have H' := Aside0.mk H
      clear H
      have p10 : 0 ≤ (1 : Int) := (by omega)
      have q10 : 1 < a0.size := (by have : (1 : Int) < (a0.size : Int) := of_decide_eq_true (by assumption); omega)
      have hx10 : ∀ h : 1 < a0.size, ((a0[1]'h).toNat : Int) = bt a0 1 := bt_at a0 1
      clear p10
      have qi10 : (1 < (a0.size : Int)) = True := eq_true (of_decide_eq_true (by assumption))
      replace q10 := eq_true q10
      go_wp2
      go_meet
      case rel => exact ⟨_, (false), (by first | rfl | (simp; done) | (simp [*]; done)), H', ⟨by first | omega | exact Nat.le_refl _⟩, by repeat (first | exact Drawn0.refl _ | apply Drawn0.step)⟩
    rw [if_pos c12] at H
    have c12b0 : ((wrap64 (bt a0 0)) == 8) = true := beq_iff_eq.mpr c12
    have c12b1 : ((wrap64 (bt a0 0)) != 8) = false := bne_eq_false_iff_eq.mpr c12
    clear c12
    have H' := Aside0.mk H
    clear H
    have p10 : 0 ≤ (1 : Int) := (by omega)
    have q10 : 1 < a0.size := (by have : (1 : Int) < (a0.size : Int) := of_decide_eq_true (by assumption); omega)
    have hx10 : ∀ h : 1 < a0.size, ((a0[1]'h).toNat : Int) = bt a0 1 := bt_at a0 1
    clear p10
    have qi10 : (1 < (a0.size : Int)) = True := eq_true (of_decide_eq_true (by assumption))
    replace q10 := eq_true q10
    have p13 : 0 ≤ (1 : Int) := (by omega)
    have q13 : 1 < a0.size := (by have : (1 : Int) < (a0.size : Int) := of_decide_eq_true (by assumption); omega)
    have hx13 : ∀ h : 1 < a0.size, ((a0[1]'h).toNat : Int) = bt a0 1 := bt_at a0 1
    clear p13
    have qi13 : (1 < (a0.size : Int)) = True := eq_true (of_decide_eq_true (by assumption))
    replace q13 := eq_true q13
    go_wp2
    go_meet
    case rel => exact ⟨_, (decide ((bt a0 1) ≥ 128)), (by first | rfl | (simp; done) | (simp [*]; done)), H', ⟨by first | omega | exact Nat.le_refl _⟩, by repeat (first | exact Drawn0.refl _ | apply Drawn0.step)⟩
  clear HC7
  try clear c1
  try clear p1
  try clear q1
  try clear hx1
  try clear qi1
  try clear c2
  try clear c2b0
  try clear c2b1
  try clear p2
  try clear c3
  try clear c3b0
  try clear c3b1
  try clear p4
  try clear q4
  try clear hx4
  try clear qi4
  try clear c5
  try clear c5b0
  try clear c6
  try clear c6b0
  try clear p6
  try clear c8
  try clear c8b0
  try clear c9
  try clear c9b0
  try clear c9b1
  try clear p10
  try clear q10
  try clear hx10
  try clear qi10
  try clear c11
  try clear c11b0
  try clear c11b1
  try clear c12
  try clear c12b0
  try clear c12b1
  try clear p13
  try clear q13
  try clear hx13
  try clear qi13
  try clear c14
  try clear c14b0
  try clear c14b1
  try clear c15
  try clear c15b0
  try clear c15b1
  try clear p16
  try clear q16
  try clear hx16
  try clear qi16
  try clear p10
  try clear p13
  try clear p16
  try clear p4
  try clear q10
  try clear q13
  try clear q16
  try clear q4
  obtain ⟨kq, x36_6, rfl, HA, HJ6, ⟨mc6, rfl⟩⟩ := hcut
  cases kq with
  | zero => exact absurd HA.out (by simp [ravelinref3_TakeNum.j0])
  | succ kj6 => ?_
  have H := HA.out
  clear HA
  simp only [ravelinref3_TakeNum.j0] at H
  by_cases c17 : x36_6 = true
  · subst c17
    have H1 : (some (0, 0, 10)) = some (r1, r2, r3) := by rw [if_pos rfl] at H; exact H
    clear H
    have H := H1
    clear H1
    simp only [Option.some.injEq, Prod.mk.injEq] at H
    obtain ⟨rfl, rfl, rfl⟩ := H
    go_wp2
    go_ret3
    exact ⟨by first | rfl | (simp; done) | (simp [*]; done), by repeat (first | exact Drawn0.refl _ | apply Drawn0.step)⟩
  replace c17 := Bool.eq_false_iff.mpr c17
  subst c17
  have H1 : (ravelinref3_TakeNum.l0 kj6 a0 (wrap64 (bt a0 0)) 0 1) = some (r1, r2, r3) := by rw [if_neg (show ¬ (false = true) by decide)] at H; exact H
  clear H
  have H := H1
  clear H1
  have H' := Aside0.mk H
  clear H
  go_wp2
  go_loopg [6, 7] kj6 (fun kq v6 v7 w' => ∃ (x6_2 : Int) (x7_2 : Int), v6 = .int .i64 x6_2 ∧ v7 = .int .i64 x7_2 ∧ Aside0 (ravelinref3_TakeNum.l0 kq a0 (wrap64 (bt a0 0)) x6_2 x7_2 = some (r1, r2, r3)) ∧ Aside0 (kq ≤ kj6) ∧ Drawn0 w w')
  case atStart => exact ⟨(0), (1), (by first | rfl | (simp; done) | (simp [*]; done)), (by first | rfl | (simp; done) | (simp [*]; done)), H', ⟨Nat.le_refl _⟩, by repeat (first | exact Drawn0.refl _ | apply Drawn0.step)⟩
  clear H'
  try clear c1
  try clear p1
  try clear q1
  try clear hx1
  try clear qi1
  try clear c2
  try clear c2b0
  try clear c2b1
  try clear p2
  try clear c3
  try clear c3b0
  try clear c3b1
  try clear p4
  try clear q4
  try clear hx4
  try clear qi4
  try clear c5
  try clear c5b0
  try clear c6
  try clear c6b0
  try clear p6
  try clear c8
  try clear c8b0
  try clear c9
  try clear c9b0
  try clear c9b1
  try clear p10
  try clear q10
  try clear hx10
  try clear qi10
  try clear c11
  try clear c11b0
  try clear c11b1
  try clear c12
  try clear c12b0
  try clear c12b1
  try clear p13
  try clear q13
  try clear hx13
  try clear qi13
  try clear c14
  try clear c14b0
  try clear c14b1
  try clear c15
  try clear c15b0
  try clear c15b1
  try clear p16
  try clear q16
  try clear hx16
  try clear qi16
  try clear c17
  try clear p1
  try clear p10
  try clear p13
  try clear p16
  try clear p2
  try clear p4
  try clear p6
  try clear q1
  try clear q10
  try clear q13
  try clear q16
  try clear q4
  obtain ⟨x6_2, x7_2, rfl, rfl, HA, HK2, ⟨m2, rfl⟩⟩ := hrel
  cases gk with
  | zero => exact absurd HA.out (by simp [ravelinref3_TakeNum.l0])
  | succ k2 => ?_
  have H := HA.out
  clear HA
  simp only [ravelinref3_TakeNum.l0] at H
  by_cases c18 : x7_2 ≤ (wrap64 (bt a0 0))
  rotate_left
  · rw [if_neg c18] at H
    have c18b0 : decide (x7_2 ≤ (wrap64 (bt a0 0))) = false := decide_eq_false c18
    clear c18
    simp only [Option.some.injEq, Prod.mk.injEq] at H
    obtain ⟨rfl, rfl, rfl⟩ := H
    go_wp2
    go_ret3
    exact ⟨by first | rfl | (simp; done) | (simp [*]; done), by repeat (first | exact Drawn0.refl _ | apply Drawn0.step)⟩
  rw [if_pos c18] at H
  have c18b0 : decide (x7_2 ≤ (wrap64 (bt a0 0))) = true := decide_eq_true c18
  clear c18
  by_cases c19 : 0 ≤ x7_2
  rotate_left
  · rw [if_neg c19] at H
    exact absurd H (by simp)
  rw [if_pos c19] at H
  have c19b0 : decide (0 ≤ x7_2) = true := decide_eq_true c19
  clear c19
  by_cases c20 : x7_2 < (a0.size : Int)
  rotate_left
  · rw [if_neg c20] at H
    exact absurd H (by simp)
  rw [if_pos c20] at H
  have c20b0 : decide (x7_2 < (a0.size : Int)) = true := decide_eq_true c20
  clear c20
  have H' := Aside0.mk H
  clear H
  have p21 : 0 ≤ (x7_2 : Int) := of_decide_eq_true (by assumption)
  have q21 : x7_2 < (a0.size : Int) := of_decide_eq_true (by assumption)
  have hx21 := bt_at a0 x7_2
  replace p21 := eq_true p21
  replace q21 := eq_true q21
  go_wp2
  go_roundg k2
  case measure => have := HJ6.out; have := HK2.out; omega
  case rel => exact ⟨(wrap64 ((wrap64 (x6_2 * 256)) + (wrap64 (bt a0 x7_2)))), (wrap64 (x7_2 + 1)), (by first | rfl | (simp; done) | (simp [*]; done)), (by first | rfl | (simp; done) | (simp [*]; done)), H', ⟨by have := HJ6.out; have := HK2.out; omega⟩, by repeat (first | exact Drawn0.refl _ | apply Drawn0.step)⟩

/-! ### ravelinref3_Open: function 26 -/
def ravelinref3_Open.j0 : Nat → ByteArray → Int → Int → Bool → Option (ByteArray × Int × Int)
  | 0, _, _, _, _ => none
  | k + 1, x0, x5, x6, x32 => if x32 = true then (some ((⟨#[]⟩ : ByteArray), 0, 12)) else (if 0 ≤ (wrap64 (x6 + 4)) then (if (wrap64 (x6 + 4)) ≤ (wrap64 ((wrap64 (x6 + 4)) + x5)) then (if (wrap64 ((wrap64 (x6 + 4)) + x5)) ≤ (x0.size : Int) then ((ravelinref3_Sum.f k (x0.extract ((wrap64 (x6 + 4)) : Int).toNat ((wrap64 ((wrap64 (x6 + 4)) + x5)) : Int).toNat)).bind fun t307 => ((ravelinref3_four.f t307).bind fun t308 => (if 0 ≤ x6 then (if x6 ≤ (wrap64 (x6 + 4)) then (if (wrap64 (x6 + 4)) ≤ (x0.size : Int) then (if t308.toList = (x0.extract (x6 : Int).toNat ((wrap64 (x6 + 4)) : Int).toNat).toList then (some (x0.extract ((wrap64 (x6 + 4)) : Int).toNat ((wrap64 ((wrap64 (x6 + 4)) + x5)) : Int).toNat, wrap64 ((wrap64 (x6 + 4)) + x5), 0)) else (some ((⟨#[]⟩ : ByteArray), 0, 13))) else (none)) else (none)) else (none)))) else (none)) else (none)) else (none))
def ravelinref3_Open.f (k : Nat) (a0 : ByteArray) : Option (ByteArray × Int × Int) := (ravelinref3_TakeNum.f k a0).bind fun bt304 => (if bt304.2.2 = 12 then (some ((⟨#[]⟩ : ByteArray), 0, 12)) else (if bt304.2.2 = 0 then (if (wrap64 ((a0.size : Int) - bt304.2.1)) < 4 then (ravelinref3_Open.j0 k a0 bt304.1 bt304.2.1 true) else (ravelinref3_Open.j0 k a0 bt304.1 bt304.2.1 (decide (bt304.1 > (wrap64 ((wrap64 ((a0.size : Int) - bt304.2.1)) - 4)))))) else (some ((⟨#[]⟩ : ByteArray), 0, 13))))
theorem ravelinref3_Open.mono_l : ∀ k, (∀ y0 y1 y2 y3, LeO (ravelinref3_Open.j0 k y0 y1 y2 y3) (ravelinref3_Open.j0 (k + 1) y0 y1 y2 y3))
  | 0 => fun _ _ _ _ r h => by simp [ravelinref3_Open.j0] at h
  | k + 1 => by
    have ih0 := ravelinref3_Open.mono_l k
    · intro y0 y1 y2 y3
      unfold ravelinref3_Open.j0
      repeat' first
      | (with_reducible exact ih0 _ _ _ _)
      | (with_reducible exact ravelinref3_Sum.mono _ _)
      | (with_reducible exact ravelinref3_TakeNum.mono _ _)
      | (with_reducible exact LeO.refl _)
      | (with_reducible exact LeO.none _)
      | (with_reducible refine LeO.ite ?_ ?_)
      | (with_reducible refine LeO.bind ?_ (fun _ => ?_))
      | exact ih0 _ _ _ _
      | exact ravelinref3_Sum.mono _ _
      | exact ravelinref3_TakeNum.mono _ _
      | exact LeO.none _
      | refine LeO.ite ?_ ?_
      | refine LeO.bind ?_ (fun _ => ?_)
theorem ravelinref3_Open.mono : ∀ a0 k, LeO (ravelinref3_Open.f k a0) (ravelinref3_Open.f (k + 1) a0) := by
  intro a0 k
  have ih0 := ravelinref3_Open.mono_l k
  unfold ravelinref3_Open.f
  repeat' first
      | (with_reducible exact ih0 _ _ _ _)
      | (with_reducible exact ravelinref3_Sum.mono _ _)
      | (with_reducible exact ravelinref3_TakeNum.mono _ _)
      | (with_reducible exact LeO.refl _)
      | (with_reducible exact LeO.none _)
      | (with_reducible refine LeO.ite ?_ ?_)
      | (with_reducible refine LeO.bind ?_ (fun _ => ?_))
      | exact ih0 _ _ _ _
      | exact ravelinref3_Sum.mono _ _
      | exact ravelinref3_TakeNum.mono _ _
      | exact LeO.none _
      | refine LeO.ite ?_ ?_
      | refine LeO.bind ?_ (fun _ => ?_)
def ravelinref3_Open.T9 : Bool × List (List Nat × List Nat) := (true, [([], []), ([0], [0]), ([1, 1], [1]), ([], []), ([], []), ([], []), ([5], [5]), ([3, 4, 6], [3, 4, 6]), ([2, 7], [2, 7])])
def ravelinref3_Open.B9 : List Nat := [0, 1, 3, 0, 0, 0, 32, 120, 255]
theorem ravelinref3_Open.tab9 : rtab .any (opsOf Try.f26 9) = ravelinref3_Open.T9 := by kernel_rfl
theorem ravelinref3_Open.bits9 : waitsOk ravelinref3_Open.T9.2 ravelinref3_Open.B9 = true := by kernel_rfl
set_option maxHeartbeats 8000000 in
set_option maxRecDepth 100000 in
theorem ravelinref3_Open.calls (k : Nat) (a0 : ByteArray) (r1 : ByteArray) (r2 : Int) (r3 : Int) (w : World) (h : ravelinref3_Open.f k a0 = some (r1, r2, r3)) :
    Calls Try.prog 26 #[.string a0] w fun e w' => e = .returned (.tuple #[.string r1, .int .i64 r2, .int .i64 r3]) ∧ Below w.heap.size w w' := by
  have HB := Aside0.mk (Below.refl w.heap.size w)
  have H : ((ravelinref3_TakeNum.f k a0).bind fun bt304 => (if bt304.2.2 = 12 then (some ((⟨#[]⟩ : ByteArray), 0, 12)) else (if bt304.2.2 = 0 then (if (wrap64 ((a0.size : Int) - bt304.2.1)) < 4 then (ravelinref3_Open.j0 k a0 bt304.1 bt304.2.1 true) else (ravelinref3_Open.j0 k a0 bt304.1 bt304.2.1 (decide (bt304.1 > (wrap64 ((wrap64 ((a0.size : Int) - bt304.2.1)) - 4)))))) else (some ((⟨#[]⟩ : ByteArray), 0, 13))))) = some (r1, r2, r3) := h
  clear h
  replace H := Option.bind_eq_some_iff.mp H
  obtain ⟨⟨t304, t305, t306⟩, A20, H⟩ := H
  try dsimp only at H
  have A2 := Aside0.mk A20
  clear A20
  by_cases c3 : t306 = 12
  · rw [if_pos c3] at H
    have c3b0 : (t306 == 12) = true := beq_iff_eq.mpr c3
    have c3b1 : (t306 != 12) = false := bne_eq_false_iff_eq.mpr c3
    clear c3
    simp only [Option.some.injEq, Prod.mk.injEq] at H
    obtain ⟨rfl, rfl, rfl⟩ := H
    go_enter Try.func26, Try.ntmps26
    go_wp2_with (first | ((with_reducible refine gate_callee (f := 27) rfl ?_); refine goesL_ (some 11) rfl rfl Try.func27 (by kernel_rfl) rfl #[.string a0] rfl (by (try simp only [maps_]); first | done | rfl) ?_; (with_reducible refine (ravelinref3_TakeNum.calls k a0 t304 t305 t306 _ A2.out).mono ?_); rintro e w' ⟨rfl, ⟨nd, rfl⟩⟩; refine ⟨_, rfl, ?_⟩))
    go_ret3
    exact ⟨by first | rfl | (simp [*, errW_none, errW_some] <;> rfl), gw_ HB⟩
  rw [if_neg c3] at H
  have c3b0 : (t306 == 12) = false := beq_eq_false_iff_ne.mpr c3
  have c3b1 : (t306 != 12) = true := bne_iff_ne.mpr c3
  by_cases c4 : t306 = 0
  rotate_left
  · rw [if_neg c4] at H
    have c4b0 : (t306 == 0) = false := beq_eq_false_iff_ne.mpr c4
    have c4b1 : (t306 != 0) = true := bne_iff_ne.mpr c4
    simp only [Option.some.injEq, Prod.mk.injEq] at H
    obtain ⟨rfl, rfl, rfl⟩ := H
    go_enter Try.func26, Try.ntmps26
    go_wp2_with (first | ((with_reducible refine gate_callee (f := 27) rfl ?_); refine goesL_ (some 11) rfl rfl Try.func27 (by kernel_rfl) rfl #[.string a0] rfl (by (try simp only [maps_]); first | done | rfl) ?_; (with_reducible refine (ravelinref3_TakeNum.calls k a0 t304 t305 t306 _ A2.out).mono ?_); rintro e w' ⟨rfl, ⟨nd, rfl⟩⟩; refine ⟨_, rfl, ?_⟩))
    go_ret3
    exact ⟨by first | rfl | (simp [*, errW_none, errW_some] <;> rfl), gw_ HB⟩
  rw [if_pos c4] at H
  have c4b0 : (t306 == 0) = true := beq_iff_eq.mpr c4
  have c4b1 : (t306 != 0) = false := bne_eq_false_iff_eq.mpr c4
  clear c4
  have HC5 := Aside0.mk H
  clear H
  go_enter Try.func26, Try.ntmps26
  go_upto_region 6 with (first | ((with_reducible refine gate_callee (f := 27) rfl ?_); refine goesL_ (some 11) rfl rfl Try.func27 (by kernel_rfl) rfl #[.string a0] rfl (by (try simp only [maps_]); first | done | rfl) ?_; (with_reducible refine (ravelinref3_TakeNum.calls k a0 t304 t305 t306 _ A2.out).mono ?_); rintro e w' ⟨rfl, ⟨nd, rfl⟩⟩; refine ⟨_, rfl, ?_⟩))
  (try simp only [Act.put, lists_])
  go_cut [32] (fun v32 wc => ∃ (kq : Nat) (x32_4 : Bool), v32 = .bool x32_4 ∧ Aside0 (ravelinref3_Open.j0 kq a0 t304 t305 x32_4 = some (r1, r2, r3)) ∧ Aside0 (kq ≤ k) ∧ Aside0 (Below w.heap.size w wc))
  case first =>
    have H := HC5.out
    clear HC5
    by_cases c6 : (wrap64 ((a0.size : Int) - t305)) < 4
    · rw [if_pos c6] at H
      have c6b0 : decide ((wrap64 ((a0.size : Int) - t305)) < 4) = true := decide_eq_true c6
      clear c6
      (first | rw [c6b0] | (simp only [i64_w, i32_w]; rw [c6b0]) | skip)
      have H' := Aside0.mk H
      clear H
      go_wp2
      go_meet
      case rel => exact ⟨_, (true), (by first | rfl | (simp; done) | (simp [*]; done)), H', ⟨by first | omega | exact Nat.le_refl _⟩, ⟨gw_ HB⟩⟩
    rw [if_neg c6] at H
    have c6b0 : decide ((wrap64 ((a0.size : Int) - t305)) < 4) = false := decide_eq_false c6
    clear c6
    (first | rw [c6b0] | (simp only [i64_w, i32_w]; rw [c6b0]) | skip)
    have H' := Aside0.mk H
    clear H
    go_wp2
    go_meet
    case rel => exact ⟨_, (decide (t304 > (wrap64 ((wrap64 ((a0.size : Int) - t305)) - 4)))), (by first | rfl | (simp; done) | (simp [*]; done)), H', ⟨by first | omega | exact Nat.le_refl _⟩, ⟨gw_ HB⟩⟩
  clear HC5
  try clear c2
  try clear p2
  try clear c3
  try clear c3b0
  try clear c3b1
  try clear c4
  try clear c4b0
  try clear c4b1
  try clear c6
  try clear c6b0
  try clear p6
  obtain ⟨kq, x32_4, rfl, HA, HJ4, HB⟩ := hcut
  cases kq with
  | zero => exact absurd HA.out (by simp [ravelinref3_Open.j0])
  | succ kj4 => ?_
  have H := HA.out
  clear HA
  simp only [ravelinref3_Open.j0] at H
  by_cases c7 : x32_4 = true
  · subst c7
    have H1 : (some ((⟨#[]⟩ : ByteArray), 0, 12)) = some (r1, r2, r3) := by rw [if_pos rfl] at H; exact H
    clear H
    have H := H1
    clear H1
    simp only [Option.some.injEq, Prod.mk.injEq] at H
    obtain ⟨rfl, rfl, rfl⟩ := H
    go_wp2
    go_ret3
    exact ⟨by first | rfl | (simp [*, errW_none, errW_some] <;> rfl), gw_ HB⟩
  replace c7 := Bool.eq_false_iff.mpr c7
  subst c7
  have H1 : (if 0 ≤ (wrap64 (t305 + 4)) then (if (wrap64 (t305 + 4)) ≤ (wrap64 ((wrap64 (t305 + 4)) + t304)) then (if (wrap64 ((wrap64 (t305 + 4)) + t304)) ≤ (a0.size : Int) then ((ravelinref3_Sum.f kj4 (a0.extract ((wrap64 (t305 + 4)) : Int).toNat ((wrap64 ((wrap64 (t305 + 4)) + t304)) : Int).toNat)).bind fun t307 => ((ravelinref3_four.f t307).bind fun t308 => (if 0 ≤ t305 then (if t305 ≤ (wrap64 (t305 + 4)) then (if (wrap64 (t305 + 4)) ≤ (a0.size : Int) then (if t308.toList = (a0.extract (t305 : Int).toNat ((wrap64 (t305 + 4)) : Int).toNat).toList then (some (a0.extract ((wrap64 (t305 + 4)) : Int).toNat ((wrap64 ((wrap64 (t305 + 4)) + t304)) : Int).toNat, wrap64 ((wrap64 (t305 + 4)) + t304), 0)) else (some ((⟨#[]⟩ : ByteArray), 0, 13))) else (none)) else (none)) else (none)))) else (none)) else (none)) else (none)) = some (r1, r2, r3) := by rw [if_neg (show ¬ (false = true) by decide)] at H; exact H
  clear H
  have H := H1
  clear H1
  obtain ⟨ji8, hji8⟩ : ∃ j_ : Int, (wrap64 (t305 + 4)) = j_ := ⟨_, rfl⟩
  replace H : (if 0 ≤ (ji8) then (if (ji8) ≤ (wrap64 ((ji8) + t304)) then (if (wrap64 ((ji8) + t304)) ≤ (a0.size : Int) then ((ravelinref3_Sum.f kj4 (a0.extract ((ji8) : Int).toNat ((wrap64 ((ji8) + t304)) : Int).toNat)).bind fun t307 => ((ravelinref3_four.f t307).bind fun t308 => (if 0 ≤ t305 then (if t305 ≤ (ji8) then (if (ji8) ≤ (a0.size : Int) then (if t308.toList = (a0.extract (t305 : Int).toNat ((ji8) : Int).toNat).toList then (some (a0.extract ((ji8) : Int).toNat ((wrap64 ((ji8) + t304)) : Int).toNat, wrap64 ((ji8) + t304), 0)) else (some ((⟨#[]⟩ : ByteArray), 0, 13))) else (none)) else (none)) else (none)))) else (none)) else (none)) else (none)) = some (r1, r2, r3) := by first | (rw [hji8] at H; exact H) | (simp only [hji8] at H ⊢; exact H)
  have hji8w : (IntKind.i64.wrap (t305 + 4)) = ji8 := (i64_w _).trans hji8
  by_cases c9 : 0 ≤ (ji8)
  rotate_left
  · rw [if_neg c9] at H
    exact absurd H (by simp)
  rw [if_pos c9] at H
  have c9b0 := eq_true c9
  have c9b1 : decide (0 ≤ (ji8)) = true := decide_eq_true c9
  clear c9
  by_cases c10 : (ji8) ≤ (wrap64 ((ji8) + t304))
  rotate_left
  · rw [if_neg c10] at H
    exact absurd H (by simp)
  rw [if_pos c10] at H
  have c10b0 := eq_true c10
  have c10b1 : decide ((ji8) ≤ (wrap64 ((ji8) + t304))) = true := decide_eq_true c10
  by_cases c11 : (wrap64 ((ji8) + t304)) ≤ (a0.size : Int)
  rotate_left
  · rw [if_neg c11] at H
    exact absurd H (by simp)
  rw [if_pos c11] at H
  have c11b0 := eq_true c11
  have c11b1 : decide ((wrap64 ((ji8) + t304)) ≤ (a0.size : Int)) = true := decide_eq_true c11
  replace H := Option.bind_eq_some_iff.mp H
  obtain ⟨t307, A120, H⟩ := H
  try dsimp only at H
  have A12 := Aside0.mk A120
  clear A120
  replace H := Option.bind_eq_some_iff.mp H
  obtain ⟨t308, A130, H⟩ := H
  try dsimp only at H
  have A13 := Aside0.mk A130
  clear A130
  by_cases c14 : 0 ≤ t305
  rotate_left
  · rw [if_neg c14] at H
    exact absurd H (by simp)
  rw [if_pos c14] at H
  have c14b0 := eq_true c14
  have c14b1 : decide (0 ≤ t305) = true := decide_eq_true c14
  clear c14
  by_cases c15 : t305 ≤ (ji8)
  rotate_left
  · rw [if_neg c15] at H
    exact absurd H (by simp)
  rw [if_pos c15] at H
  have c15b0 := eq_true c15
  have c15b1 : decide (t305 ≤ (ji8)) = true := decide_eq_true c15
  clear c15
  by_cases c16 : (ji8) ≤ (a0.size : Int)
  rotate_left
  · rw [if_neg c16] at H
    exact absurd H (by simp)
  rw [if_pos c16] at H
  have c16b0 := eq_true c16
  have c16b1 : decide ((ji8) ≤ (a0.size : Int)) = true := decide_eq_true c16
  clear c16
  by_cases c17 : t308.toList = (a0.extract (t305 : Int).toNat ((ji8) : Int).toNat).toList
  rotate_left
  · rw [if_neg c17] at H
    have c17b0 : (t308.toList == (a0.extract (t305 : Int).toNat ((ji8) : Int).toNat).toList) = false := beq_eq_false_iff_ne.mpr c17
    have c17b1 : (t308.toList != (a0.extract (t305 : Int).toNat ((ji8) : Int).toNat).toList) = true := bne_iff_ne.mpr c17
    simp only [Option.some.injEq, Prod.mk.injEq] at H
    obtain ⟨rfl, rfl, rfl⟩ := H
    try go_wp2
    have n0_ := Aside0.mk (below_drew1 HB.out)
    clear HB
    have HB := n0_
    clear n0_
    refine start_ (n := 9) (S := fun w' => True) (ds := []) mkPx14_0 (by kernel_rfl) rfl rfl trivial (fun hHeld => ?_); refine with_tabW ravelinref3_Open.tab9 ravelinref3_Open.bits9 (fun HT_ HW_ => ?_)
    generalize wc.drew = w20 at HB hHeld ⊢
    refine pu_ 0 (some 41) mkPx14_1 HT_ ?_ rfl rfl (by kernel_rfl) (fun _ _ _ h => h) (Or.inl ⟨by rfl, ?_⟩) ?_ ?_ ?_
    rotate_left
    · intro w'
      go_simp
      with_reducible rfl
    rotate_left
    · simp only [Act.put, lists_, i64_w, i32_w]
      rfl
    refine pu_ 3 (some 44) mkPx14_2 HT_ ?_ rfl rfl (by kernel_rfl) (fun _ _ _ h => h) (Or.inl ⟨by rfl, ?_⟩) ?_ ?_ ?_
    rotate_left
    · intro w'
      go_simp
      with_reducible rfl
    rotate_left
    · simp only [Act.put, lists_, i64_w, i32_w]
      rfl
    refine pu_ 4 (some 45) mkPx14_3 HT_ ?_ rfl rfl (by kernel_rfl) (fun _ _ _ h => h) (Or.inl ⟨by rfl, ?_⟩) ?_ ?_ ?_
    rotate_left
    · intro w'
      go_simp
      with_reducible rfl
    rotate_left
    · simp only [Act.put, lists_, i64_w, i32_w]
      rfl
    refine pu_ 5 (some 46) mkPx14_4 HT_ ?_ rfl rfl (by kernel_rfl) (fun _ _ _ h => h) (Or.inl ⟨by rfl, ?_⟩) ?_ ?_ ?_
    rotate_left
    · intro w'
      go_simp
      with_reducible rfl
    rotate_left
    · simp only [Act.put, lists_, i64_w, i32_w]
      rfl
    refine pu_ 6 (some 47) mkPx14_5 HT_ ?_ rfl rfl (by kernel_rfl) (fun _ _ _ h => h) (Or.inl ⟨by rfl, ?_⟩) ?_ ?_ ?_
    rotate_left
    · intro w'
      go_simp
      with_reducible rfl
    rotate_left
    · simp only [Act.put, lists_, i64_w, i32_w]
      rfl
    refine pu_ 7 (some 48) mkPx14_6 HT_ ?_ rfl rfl (by kernel_rfl) (fun _ _ _ h => h) (Or.inl ⟨by rfl, ?_⟩) ?_ ?_ ?_
    rotate_left
    · intro w'
      go_simp
      with_reducible rfl
    rotate_left
    · simp only [Act.put, lists_, i64_w, i32_w]
      rfl
    refine one_ (i := 1) (N := some 42) mkPx14_7 rfl rfl (one_of HT_.out (by kernel_rfl)) (by decide) (fun K hK => ?_)
    refine goes_ Try.func40 (by kernel_rfl) rfl #[.string (a0.extract ((ji8) : Int).toNat ((wrap64 ((ji8) + t304)) : Int).toNat)] (by rfl) rfl rfl (by (try simp only [List.map_toArray, List.map_cons, List.map_nil]); first | done | (simp only [hji8]; rfl) | rfl | (simp only [List.length_drop, List.length_take]; rfl)) ?_
    with_reducible refine (ravelinref3_Sum.calls kj4 (a0.extract ((ji8) : Int).toNat ((wrap64 ((ji8) + t304)) : Int).toNat) t307 _ A12.out).mono ?_
    rintro e w' ⟨rfl, ⟨nd, rfl⟩⟩
    refine ⟨_, rfl, ?_⟩
    refine hK.out _ _ trivial (fun hHeld => ?_)
    clear hK K
    refine norm_ (a' := ?_) ?_ ?_
    rotate_left
    · show Act.put _ (some 42) _ = _
      simp only [Act.put, lists_, i64_w, i32_w]
      rfl
    refine one_ (i := 2) (N := some 43) mkPx14_8 rfl rfl (one_of HT_.out (by kernel_rfl)) (by decide) (fun K hK => ?_)
    refine goes_ Try.func39 (by kernel_rfl) rfl #[.int .u32 t307] (by rfl) rfl rfl (by (try simp only [maps_]); first | done | rfl) ?_
    with_reducible refine (ravelinref3_four.calls t307 t308 _ A13.out).mono ?_
    rintro e w21 ⟨rfl, hb⟩
    refine ⟨_, rfl, ?_⟩
    have n0_ := bs_ HB hb
    clear HB
    have HB := n0_
    clear n0_
    (try clear hb)
    (try clear hb2)
    (try clear hk)
    (try clear hi)
    refine hK.out _ _ trivial (fun hHeld => ?_)
    clear hK K
    refine norm_ (a' := ?_) ?_ ?_
    rotate_left
    · show Act.put _ (some 43) _ = _
      simp only [Act.put, lists_, i64_w, i32_w]
      rfl
    refine pu_ 8 (some 49) mkPx14_9 HT_ ?_ rfl rfl (by kernel_rfl) (fun _ _ _ h => h) (Or.inl ⟨by rfl, ?_⟩) ?_ ?_ ?_
    rotate_left
    · intro w'
      go_simp
      with_reducible rfl
    rotate_left
    · simp only [Act.put, lists_, i64_w, i32_w]
      rfl
    refine done_ (done_of HT_.out (by kernel_rfl)) ?_
    try go_wp2
    go_ret3
    exact ⟨by first | rfl | (simp [errW_none, errW_some] <;> rfl) | (simp only [← hji8]; first | rfl | (simp [errW_none, errW_some] <;> rfl)) | (simp [*, errW_none, errW_some] <;> rfl), gw_ HB⟩
  rw [if_pos c17] at H
  have c17b0 : (t308.toList == (a0.extract (t305 : Int).toNat ((ji8) : Int).toNat).toList) = true := beq_iff_eq.mpr c17
  have c17b1 : (t308.toList != (a0.extract (t305 : Int).toNat ((ji8) : Int).toNat).toList) = false := bne_eq_false_iff_eq.mpr c17
  clear c17
  simp only [Option.some.injEq, Prod.mk.injEq] at H
  obtain ⟨rfl, rfl, rfl⟩ := H
  try go_wp2
  have n0_ := Aside0.mk (below_drew1 HB.out)
  clear HB
  have HB := n0_
  clear n0_
  refine start_ (n := 9) (S := fun w' => True) (ds := []) mkPx14_0 (by kernel_rfl) rfl rfl trivial (fun hHeld => ?_); refine with_tabW ravelinref3_Open.tab9 ravelinref3_Open.bits9 (fun HT_ HW_ => ?_)
  generalize wc.drew = w18 at HB hHeld ⊢
  refine pu_ 0 (some 41) mkPx14_1 HT_ ?_ rfl rfl (by kernel_rfl) (fun _ _ _ h => h) (Or.inl ⟨by rfl, ?_⟩) ?_ ?_ ?_
  rotate_left
  · intro w'
    go_simp
    with_reducible rfl
  rotate_left
  · simp only [Act.put, lists_, i64_w, i32_w]
    rfl
  refine pu_ 3 (some 44) mkPx14_2 HT_ ?_ rfl rfl (by kernel_rfl) (fun _ _ _ h => h) (Or.inl ⟨by rfl, ?_⟩) ?_ ?_ ?_
  rotate_left
  · intro w'
    go_simp
    with_reducible rfl
  rotate_left
  · simp only [Act.put, lists_, i64_w, i32_w]
    rfl
  refine pu_ 4 (some 45) mkPx14_3 HT_ ?_ rfl rfl (by kernel_rfl) (fun _ _ _ h => h) (Or.inl ⟨by rfl, ?_⟩) ?_ ?_ ?_
  rotate_left
  · intro w'
    go_simp
    with_reducible rfl
  rotate_left
  · simp only [Act.put, lists_, i64_w, i32_w]
    rfl
  refine pu_ 5 (some 46) mkPx14_4 HT_ ?_ rfl rfl (by kernel_rfl) (fun _ _ _ h => h) (Or.inl ⟨by rfl, ?_⟩) ?_ ?_ ?_
  rotate_left
  · intro w'
    go_simp
    with_reducible rfl
  rotate_left
  · simp only [Act.put, lists_, i64_w, i32_w]
    rfl
  refine pu_ 6 (some 47) mkPx14_5 HT_ ?_ rfl rfl (by kernel_rfl) (fun _ _ _ h => h) (Or.inl ⟨by rfl, ?_⟩) ?_ ?_ ?_
  rotate_left
  · intro w'
    go_simp
    with_reducible rfl
  rotate_left
  · simp only [Act.put, lists_, i64_w, i32_w]
    rfl
  refine pu_ 7 (some 48) mkPx14_6 HT_ ?_ rfl rfl (by kernel_rfl) (fun _ _ _ h => h) (Or.inl ⟨by rfl, ?_⟩) ?_ ?_ ?_
  rotate_left
  · intro w'
    go_simp
    with_reducible rfl
  rotate_left
  · simp only [Act.put, lists_, i64_w, i32_w]
    rfl
  refine one_ (i := 1) (N := some 42) mkPx14_7 rfl rfl (one_of HT_.out (by kernel_rfl)) (by decide) (fun K hK => ?_)
  refine goes_ Try.func40 (by kernel_rfl) rfl #[.string (a0.extract ((ji8) : Int).toNat ((wrap64 ((ji8) + t304)) : Int).toNat)] (by rfl) rfl rfl (by (try simp only [List.map_toArray, List.map_cons, List.map_nil]); first | done | (simp only [hji8]; rfl) | rfl | (simp only [List.length_drop, List.length_take]; rfl)) ?_
  with_reducible refine (ravelinref3_Sum.calls kj4 (a0.extract ((ji8) : Int).toNat ((wrap64 ((ji8) + t304)) : Int).toNat) t307 _ A12.out).mono ?_
  rintro e w' ⟨rfl, ⟨nd, rfl⟩⟩
  refine ⟨_, rfl, ?_⟩
  refine hK.out _ _ trivial (fun hHeld => ?_)
  clear hK K
  refine norm_ (a' := ?_) ?_ ?_
  rotate_left
  · show Act.put _ (some 42) _ = _
    simp only [Act.put, lists_, i64_w, i32_w]
    rfl
  refine one_ (i := 2) (N := some 43) mkPx14_8 rfl rfl (one_of HT_.out (by kernel_rfl)) (by decide) (fun K hK => ?_)
  refine goes_ Try.func39 (by kernel_rfl) rfl #[.int .u32 t307] (by rfl) rfl rfl (by (try simp only [maps_]); first | done | rfl) ?_
  with_reducible refine (ravelinref3_four.calls t307 t308 _ A13.out).mono ?_
  rintro e w19 ⟨rfl, hb⟩
  refine ⟨_, rfl, ?_⟩
  have n0_ := bs_ HB hb
  clear HB
  have HB := n0_
  clear n0_
  (try clear hb)
  (try clear hb2)
  (try clear hk)
  (try clear hi)
  refine hK.out _ _ trivial (fun hHeld => ?_)
  clear hK K
  refine norm_ (a' := ?_) ?_ ?_
  rotate_left
  · show Act.put _ (some 43) _ = _
    simp only [Act.put, lists_, i64_w, i32_w]
    rfl
  refine pu_ 8 (some 49) mkPx14_9 HT_ ?_ rfl rfl (by kernel_rfl) (fun _ _ _ h => h) (Or.inl ⟨by rfl, ?_⟩) ?_ ?_ ?_
  rotate_left
  · intro w'
    go_simp
    with_reducible rfl
  rotate_left
  · simp only [Act.put, lists_, i64_w, i32_w]
    rfl
  refine done_ (done_of HT_.out (by kernel_rfl)) ?_
  try go_wp2
  go_ret3
  exact ⟨by first | rfl | (simp [errW_none, errW_some] <;> rfl) | (simp only [← hji8]; first | rfl | (simp [errW_none, errW_some] <;> rfl)) | (simp [*, errW_none, errW_some] <;> rfl), gw_ HB⟩

end Go.Proofs.Ytkmbgihfdfgmgaa.P

namespace Go.Proofs.Ytkmbgihfdfgmgaa.P
open Go.RowKit Go.Proofs.YtkmbgihfdfgmgaaW.PrintWords Go.Proofs.YtkmbgihfdfgmgaaW.PrintLast Go.Proofs.YtkmbgihfdfgmgaaW.PrintMore
attribute [local go_sem] max2_int min2_int max_two min_two max_three min_three max_four min_four   -- for this text's walks alone
attribute [local go_sem high] string_leq string_geq string_gtr
set_option linter.unusedVariables false
set_option linter.unusedSimpArgs false

/-! ### ravelinref3_TakeText: function 45 -/
def ravelinref3_TakeText.f (k : Nat) (a0 : ByteArray) : Option (ByteArray × Int × Int) := (ravelinref3_TakeNum.f k a0).bind fun bt309 => (if bt309.2.2 = 0 then (if bt309.1 > (wrap64 ((a0.size : Int) - bt309.2.1)) then (some ((⟨#[]⟩ : ByteArray), 0, 12)) else (if 0 ≤ bt309.2.1 then (if bt309.2.1 ≤ (wrap64 (bt309.2.1 + bt309.1)) then (if (wrap64 (bt309.2.1 + bt309.1)) ≤ (a0.size : Int) then (some (a0.extract (bt309.2.1 : Int).toNat ((wrap64 (bt309.2.1 + bt309.1)) : Int).toNat, wrap64 (bt309.2.1 + bt309.1), 0)) else (none)) else (none)) else (none))) else (some ((⟨#[]⟩ : ByteArray), 0, bt309.2.2)))
theorem ravelinref3_TakeText.mono : ∀ a0 k, LeO (ravelinref3_TakeText.f k a0) (ravelinref3_TakeText.f (k + 1) a0) := by
  intro a0 k
  unfold ravelinref3_TakeText.f
  repeat' first
      | (with_reducible exact ravelinref3_TakeNum.mono _ _)
      | (with_reducible exact LeO.refl _)
      | (with_reducible exact LeO.none _)
      | (with_reducible refine LeO.ite ?_ ?_)
      | (with_reducible refine LeO.bind ?_ (fun _ => ?_))
      | exact ravelinref3_TakeNum.mono _ _
      | exact LeO.none _
      | refine LeO.ite ?_ ?_
      | refine LeO.bind ?_ (fun _ => ?_)
set_option maxHeartbeats 8000000 in
set_option maxRecDepth 100000 in
theorem ravelinref3_TakeText.calls (k : Nat) (a0 : ByteArray) (r1 : ByteArray) (r2 : Int) (r3 : Int) (w : World) (h : ravelinref3_TakeText.f k a0 = some (r1, r2, r3)) :
    Calls Try.prog 45 #[.string a0] w fun e w' => e = .returned (.tuple #[.string r1, .int .i64 r2, .int .i64 r3]) ∧ Drawn0 w w' := by
  have H : ((ravelinref3_TakeNum.f k a0).bind fun bt309 => (if bt309.2.2 = 0 then (if bt309.1 > (wrap64 ((a0.size : Int) - bt309.2.1)) then (some ((⟨#[]⟩ : ByteArray), 0, 12)) else (if 0 ≤ bt309.2.1 then (if bt309.2.1 ≤ (wrap64 (bt309.2.1 + bt309.1)) then (if (wrap64 (bt309.2.1 + bt309.1)) ≤ (a0.size : Int) then (some (a0.extract (bt309.2.1 : Int).toNat ((wrap64 (bt309.2.1 + bt309.1)) : Int).toNat, wrap64 (bt309.2.1 + bt309.1), 0)) else (none)) else (none)) else (none))) else (some ((⟨#[]⟩ : ByteArray), 0, bt309.2.2)))) = some (r1, r2, r3) := h
  clear h
  replace H := Option.bind_eq_some_iff.mp H
  obtain ⟨⟨t309, t310, t311⟩, A20, H⟩ := H
  try dsimp only at H
  have A2 := Aside0.mk A20
  clear A20
  by_cases c3 : t311 = 0
  rotate_left
  · rw [if_neg c3] at H
    have c3b0 : (t311 == 0) = false := beq_eq_false_iff_ne.mpr c3
    have c3b1 : (t311 != 0) = true := bne_iff_ne.mpr c3
    simp only [Option.some.injEq, Prod.mk.injEq] at H
    obtain ⟨rfl, rfl, rfl⟩ := H
    go_enter Try.func45, Try.ntmps45
    go_wp2_with (first | ((with_reducible refine gate_callee (f := 27) rfl ?_); refine goesL_ (some 10) rfl rfl Try.func27 (by kernel_rfl) rfl #[.string a0] rfl (by (try simp only [maps_]); first | done | rfl) ?_; (with_reducible refine (ravelinref3_TakeNum.calls k a0 t309 t310 t311 _ A2.out).mono ?_); rintro e w' ⟨rfl, ⟨nd, rfl⟩⟩; refine ⟨_, rfl, ?_⟩))
    go_ret3
    exact ⟨by first | rfl | (simp; done) | (simp [*]; done), by repeat (first | exact Drawn0.refl _ | apply Drawn0.step)⟩
  rw [if_pos c3] at H
  have c3b0 : (t311 == 0) = true := beq_iff_eq.mpr c3
  have c3b1 : (t311 != 0) = false := bne_eq_false_iff_eq.mpr c3
  clear c3
  by_cases c4 : t309 > (wrap64 ((a0.size : Int) - t310))
  · rw [if_pos c4] at H
    have c4b0 : decide ((wrap64 ((a0.size : Int) - t310)) < t309) = true := decide_eq_true c4
    clear c4
    simp only [Option.some.injEq, Prod.mk.injEq] at H
    obtain ⟨rfl, rfl, rfl⟩ := H
    go_enter Try.func45, Try.ntmps45
    go_wp2_with (first | ((with_reducible refine gate_callee (f := 27) rfl ?_); refine goesL_ (some 10) rfl rfl Try.func27 (by kernel_rfl) rfl #[.string a0] rfl (by (try simp only [maps_]); first | done | rfl) ?_; (with_reducible refine (ravelinref3_TakeNum.calls k a0 t309 t310 t311 _ A2.out).mono ?_); rintro e w' ⟨rfl, ⟨nd, rfl⟩⟩; refine ⟨_, rfl, ?_⟩))
    go_ret3
    exact ⟨by first | rfl | (simp; done) | (simp [*]; done), by repeat (first | exact Drawn0.refl _ | apply Drawn0.step)⟩
  rw [if_neg c4] at H
  have c4b0 : decide ((wrap64 ((a0.size : Int) - t310)) < t309) = false := decide_eq_false c4
  clear c4
  by_cases c5 : 0 ≤ t310
  rotate_left
  · rw [if_neg c5] at H
    exact absurd H (by simp)
  rw [if_pos c5] at H
  have c5b0 := eq_true c5
  have c5b1 : decide (0 ≤ t310) = true := decide_eq_true c5
  clear c5
  by_cases c6 : t310 ≤ (wrap64 (t310 + t309))
  rotate_left
  · rw [if_neg c6] at H
    exact absurd H (by simp)
  rw [if_pos c6] at H
  have c6b0 := eq_true c6
  have c6b1 : decide (t310 ≤ (wrap64 (t310 + t309))) = true := decide_eq_true c6
  by_cases c7 : (wrap64 (t310 + t309)) ≤ (a0.size : Int)
  rotate_left
  · rw [if_neg c7] at H
    exact absurd H (by simp)
  rw [if_pos c7] at H
  have c7b0 := eq_true c7
  have c7b1 : decide ((wrap64 (t310 + t309)) ≤ (a0.size : Int)) = true := decide_eq_true c7
  simp only [Option.some.injEq, Prod.mk.injEq] at H
  obtain ⟨rfl, rfl, rfl⟩ := H
  go_enter Try.func45, Try.ntmps45
  go_wp2_with (first | ((with_reducible refine gate_callee (f := 27) rfl ?_); refine goesL_ (some 10) rfl rfl Try.func27 (by kernel_rfl) rfl #[.string a0] rfl (by (try simp only [maps_]); first | done | rfl) ?_; (with_reducible refine (ravelinref3_TakeNum.calls k a0 t309 t310 t311 _ A2.out).mono ?_); rintro e w' ⟨rfl, ⟨nd, rfl⟩⟩; refine ⟨_, rfl, ?_⟩))
  go_ret3
  exact ⟨by first | rfl | (simp; done) | (simp [*]; done), by repeat (first | exact Drawn0.refl _ | apply Drawn0.step)⟩

/-! ### ravelinref12_TakeRow: function 28 -/
mutual
def ravelinref12_TakeRow.j0 : Nat → ByteArray → Int → Int → Bool → Option ((List (S39)) × Int × Bool)
  | 0, _, _, _, _ => none
  | k + 1, x0, x5, x6, x28 => if x28 = true then (some (([] : List (S39)), 0, false)) else (ravelinref12_TakeRow.l0 k x0 x5 x6 ([] : List (S39)) 0)
def ravelinref12_TakeRow.l0 : Nat → ByteArray → Int → Int → List (S39) → Int → Option ((List (S39)) × Int × Bool)
  | 0, _, _, _, _, _ => none
  | k + 1, x0, x5, x6, x8, x9 => if x9 < x5 then (if 0 ≤ x6 then (if x6 ≤ (x0.size : Int) then ((ravelinref3_TakeText.f k (x0.extract (x6 : Int).toNat x0.size)).bind fun bt315 => (if bt315.2.2 = 0 then (ravelinref12_TakeRow.j2 k x0 x5 x6 x8 x9 bt315.1 bt315.2.1 ((wrap64 (x6 + bt315.2.1)) == (x0.size : Int))) else (ravelinref12_TakeRow.j2 k x0 x5 x6 x8 x9 bt315.1 bt315.2.1 true))) else (none)) else (none)) else (some (x8, x6, true))
def ravelinref12_TakeRow.j2 : Nat → ByteArray → Int → Int → List (S39) → Int → ByteArray → Int → Bool → Option ((List (S39)) × Int × Bool)
  | 0, _, _, _, _, _, _, _, _ => none
  | k + 1, x0, x5, x6, x8, x9, x10, x11, x51 => if x51 = true then (some (([] : List (S39)), 0, false)) else (if 0 ≤ (wrap64 (x6 + x11)) then (if (wrap64 (x6 + x11)) < (x0.size : Int) then (if ((bt x0 (wrap64 (x6 + x11))) = 1) then (if x8.length < 3518437208883 then (ravelinref12_TakeRow.l0 k x0 x5 (wrap64 ((wrap64 (x6 + x11)) + 1)) (x8 ++ [(⟨x10, true, (⟨#[]⟩ : ByteArray)⟩ : S39)]) (wrap64 (x9 + 1))) else (none)) else (if 0 ≤ (wrap64 ((wrap64 (x6 + x11)) + 1)) then (if (wrap64 ((wrap64 (x6 + x11)) + 1)) ≤ (x0.size : Int) then ((ravelinref3_TakeText.f k (x0.extract ((wrap64 ((wrap64 (x6 + x11)) + 1)) : Int).toNat x0.size)).bind fun bt322 => (if bt322.2.2 = 0 then (if x8.length < 3518437208883 then (ravelinref12_TakeRow.l0 k x0 x5 (wrap64 ((wrap64 ((wrap64 (x6 + x11)) + 1)) + bt322.2.1)) (x8 ++ [(⟨x10, false, bt322.1⟩ : S39)]) (wrap64 (x9 + 1))) else (none)) else (some (([] : List (S39)), 0, false)))) else (none)) else (none))) else (none)) else (none))
end
def ravelinref12_TakeRow.f (k : Nat) (a0 : ByteArray) : Option ((List (S39)) × Int × Bool) := (ravelinref3_TakeNum.f k a0).bind fun bt312 => (if bt312.2.2 = 0 then (ravelinref12_TakeRow.j0 k a0 bt312.1 bt312.2.1 (decide (bt312.1 > 8))) else (ravelinref12_TakeRow.j0 k a0 bt312.1 bt312.2.1 true))
theorem ravelinref12_TakeRow.mono_l : ∀ k, (∀ y0 y1 y2 y3, LeO (ravelinref12_TakeRow.j0 k y0 y1 y2 y3) (ravelinref12_TakeRow.j0 (k + 1) y0 y1 y2 y3)) ∧ (∀ y0 y1 y2 y3 y4, LeO (ravelinref12_TakeRow.l0 k y0 y1 y2 y3 y4) (ravelinref12_TakeRow.l0 (k + 1) y0 y1 y2 y3 y4)) ∧ (∀ y0 y1 y2 y3 y4 y5 y6 y7, LeO (ravelinref12_TakeRow.j2 k y0 y1 y2 y3 y4 y5 y6 y7) (ravelinref12_TakeRow.j2 (k + 1) y0 y1 y2 y3 y4 y5 y6 y7))
  | 0 => ⟨fun _ _ _ _ r h => by simp [ravelinref12_TakeRow.j0] at h, fun _ _ _ _ _ r h => by simp [ravelinref12_TakeRow.l0] at h, fun _ _ _ _ _ _ _ _ r h => by simp [ravelinref12_TakeRow.j2] at h⟩
  | k + 1 => by
    obtain ⟨ih0, ih1, ih2⟩ := ravelinref12_TakeRow.mono_l k
    refine ⟨?_, ?_, ?_⟩
    all_goals
      intros
      first | unfold ravelinref12_TakeRow.j0 | unfold ravelinref12_TakeRow.l0 | unfold ravelinref12_TakeRow.j2
      repeat' first
      | (with_reducible exact ih0 _ _ _ _)
      | (with_reducible exact ih1 _ _ _ _ _)
      | (with_reducible exact ih2 _ _ _ _ _ _ _ _)
      | (with_reducible exact ravelinref3_TakeNum.mono _ _)
      | (with_reducible exact ravelinref3_TakeText.mono _ _)
      | (with_reducible exact LeO.refl _)
      | (with_reducible exact LeO.none _)
      | (with_reducible refine LeO.ite ?_ ?_)
      | (with_reducible refine LeO.bind ?_ (fun _ => ?_))
      | exact ih0 _ _ _ _
      | exact ih1 _ _ _ _ _
      | exact ih2 _ _ _ _ _ _ _ _
      | exact ravelinref3_TakeNum.mono _ _
      | exact ravelinref3_TakeText.mono _ _
      | exact LeO.none _
      | refine LeO.ite ?_ ?_
      | refine LeO.bind ?_ (fun _ => ?_)
theorem ravelinref12_TakeRow.mono : ∀ a0 k, LeO (ravelinref12_TakeRow.f k a0) (ravelinref12_TakeRow.f (k + 1) a0) := by
  intro a0 k
  obtain ⟨ih0, ih1, ih2⟩ := ravelinref12_TakeRow.mono_l k
  unfold ravelinref12_TakeRow.f
  repeat' first
      | (with_reducible exact ih0 _ _ _ _)
      | (with_reducible exact ih1 _ _ _ _ _)
      | (with_reducible exact ih2 _ _ _ _ _ _ _ _)
      | (with_reducible exact ravelinref3_TakeNum.mono _ _)
      | (with_reducible exact ravelinref3_TakeText.mono _ _)
      | (with_reducible exact LeO.refl _)
      | (with_reducible exact LeO.none _)
      | (with_reducible refine LeO.ite ?_ ?_)
      | (with_reducible refine LeO.bind ?_ (fun _ => ?_))
      | exact ih0 _ _ _ _
      | exact ih1 _ _ _ _ _
      | exact ih2 _ _ _ _ _ _ _ _
      | exact ravelinref3_TakeNum.mono _ _
      | exact ravelinref3_TakeText.mono _ _
      | exact LeO.none _
      | refine LeO.ite ?_ ?_
      | refine LeO.bind ?_ (fun _ => ?_)
set_option maxHeartbeats 8000000 in
set_option maxRecDepth 100000 in
theorem ravelinref12_TakeRow.calls (k : Nat) (a0 : ByteArray) (r1 : List (S39)) (r2 : Int) (r3 : Bool) (w : World) (h : ravelinref12_TakeRow.f k a0 = some (r1, r2, r3)) :
    Calls Try.prog 28 #[.string a0] w fun e w' => ∃ v0_ : Value, e = .returned (.tuple #[v0_, .int .i64 r2, .bool r3]) ∧ Kd.R k39 39 w' w.heap.size (fun _ => True) v0_ r1 ∧ Below w.heap.size w w' := by
  have hu39 := Try.underlying39
  have HB := Aside0.mk (Below.refl w.heap.size w)
  have H : ((ravelinref3_TakeNum.f k a0).bind fun bt312 => (if bt312.2.2 = 0 then (ravelinref12_TakeRow.j0 k a0 bt312.1 bt312.2.1 (decide (bt312.1 > 8))) else (ravelinref12_TakeRow.j0 k a0 bt312.1 bt312.2.1 true))) = some (r1, r2, r3) := h
  clear h
  replace H := Option.bind_eq_some_iff.mp H
  obtain ⟨⟨t312, t313, t314⟩, A20, H⟩ := H
  try dsimp only at H
  have A2 := Aside0.mk A20
  clear A20
  have HC3 := Aside0.mk H
  clear H
  go_enter Try.func28, Try.ntmps28
  go_upto_region 2 with (first | ((with_reducible refine gate_callee (f := 27) rfl ?_); refine goesL_ (some 19) rfl rfl Try.func27 (by kernel_rfl) rfl #[.string a0] rfl (by (try simp only [maps_]); first | done | rfl) ?_; (with_reducible refine (ravelinref3_TakeNum.calls k a0 t312 t313 t314 _ A2.out).mono ?_); rintro e w' ⟨rfl, ⟨nd, rfl⟩⟩; refine ⟨_, rfl, ?_⟩))
  (try simp only [Act.put, lists_])
  go_cut [28] (fun v28 wc => ∃ (kq : Nat) (x28_2 : Bool), v28 = .bool x28_2 ∧ Aside0 (ravelinref12_TakeRow.j0 kq a0 t312 t313 x28_2 = some (r1, r2, r3)) ∧ Aside0 (kq ≤ k) ∧ Aside0 (Below w.heap.size w wc))
  case first =>
    have H := HC3.out
    clear HC3
    by_cases c4 : t314 = 0
    rotate_left
    · rw [if_neg c4] at H
      have c4b0 : (t314 == 0) = false := beq_eq_false_iff_ne.mpr c4
      have c4b1 : (t314 != 0) = true := bne_iff_ne.mpr c4
      (first | rw [c4b0] | (simp only [i64_w, i32_w]; rw [c4b0]) | skip)
      have H' := Aside0.mk H
      clear H
      go_wp2
      go_meet
      case rel => exact ⟨_, (true), (by first | rfl | (simp; done) | (simp [*]; done)), H', ⟨by first | omega | exact Nat.le_refl _⟩, ⟨gw_ HB⟩⟩
    rw [if_pos c4] at H
    have c4b0 : (t314 == 0) = true := beq_iff_eq.mpr c4
    have c4b1 : (t314 != 0) = false := bne_eq_false_iff_eq.mpr c4
    clear c4
    (first | rw [c4b0] | (simp only [i64_w, i32_w]; rw [c4b0]) | skip)
    have H' := Aside0.mk H
    clear H
    go_wp2
    go_meet
    case rel => exact ⟨_, (decide (t312 > 8)), (by first | rfl | (simp; done) | (simp [*]; done)), H', ⟨by first | omega | exact Nat.le_refl _⟩, ⟨gw_ HB⟩⟩
  clear HC3
  try clear c2
  try clear p2
  try clear c4
  try clear c4b0
  try clear c4b1
  obtain ⟨kq, x28_2, rfl, HA, HJ2, HB⟩ := hcut
  cases kq with
  | zero => exact absurd HA.out (by simp [ravelinref12_TakeRow.j0])
  | succ kj2 => ?_
  have H := HA.out
  clear HA
  simp only [ravelinref12_TakeRow.j0] at H
  by_cases c5 : x28_2 = true
  · subst c5
    have H1 : (some (([] : List (S39)), 0, false)) = some (r1, r2, r3) := by rw [if_pos rfl] at H; exact H
    clear H
    have H := H1
    clear H1
    simp only [Option.some.injEq, Prod.mk.injEq] at H
    obtain ⟨rfl, rfl, rfl⟩ := H
    go_wp2
    go_ret3
    exact ⟨_, by first | rfl | (simp [*, errW_none, errW_some] <;> rfl), by first | exact Kd.R_nil _ _ _ _ _ | exact Kd.N_nil _ _ _ _ _ | exact Kd.V_nil _ _ _ _ _ | exact Kd.Q_nil _ _ _ _ _ | exact Kd.S_nil _ _ _ _ _, gw_ HB⟩
  replace c5 := Bool.eq_false_iff.mpr c5
  subst c5
  have H1 : (ravelinref12_TakeRow.l0 kj2 a0 t312 t313 ([] : List (S39)) 0) = some (r1, r2, r3) := by rw [if_neg (show ¬ (false = true) by decide)] at H; exact H
  clear H
  have H := H1
  clear H1
  have H' := Aside0.mk H
  clear H
  go_wp2
  go_loopg [6, 8, 9] kj2 (fun kq v6 v8 v9 w' => ∃ (x6_2 : Int) (x8_2 : List (S39)) (x9_2 : Int), v6 = .int .i64 x6_2 ∧ v9 = .int .i64 x9_2 ∧ Aside0 (ravelinref12_TakeRow.l0 kq a0 t312 x6_2 x8_2 x9_2 = some (r1, r2, r3)) ∧ Aside0 (kq ≤ kj2) ∧ Aside0 (Kd.R k39 39 w' w.heap.size (fun _ => True) v8 x8_2) ∧ Aside0 (Below w.heap.size w w'))
  case atStart => exact ⟨(t313), (([] : List (S39))), (0), (by first | rfl | (simp; done) | (simp [*]; done)), (by first | rfl | (simp; done) | (simp [*]; done)), H', ⟨Nat.le_refl _⟩, ⟨by first | exact Kd.R_nil _ _ _ _ _ | exact Kd.N_nil _ _ _ _ _ | exact Kd.V_nil _ _ _ _ _ | exact Kd.Q_nil _ _ _ _ _ | exact Kd.S_nil _ _ _ _ _⟩, ⟨gw_ HB⟩⟩
  clear H'
  try clear c2
  try clear p2
  try clear c4
  try clear c4b0
  try clear c4b1
  try clear c5
  try clear p2
  obtain ⟨x6_2, x8_2, x9_2, rfl, rfl, HA, HK2, HO_8, HB⟩ := hrel
  cases gk with
  | zero => exact absurd HA.out (by simp [ravelinref12_TakeRow.l0])
  | succ k2 => ?_
  have H := HA.out
  clear HA
  simp only [ravelinref12_TakeRow.l0] at H
  by_cases c6 : x9_2 < t312
  rotate_left
  · rw [if_neg c6] at H
    have c6b0 : decide (x9_2 < t312) = false := decide_eq_false c6
    clear c6
    simp only [Option.some.injEq, Prod.mk.injEq] at H
    obtain ⟨rfl, rfl, rfl⟩ := H
    go_wp2
    go_ret3
    exact ⟨_, by first | rfl | (simp [*, errW_none, errW_some] <;> rfl), by (with_reducible repeat (first | apply Kd.R_alloc | apply Kd.R_drewN | apply Kd.R_drew)); exact HO_8.out, gw_ HB⟩
  rw [if_pos c6] at H
  have c6b0 : decide (x9_2 < t312) = true := decide_eq_true c6
  clear c6
  by_cases c7 : 0 ≤ x6_2
  rotate_left
  · rw [if_neg c7] at H
    exact absurd H (by simp)
  rw [if_pos c7] at H
  have c7b0 := eq_true c7
  have c7b1 : decide (0 ≤ x6_2) = true := decide_eq_true c7
  clear c7
  by_cases c8 : x6_2 ≤ (a0.size : Int)
  rotate_left
  · rw [if_neg c8] at H
    exact absurd H (by simp)
  rw [if_pos c8] at H
  have c8b0 := eq_true c8
  have c8b1 : decide (x6_2 ≤ (a0.size : Int)) = true := decide_eq_true c8
  clear c8
  replace H := Option.bind_eq_some_iff.mp H
  obtain ⟨⟨t315, t316, t317⟩, A90, H⟩ := H
  try dsimp only at H
  have A9 := Aside0.mk A90
  clear A90
  have HC10 := Aside0.mk H
  clear H
  go_upto_region 9 with (first | ((with_reducible refine gate_callee (f := 45) rfl ?_); refine goesL_ (some 38) rfl rfl Try.func45 (by kernel_rfl) rfl #[.string (a0.extract (x6_2 : Int).toNat a0.size)] rfl (by (try simp only [maps_]); first | done | rfl) ?_; (with_reducible refine (ravelinref3_TakeText.calls k2 (a0.extract (x6_2 : Int).toNat a0.size) t315 t316 t317 _ A9.out).mono ?_); rintro e w' ⟨rfl, ⟨nd, rfl⟩⟩; refine ⟨_, rfl, ?_⟩))
  (try simp only [Act.put, lists_])
  go_cut [51] (fun v51 wc => ∃ (kq : Nat) (x51_9 : Bool), v51 = .bool x51_9 ∧ Aside0 (ravelinref12_TakeRow.j2 kq a0 t312 x6_2 x8_2 x9_2 t315 t316 x51_9 = some (r1, r2, r3)) ∧ Aside0 (kq ≤ k2) ∧ Aside0 (Kd.R k39 39 wc w.heap.size (fun _ => True) u8 x8_2) ∧ Aside0 (Below w.heap.size w wc))
  case first =>
    have H := HC10.out
    clear HC10
    by_cases c11 : t317 = 0
    rotate_left
    · rw [if_neg c11] at H
      have c11b0 : (t317 == 0) = false := beq_eq_false_iff_ne.mpr c11
      have c11b1 : (t317 != 0) = true := bne_iff_ne.mpr c11
      (first | rw [c11b0] | (simp only [i64_w, i32_w]; rw [c11b0]) | skip)
      have H' := Aside0.mk H
      clear H
      go_wp2
      go_meet
      case rel => exact ⟨_, (true), (by first | rfl | (simp; done) | (simp [*]; done)), H', ⟨by have := HJ2.out; have := HK2.out; first | omega | exact Nat.le_refl _⟩, ⟨by (with_reducible repeat (first | apply Kd.R_alloc | apply Kd.R_drewN | apply Kd.R_drew)); exact HO_8.out⟩, ⟨gw_ HB⟩⟩
    rw [if_pos c11] at H
    have c11b0 : (t317 == 0) = true := beq_iff_eq.mpr c11
    have c11b1 : (t317 != 0) = false := bne_eq_false_iff_eq.mpr c11
    clear c11
    (first | rw [c11b0] | (simp only [i64_w, i32_w]; rw [c11b0]) | skip)
    have H' := Aside0.mk H
    clear H
    go_wp2
    go_meet
    case rel => exact ⟨_, (((wrap64 (x6_2 + t316)) == (a0.size : Int))), (by first | rfl | (simp; done) | (simp [*]; done)), H', ⟨by have := HJ2.out; have := HK2.out; first | omega | exact Nat.le_refl _⟩, ⟨by (with_reducible repeat (first | apply Kd.R_alloc | apply Kd.R_drewN | apply Kd.R_drew)); exact HO_8.out⟩, ⟨gw_ HB⟩⟩
  clear HC10
  try clear c1
  try clear c2
  try clear p2
  try clear c4
  try clear c4b0
  try clear c4b1
  try clear c5
  try clear c6
  try clear c6b0
  try clear p6
  try clear c7
  try clear c7b0
  try clear c7b1
  try clear c8
  try clear c8b0
  try clear c8b1
  try clear c11
  try clear c11b0
  try clear c11b1
  try clear p2
  obtain ⟨kq, x51_9, rfl, HA, HJ9, HO_8, HB⟩ := hcut
  cases kq with
  | zero => exact absurd HA.out (by simp [ravelinref12_TakeRow.j2])
  | succ kj9 => ?_
  have H := HA.out
  clear HA
  simp only [ravelinref12_TakeRow.j2] at H
  by_cases c12 : x51_9 = true
  · subst c12
    have H1 : (some (([] : List (S39)), 0, false)) = some (r1, r2, r3) := by rw [if_pos rfl] at H; exact H
    clear H
    have H := H1
    clear H1
    simp only [Option.some.injEq, Prod.mk.injEq] at H
    obtain ⟨rfl, rfl, rfl⟩ := H
    go_wp2
    go_ret3
    exact ⟨_, by first | rfl | (simp [*, errW_none, errW_some] <;> rfl), by first | exact Kd.R_nil _ _ _ _ _ | exact Kd.N_nil _ _ _ _ _ | exact Kd.V_nil _ _ _ _ _ | exact Kd.Q_nil _ _ _ _ _ | exact Kd.S_nil _ _ _ _ _, gw_ HB⟩
  replace c12 := Bool.eq_false_iff.mpr c12
  subst c12
  have H1 : (if 0 ≤ (wrap64 (x6_2 + t316)) then (if (wrap64 (x6_2 + t316)) < (a0.size : Int) then (if ((bt a0 (wrap64 (x6_2 + t316))) = 1) then (if x8_2.length < 3518437208883 then (ravelinref12_TakeRow.l0 kj9 a0 t312 (wrap64 ((wrap64 (x6_2 + t316)) + 1)) (x8_2 ++ [(⟨t315, true, (⟨#[]⟩ : ByteArray)⟩ : S39)]) (wrap64 (x9_2 + 1))) else (none)) else (if 0 ≤ (wrap64 ((wrap64 (x6_2 + t316)) + 1)) then (if (wrap64 ((wrap64 (x6_2 + t316)) + 1)) ≤ (a0.size : Int) then ((ravelinref3_TakeText.f kj9 (a0.extract ((wrap64 ((wrap64 (x6_2 + t316)) + 1)) : Int).toNat a0.size)).bind fun bt322 => (if bt322.2.2 = 0 then (if x8_2.length < 3518437208883 then (ravelinref12_TakeRow.l0 kj9 a0 t312 (wrap64 ((wrap64 ((wrap64 (x6_2 + t316)) + 1)) + bt322.2.1)) (x8_2 ++ [(⟨t315, false, bt322.1⟩ : S39)]) (wrap64 (x9_2 + 1))) else (none)) else (some (([] : List (S39)), 0, false)))) else (none)) else (none))) else (none)) else (none)) = some (r1, r2, r3) := by rw [if_neg (show ¬ (false = true) by decide)] at H; exact H
  clear H
  have H := H1
  clear H1
  obtain ⟨ji13, hji13⟩ : ∃ j_ : Int, (wrap64 (x6_2 + t316)) = j_ := ⟨_, rfl⟩
  replace H : (if 0 ≤ (ji13) then (if (ji13) < (a0.size : Int) then (if ((bt a0 (ji13)) = 1) then (if x8_2.length < 3518437208883 then (ravelinref12_TakeRow.l0 kj9 a0 t312 (wrap64 ((ji13) + 1)) (x8_2 ++ [(⟨t315, true, (⟨#[]⟩ : ByteArray)⟩ : S39)]) (wrap64 (x9_2 + 1))) else (none)) else (if 0 ≤ (wrap64 ((ji13) + 1)) then (if (wrap64 ((ji13) + 1)) ≤ (a0.size : Int) then ((ravelinref3_TakeText.f kj9 (a0.extract ((wrap64 ((ji13) + 1)) : Int).toNat a0.size)).bind fun bt322 => (if bt322.2.2 = 0 then (if x8_2.length < 3518437208883 then (ravelinref12_TakeRow.l0 kj9 a0 t312 (wrap64 ((wrap64 ((ji13) + 1)) + bt322.2.1)) (x8_2 ++ [(⟨t315, false, bt322.1⟩ : S39)]) (wrap64 (x9_2 + 1))) else (none)) else (some (([] : List (S39)), 0, false)))) else (none)) else (none))) else (none)) else (none)) = some (r1, r2, r3) := by first | (rw [hji13] at H; exact H) | (simp only [hji13] at H ⊢; exact H)
  have hji13w : (IntKind.i64.wrap (x6_2 + t316)) = ji13 := (i64_w _).trans hji13
  by_cases c14 : 0 ≤ (ji13)
  rotate_left
  · rw [if_neg c14] at H
    exact absurd H (by simp)
  rw [if_pos c14] at H
  have c14b0 : decide (0 ≤ (ji13)) = true := decide_eq_true c14
  clear c14
  by_cases c15 : (ji13) < (a0.size : Int)
  rotate_left
  · rw [if_neg c15] at H
    exact absurd H (by simp)
  rw [if_pos c15] at H
  have c15b0 : decide ((ji13) < (a0.size : Int)) = true := decide_eq_true c15
  clear c15
  by_cases c17 : ((bt a0 (ji13)) = 1)
  · rw [if_pos c17] at H
    have c17b0 : ((bt a0 (ji13)) == 1) = true := beq_iff_eq.mpr c17
    have c17b1 : ((bt a0 (ji13)) != 1) = false := bne_eq_false_iff_eq.mpr c17
    clear c17
    by_cases c18 : x8_2.length < 3518437208883
    rotate_left
    · rw [if_neg c18] at H
      exact absurd H (by simp)
    rw [if_pos c18] at H
    have LMc18 := Aside0.mk c18
    clear c18
    obtain ⟨y319, hy319⟩ : ∃ y_ : List (S39), y_ = (x8_2 ++ [(⟨t315, true, (⟨#[]⟩ : ByteArray)⟩ : S39)]) := ⟨_, rfl⟩
    replace H : (ravelinref12_TakeRow.l0 kj9 a0 t312 (wrap64 ((ji13) + 1)) y319 (wrap64 (x9_2 + 1))) = some (r1, r2, r3) := by first | (rw [hy319]; with_reducible exact H) | (have H2_ := (Option.bind_some _ _).symm.trans H; rw [hy319]; with_reducible exact H2_) | (have H2_ := (Option.bind_some _ _).symm.trans H; with_reducible exact H2_) | with_reducible exact H | (rw [hy319]; exact H) | exact H
    have Ny319 := Aside0.mk hy319
    clear hy319
    have H' := Aside0.mk H
    clear H
    have p16 : 0 ≤ ((ji13) : Int) := of_decide_eq_true (by assumption)
    have q16 : (ji13) < (a0.size : Int) := of_decide_eq_true (by assumption)
    have hx16 := bt_at a0 (ji13)
    replace p16 := eq_true p16
    replace q16 := eq_true q16
    go_wp2_with (first | ((with_reducible refine gate_dst (N := 13) rfl ?_); (try (refine gate_guard (by rfl) ?_; dsimp only)); refine box_event ?hg (N := 13) ?hd (cs := #[.string (⟨#[]⟩ : ByteArray), .bool false, .string (⟨#[]⟩ : ByteArray)]) (t := 39) ?hr ?_; (case hd => rfl); (case hg => rfl); (case hr => first | (go_simp; done) | (go_simp; rfl)); intro gb318 hg w19 hbox hb; have n0_ := Aside0.mk (Kd.R_below (Kd.R_elderB (by (with_reducible repeat (first | apply Kd.R_alloc | apply Kd.R_drewN | apply Kd.R_drew)); exact HO_8.out) gb318 (Nat.le_of_eq hg.symm)) hb); have n1_ := bs_ HB hb; have n2_ := Aside0.mk (hbox); have n3_ := gz_ HB hg; have n4_ := gz_ HB hg; clear HO_8; clear HB; have HO_8 := n0_; have HB := n1_; have BK318 := n2_; have GW318 := n3_; have GE318 := n4_; clear n0_ n1_ n2_ n3_ n4_; clear hb hbox hg; (try (have hcq318_0 : ∀ v0_ v1_ v2_, (((w19.setCell ⟨gb318, 0, none⟩ v0_).setCell ⟨gb318, 1, none⟩ v1_).setCell ⟨gb318, 2, none⟩ v2_).cell? ⟨gb318, 0, none⟩ = some v0_ := (by intro v0_ v1_ v2_; have z0_ : w19.cell? ⟨gb318, 0, none⟩ = some (.string (⟨#[]⟩ : ByteArray)) := bc0 BK318; have z1_ : w19.cell? ⟨gb318, 1, none⟩ = some (.bool false) := bc1 BK318; have z2_ : w19.cell? ⟨gb318, 2, none⟩ = some (.string (⟨#[]⟩ : ByteArray)) := bc2 BK318; go_simp))); (try (have hcq318_1 : ∀ v0_ v1_ v2_, (((w19.setCell ⟨gb318, 0, none⟩ v0_).setCell ⟨gb318, 1, none⟩ v1_).setCell ⟨gb318, 2, none⟩ v2_).cell? ⟨gb318, 1, none⟩ = some v1_ := (by intro v0_ v1_ v2_; have z0_ : w19.cell? ⟨gb318, 0, none⟩ = some (.string (⟨#[]⟩ : ByteArray)) := bc0 BK318; have z1_ : w19.cell? ⟨gb318, 1, none⟩ = some (.bool false) := bc1 BK318; have z2_ : w19.cell? ⟨gb318, 2, none⟩ = some (.string (⟨#[]⟩ : ByteArray)) := bc2 BK318; go_simp))); (try (have hcq318_2 : ∀ v0_ v1_ v2_, (((w19.setCell ⟨gb318, 0, none⟩ v0_).setCell ⟨gb318, 1, none⟩ v1_).setCell ⟨gb318, 2, none⟩ v2_).cell? ⟨gb318, 2, none⟩ = some v2_ := (by intro v0_ v1_ v2_; have z0_ : w19.cell? ⟨gb318, 0, none⟩ = some (.string (⟨#[]⟩ : ByteArray)) := bc0 BK318; have z1_ : w19.cell? ⟨gb318, 1, none⟩ = some (.bool false) := bc1 BK318; have z2_ : w19.cell? ⟨gb318, 2, none⟩ = some (.string (⟨#[]⟩ : ByteArray)) := bc2 BK318; go_simp))); have hcz20_0 := bc0 BK318; have hcz20_1 := bc1 BK318; have hcz20_2 := bc2 BK318; have hfz20_0 := bf_ BK318 0; have hfz20_1 := bf_ BK318 1; have hfz20_2 := bf_ BK318 2) | ((with_reducible refine gate_builtin (b := .append) (xs := #[.tmp 82, .tmp 84]) rfl ?_); (try (refine gate_guard (by rfl) ?_; dsimp only)); at_builtin; refine Kd.R_append k39 (w0 := w) w.heap.size rfl (.tmp 82) (.tmp 84) 22 39 (.agg #[(.string ⟨#[]⟩), (.bool false), (.string ⟨#[]⟩)]) 40 rfl Try.underlying22 info39 rfl (by decide) (by omega) u8 x8_2 (⟨t315, true, (⟨#[]⟩ : ByteArray)⟩ : S39) [.string t315, .bool true, .string (⟨#[]⟩ : ByteArray)] (fun k_ => k_ ≠ gb318) (fun _ => False) rfl (by first | (go_simp; done) | (go_simp; rfl)) ?aP (fun _ hk => hk.elim) ?aF ?aO ?aB ?aS ?aL ?_; (case aP => exact k39_mkM _ _ _ (⟨t315, true, (⟨#[]⟩ : ByteArray)⟩ : S39)); (case aB => exact (gwl_ [gb318] HB ⟨GE318, ⟨⟩⟩)); (case aF => exact (fun k_ hk => Kd.freshB (g := gb318) (o := .cells #[.string t315, .bool true, .string (⟨#[]⟩ : ByteArray)] 39 (0, 0)) (by (with_reducible repeat (first | refine blk_drewN ?_ _ | refine blk_drew ?_ | refine blk_alloc ?_ _)); refine blk_put (cs := #[.string t315, .bool true, .string (⟨#[]⟩ : ByteArray)]) ?_ 2 _ rfl; refine blk_put (cs := #[.string t315, .bool false, .string (⟨#[]⟩ : ByteArray)]) ?_ 1 _ rfl; refine blk_put (cs := #[.string (⟨#[]⟩ : ByteArray), .bool false, .string (⟨#[]⟩ : ByteArray)]) ?_ 0 _ rfl; exact gb_ BK318) k_ hk)); (case aO => exact (by (with_reducible repeat (first | apply Kd.R_alloc | apply Kd.R_drewN | apply Kd.R_drew)); exact Kd.R_mono (Kd.R_far (p := ⟨gb318, 2, none⟩) (Kd.R_far (p := ⟨gb318, 1, none⟩) (Kd.R_far (p := ⟨gb318, 0, none⟩) (Kd.R_mono HO_8.out (fun k_ hk => (⟨hk, hk.2⟩ : _ ∧ k_ ≠ gb318))) (fun _ hk => hk.2) (.string t315)) (fun _ hk => hk.2) (.bool true)) (fun _ hk => hk.2) (.string (⟨#[]⟩ : ByteArray))) (fun _ hk => hk.1.2))); (case aS => exact (below_size (gwl_ [gb318] HB ⟨GE318, ⟨⟩⟩))); (case aL => have := LMc18.out; omega); intro v320 w21 ho hb hg hat; rw [← Ny319.out] at ho; have n0_ := Aside0.mk (blk_grown (g := gb318) (o := .cells #[.string t315, .bool true, .string (⟨#[]⟩ : ByteArray)] 39 (0, 0)) (by (with_reducible repeat (first | refine blk_drewN ?_ _ | refine blk_drew ?_ | refine blk_alloc ?_ _)); refine blk_put (cs := #[.string t315, .bool true, .string (⟨#[]⟩ : ByteArray)]) ?_ 2 _ rfl; refine blk_put (cs := #[.string t315, .bool false, .string (⟨#[]⟩ : ByteArray)]) ?_ 1 _ rfl; refine blk_put (cs := #[.string (⟨#[]⟩ : ByteArray), .bool false, .string (⟨#[]⟩ : ByteArray)]) ?_ 0 _ rfl; exact gb_ BK318) hg (Kd.R_away HO_8.out (fun _ hk => hk.2))); have n1_ := Aside0.mk (hb); have n2_ := Aside0.mk (ho); clear BK318; clear HB; clear HO_8; have BK318 := n0_; have HB := n1_; have HO321 := n2_; clear n0_ n1_ n2_; clear ho hb hg hat))
    go_roundg kj9
    case measure => have := HJ2.out; have := HK2.out; have := HJ9.out; omega
    case rel => exact ⟨(wrap64 ((ji13) + 1)), (y319), (wrap64 (x9_2 + 1)), (by first | rfl | (simp; done) | (simp only [← hji13] <;> (first | rfl | simp)) | (simp [*]; done)), (by first | rfl | (simp; done) | (simp [*]; done)), H', ⟨by have := HJ2.out; have := HK2.out; have := HJ9.out; omega⟩, ⟨by (with_reducible repeat (first | apply Kd.R_alloc | apply Kd.R_drewN | apply Kd.R_drew)); exact Kd.R_mono HO321.out (fun _ hk => trivial)⟩, ⟨gwl_ [gb318] HB ⟨GE318, ⟨⟩⟩⟩⟩
  rw [if_neg c17] at H
  have c17b0 : ((bt a0 (ji13)) == 1) = false := beq_eq_false_iff_ne.mpr c17
  have c17b1 : ((bt a0 (ji13)) != 1) = true := bne_iff_ne.mpr c17
  obtain ⟨ji22, hji22⟩ : ∃ j_ : Int, (wrap64 ((ji13) + 1)) = j_ := ⟨_, rfl⟩
  replace H : (if 0 ≤ (ji22) then (if (ji22) ≤ (a0.size : Int) then ((ravelinref3_TakeText.f kj9 (a0.extract ((ji22) : Int).toNat a0.size)).bind fun bt322 => (if bt322.2.2 = 0 then (if x8_2.length < 3518437208883 then (ravelinref12_TakeRow.l0 kj9 a0 t312 (wrap64 ((ji22) + bt322.2.1)) (x8_2 ++ [(⟨t315, false, bt322.1⟩ : S39)]) (wrap64 (x9_2 + 1))) else (none)) else (some (([] : List (S39)), 0, false)))) else (none)) else (none)) = some (r1, r2, r3) := by first | (rw [hji22] at H; exact H) | (simp only [hji22] at H ⊢; exact H)
  have hji22w : (IntKind.i64.wrap ((ji13) + 1)) = ji22 := (i64_w _).trans hji22
  by_cases c23 : 0 ≤ (ji22)
  rotate_left
  · rw [if_neg c23] at H
    exact absurd H (by simp)
  rw [if_pos c23] at H
  have c23b0 := eq_true c23
  have c23b1 : decide (0 ≤ (ji22)) = true := decide_eq_true c23
  clear c23
  by_cases c24 : (ji22) ≤ (a0.size : Int)
  rotate_left
  · rw [if_neg c24] at H
    exact absurd H (by simp)
  rw [if_pos c24] at H
  have c24b0 := eq_true c24
  have c24b1 : decide ((ji22) ≤ (a0.size : Int)) = true := decide_eq_true c24
  clear c24
  replace H := Option.bind_eq_some_iff.mp H
  obtain ⟨⟨t322, t323, t324⟩, A250, H⟩ := H
  try dsimp only at H
  have A25 := Aside0.mk A250
  clear A250
  by_cases c26 : t324 = 0
  rotate_left
  · rw [if_neg c26] at H
    have c26b0 : (t324 == 0) = false := beq_eq_false_iff_ne.mpr c26
    have c26b1 : (t324 != 0) = true := bne_iff_ne.mpr c26
    simp only [Option.some.injEq, Prod.mk.injEq] at H
    obtain ⟨rfl, rfl, rfl⟩ := H
    have p16 : 0 ≤ ((ji13) : Int) := of_decide_eq_true (by assumption)
    have q16 : (ji13) < (a0.size : Int) := of_decide_eq_true (by assumption)
    have hx16 := bt_at a0 (ji13)
    replace p16 := eq_true p16
    replace q16 := eq_true q16
    go_wp2_with (first | ((with_reducible refine gate_dst (N := 13) rfl ?_); (try (refine gate_guard (by rfl) ?_; dsimp only)); refine box_event ?hg (N := 13) ?hd (cs := #[.string (⟨#[]⟩ : ByteArray), .bool false, .string (⟨#[]⟩ : ByteArray)]) (t := 39) ?hr ?_; (case hd => rfl); (case hg => rfl); (case hr => first | (go_simp; done) | (go_simp; rfl)); intro gb318 hg w31 hbox hb; have n0_ := Aside0.mk (Kd.R_below (Kd.R_elderB (by (with_reducible repeat (first | apply Kd.R_alloc | apply Kd.R_drewN | apply Kd.R_drew)); exact HO_8.out) gb318 (Nat.le_of_eq hg.symm)) hb); have n1_ := bs_ HB hb; have n2_ := Aside0.mk (hbox); have n3_ := gz_ HB hg; have n4_ := gz_ HB hg; clear HO_8; clear HB; have HO_8 := n0_; have HB := n1_; have BK318 := n2_; have GW318 := n3_; have GE318 := n4_; clear n0_ n1_ n2_ n3_ n4_; clear hb hbox hg; (try (have hcq318_0 : ∀ v0_ v1_ v2_, (((w31.setCell ⟨gb318, 0, none⟩ v0_).setCell ⟨gb318, 1, none⟩ v1_).setCell ⟨gb318, 2, none⟩ v2_).cell? ⟨gb318, 0, none⟩ = some v0_ := (by intro v0_ v1_ v2_; have z0_ : w31.cell? ⟨gb318, 0, none⟩ = some (.string (⟨#[]⟩ : ByteArray)) := bc0 BK318; have z1_ : w31.cell? ⟨gb318, 1, none⟩ = some (.bool false) := bc1 BK318; have z2_ : w31.cell? ⟨gb318, 2, none⟩ = some (.string (⟨#[]⟩ : ByteArray)) := bc2 BK318; go_simp))); (try (have hcq318_1 : ∀ v0_ v1_ v2_, (((w31.setCell ⟨gb318, 0, none⟩ v0_).setCell ⟨gb318, 1, none⟩ v1_).setCell ⟨gb318, 2, none⟩ v2_).cell? ⟨gb318, 1, none⟩ = some v1_ := (by intro v0_ v1_ v2_; have z0_ : w31.cell? ⟨gb318, 0, none⟩ = some (.string (⟨#[]⟩ : ByteArray)) := bc0 BK318; have z1_ : w31.cell? ⟨gb318, 1, none⟩ = some (.bool false) := bc1 BK318; have z2_ : w31.cell? ⟨gb318, 2, none⟩ = some (.string (⟨#[]⟩ : ByteArray)) := bc2 BK318; go_simp))); (try (have hcq318_2 : ∀ v0_ v1_ v2_, (((w31.setCell ⟨gb318, 0, none⟩ v0_).setCell ⟨gb318, 1, none⟩ v1_).setCell ⟨gb318, 2, none⟩ v2_).cell? ⟨gb318, 2, none⟩ = some v2_ := (by intro v0_ v1_ v2_; have z0_ : w31.cell? ⟨gb318, 0, none⟩ = some (.string (⟨#[]⟩ : ByteArray)) := bc0 BK318; have z1_ : w31.cell? ⟨gb318, 1, none⟩ = some (.bool false) := bc1 BK318; have z2_ : w31.cell? ⟨gb318, 2, none⟩ = some (.string (⟨#[]⟩ : ByteArray)) := bc2 BK318; go_simp))); have hcz32_0 := bc0 BK318; have hcz32_1 := bc1 BK318; have hcz32_2 := bc2 BK318; have hfz32_0 := bf_ BK318 0; have hfz32_1 := bf_ BK318 1; have hfz32_2 := bf_ BK318 2) | ((with_reducible refine gate_callee (f := 45) rfl ?_); refine goesL_ (some 71) rfl rfl Try.func45 (by kernel_rfl) rfl #[.string (a0.extract ((ji22) : Int).toNat a0.size)] rfl (by (try simp only [List.map_toArray, List.map_cons, List.map_nil]); first | done | (simp only [hji22]; rfl) | rfl | (simp only [List.length_drop, List.length_take]; rfl)) ?_; (with_reducible refine (ravelinref3_TakeText.calls kj9 (a0.extract ((ji22) : Int).toNat a0.size) t322 t323 t324 _ A25.out).mono ?_); rintro e w' ⟨rfl, ⟨nd, rfl⟩⟩; refine ⟨_, rfl, ?_⟩))
    go_ret3
    exact ⟨_, by first | rfl | (simp [errW_none, errW_some] <;> rfl) | (simp only [← hji13, ← hji22]; first | rfl | (simp [errW_none, errW_some] <;> rfl)) | (simp [*, errW_none, errW_some] <;> rfl), by first | exact Kd.R_nil _ _ _ _ _ | exact Kd.N_nil _ _ _ _ _ | exact Kd.V_nil _ _ _ _ _ | exact Kd.Q_nil _ _ _ _ _ | exact Kd.S_nil _ _ _ _ _, gwl_ [gb318] HB ⟨GE318, ⟨⟩⟩⟩
  rw [if_pos c26] at H
  have c26b0 : (t324 == 0) = true := beq_iff_eq.mpr c26
  have c26b1 : (t324 != 0) = false := bne_eq_false_iff_eq.mpr c26
  clear c26
  by_cases c27 : x8_2.length < 3518437208883
  rotate_left
  · rw [if_neg c27] at H
    exact absurd H (by simp)
  rw [if_pos c27] at H
  have LMc27 := Aside0.mk c27
  clear c27
  obtain ⟨y325, hy325⟩ : ∃ y_ : List (S39), y_ = (x8_2 ++ [(⟨t315, false, t322⟩ : S39)]) := ⟨_, rfl⟩
  replace H : (ravelinref12_TakeRow.l0 kj9 a0 t312 (wrap64 ((ji22) + t323)) y325 (wrap64 (x9_2 + 1))) = some (r1, r2, r3) := by first | (rw [hy325]; with_reducible exact H) | (have H2_ := (Option.bind_some _ _).symm.trans H; rw [hy325]; with_reducible exact H2_) | (have H2_ := (Option.bind_some _ _).symm.trans H; with_reducible exact H2_) | with_reducible exact H | (rw [hy325]; exact H) | exact H
  have Ny325 := Aside0.mk hy325
  clear hy325
  have H' := Aside0.mk H
  clear H
  have p16 : 0 ≤ ((ji13) : Int) := of_decide_eq_true (by assumption)
  have q16 : (ji13) < (a0.size : Int) := of_decide_eq_true (by assumption)
  have hx16 := bt_at a0 (ji13)
  replace p16 := eq_true p16
  replace q16 := eq_true q16
  go_wp2_with (first | ((with_reducible refine gate_dst (N := 13) rfl ?_); (try (refine gate_guard (by rfl) ?_; dsimp only)); refine box_event ?hg (N := 13) ?hd (cs := #[.string (⟨#[]⟩ : ByteArray), .bool false, .string (⟨#[]⟩ : ByteArray)]) (t := 39) ?hr ?_; (case hd => rfl); (case hg => rfl); (case hr => first | (go_simp; done) | (go_simp; rfl)); intro gb318 hg w28 hbox hb; have n0_ := Aside0.mk (Kd.R_below (Kd.R_elderB (by (with_reducible repeat (first | apply Kd.R_alloc | apply Kd.R_drewN | apply Kd.R_drew)); exact HO_8.out) gb318 (Nat.le_of_eq hg.symm)) hb); have n1_ := bs_ HB hb; have n2_ := Aside0.mk (hbox); have n3_ := gz_ HB hg; have n4_ := gz_ HB hg; clear HO_8; clear HB; have HO_8 := n0_; have HB := n1_; have BK318 := n2_; have GW318 := n3_; have GE318 := n4_; clear n0_ n1_ n2_ n3_ n4_; clear hb hbox hg; (try (have hcq318_0 : ∀ v0_ v1_ v2_, (((w28.setCell ⟨gb318, 0, none⟩ v0_).setCell ⟨gb318, 1, none⟩ v1_).setCell ⟨gb318, 2, none⟩ v2_).cell? ⟨gb318, 0, none⟩ = some v0_ := (by intro v0_ v1_ v2_; have z0_ : w28.cell? ⟨gb318, 0, none⟩ = some (.string (⟨#[]⟩ : ByteArray)) := bc0 BK318; have z1_ : w28.cell? ⟨gb318, 1, none⟩ = some (.bool false) := bc1 BK318; have z2_ : w28.cell? ⟨gb318, 2, none⟩ = some (.string (⟨#[]⟩ : ByteArray)) := bc2 BK318; go_simp))); (try (have hcq318_1 : ∀ v0_ v1_ v2_, (((w28.setCell ⟨gb318, 0, none⟩ v0_).setCell ⟨gb318, 1, none⟩ v1_).setCell ⟨gb318, 2, none⟩ v2_).cell? ⟨gb318, 1, none⟩ = some v1_ := (by intro v0_ v1_ v2_; have z0_ : w28.cell? ⟨gb318, 0, none⟩ = some (.string (⟨#[]⟩ : ByteArray)) := bc0 BK318; have z1_ : w28.cell? ⟨gb318, 1, none⟩ = some (.bool false) := bc1 BK318; have z2_ : w28.cell? ⟨gb318, 2, none⟩ = some (.string (⟨#[]⟩ : ByteArray)) := bc2 BK318; go_simp))); (try (have hcq318_2 : ∀ v0_ v1_ v2_, (((w28.setCell ⟨gb318, 0, none⟩ v0_).setCell ⟨gb318, 1, none⟩ v1_).setCell ⟨gb318, 2, none⟩ v2_).cell? ⟨gb318, 2, none⟩ = some v2_ := (by intro v0_ v1_ v2_; have z0_ : w28.cell? ⟨gb318, 0, none⟩ = some (.string (⟨#[]⟩ : ByteArray)) := bc0 BK318; have z1_ : w28.cell? ⟨gb318, 1, none⟩ = some (.bool false) := bc1 BK318; have z2_ : w28.cell? ⟨gb318, 2, none⟩ = some (.string (⟨#[]⟩ : ByteArray)) := bc2 BK318; go_simp))); have hcz29_0 := bc0 BK318; have hcz29_1 := bc1 BK318; have hcz29_2 := bc2 BK318; have hfz29_0 := bf_ BK318 0; have hfz29_1 := bf_ BK318 1; have hfz29_2 := bf_ BK318 2) | ((with_reducible refine gate_callee (f := 45) rfl ?_); refine goesL_ (some 71) rfl rfl Try.func45 (by kernel_rfl) rfl #[.string (a0.extract ((ji22) : Int).toNat a0.size)] rfl (by (try simp only [List.map_toArray, List.map_cons, List.map_nil]); first | done | (simp only [hji22]; rfl) | rfl | (simp only [List.length_drop, List.length_take]; rfl)) ?_; (with_reducible refine (ravelinref3_TakeText.calls kj9 (a0.extract ((ji22) : Int).toNat a0.size) t322 t323 t324 _ A25.out).mono ?_); rintro e w' ⟨rfl, ⟨nd, rfl⟩⟩; refine ⟨_, rfl, ?_⟩) | ((with_reducible refine gate_builtin (b := .append) (xs := #[.tmp 82, .tmp 84]) rfl ?_); (try (refine gate_guard (by rfl) ?_; dsimp only)); at_builtin; refine Kd.R_append k39 (w0 := w) w.heap.size rfl (.tmp 82) (.tmp 84) 22 39 (.agg #[(.string ⟨#[]⟩), (.bool false), (.string ⟨#[]⟩)]) 40 rfl Try.underlying22 info39 rfl (by decide) (by omega) u8 x8_2 (⟨t315, false, t322⟩ : S39) [.string t315, .bool false, .string t322] (fun k_ => k_ ≠ gb318) (fun _ => False) rfl (by first | (go_simp; done) | (go_simp; rfl)) ?aP (fun _ hk => hk.elim) ?aF ?aO ?aB ?aS ?aL ?_; (case aP => exact k39_mkM _ _ _ (⟨t315, false, t322⟩ : S39)); (case aB => exact (gwl_ [gb318] HB ⟨GE318, ⟨⟩⟩)); (case aF => exact (fun k_ hk => Kd.freshB (g := gb318) (o := .cells #[.string t315, .bool false, .string t322] 39 (0, 0)) (by (with_reducible repeat (first | refine blk_drewN ?_ _ | refine blk_drew ?_ | refine blk_alloc ?_ _)); refine blk_put (cs := #[.string t315, .bool false, .string (⟨#[]⟩ : ByteArray)]) ?_ 2 _ rfl; refine blk_put (cs := #[.string t315, .bool false, .string (⟨#[]⟩ : ByteArray)]) ?_ 2 _ rfl; refine blk_put (cs := #[.string t315, .bool false, .string (⟨#[]⟩ : ByteArray)]) ?_ 1 _ rfl; refine blk_put (cs := #[.string (⟨#[]⟩ : ByteArray), .bool false, .string (⟨#[]⟩ : ByteArray)]) ?_ 0 _ rfl; exact gb_ BK318) k_ hk)); (case aO => exact (by (with_reducible repeat (first | apply Kd.R_alloc | apply Kd.R_drewN | apply Kd.R_drew)); exact Kd.R_mono (Kd.R_far (p := ⟨gb318, 2, none⟩) (Kd.R_far (p := ⟨gb318, 2, none⟩) (Kd.R_far (p := ⟨gb318, 1, none⟩) (Kd.R_far (p := ⟨gb318, 0, none⟩) (Kd.R_mono HO_8.out (fun k_ hk => (⟨hk, hk.2⟩ : _ ∧ k_ ≠ gb318))) (fun _ hk => hk.2) (.string t315)) (fun _ hk => hk.2) (.bool false)) (fun _ hk => hk.2) (.string (⟨#[]⟩ : ByteArray))) (fun _ hk => hk.2) (.string t322)) (fun _ hk => hk.1.2))); (case aS => exact (below_size (gwl_ [gb318] HB ⟨GE318, ⟨⟩⟩))); (case aL => have := LMc27.out; omega); intro v326 w30 ho hb hg hat; rw [← Ny325.out] at ho; have n0_ := Aside0.mk (blk_grown (g := gb318) (o := .cells #[.string t315, .bool false, .string t322] 39 (0, 0)) (by (with_reducible repeat (first | refine blk_drewN ?_ _ | refine blk_drew ?_ | refine blk_alloc ?_ _)); refine blk_put (cs := #[.string t315, .bool false, .string (⟨#[]⟩ : ByteArray)]) ?_ 2 _ rfl; refine blk_put (cs := #[.string t315, .bool false, .string (⟨#[]⟩ : ByteArray)]) ?_ 2 _ rfl; refine blk_put (cs := #[.string t315, .bool false, .string (⟨#[]⟩ : ByteArray)]) ?_ 1 _ rfl; refine blk_put (cs := #[.string (⟨#[]⟩ : ByteArray), .bool false, .string (⟨#[]⟩ : ByteArray)]) ?_ 0 _ rfl; exact gb_ BK318) hg (Kd.R_away HO_8.out (fun _ hk => hk.2))); have n1_ := Aside0.mk (hb); have n2_ := Aside0.mk (ho); clear BK318; clear HB; clear HO_8; have BK318 := n0_; have HB := n1_; have HO327 := n2_; clear n0_ n1_ n2_; clear ho hb hg hat))
  go_roundg kj9
  case measure => have := HJ2.out; have := HK2.out; have := HJ9.out; omega
  case rel => exact ⟨(wrap64 ((ji22) + t323)), (y325), (wrap64 (x9_2 + 1)), (by first | rfl | (simp; done) | (simp only [← hji22] <;> (first | rfl | simp)) | (simp [*]; done)), (by first | rfl | (simp; done) | (simp [*]; done)), H', ⟨by have := HJ2.out; have := HK2.out; have := HJ9.out; omega⟩, ⟨by (with_reducible repeat (first | apply Kd.R_alloc | apply Kd.R_drewN | apply Kd.R_drew)); exact Kd.R_mono HO327.out (fun _ hk => trivial)⟩, ⟨gwl_ [gb318] HB ⟨GE318, ⟨⟩⟩⟩⟩

end Go.Proofs.Ytkmbgihfdfgmgaa.P
