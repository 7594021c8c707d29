-- Printed by a changed copy of the kit's printer (wip/tools/ext.py); labels and more
import Derived.Test.YtjcpdbekdimceaaM0
import Derived.Test.YtjcpdbekdimceaaM7
namespace Go.Proofs.Ytjcpdbekdimceaa.P
open Go.RowKit Go.Proofs.YtjcpdbekdimceaaW.PrintWords Go.Proofs.YtjcpdbekdimceaaW.PrintLast Go.Proofs.YtjcpdbekdimceaaW.PrintMore
attribute [local go_sem] max2_int min2_int max_two min_two max_three min_three max_four min_four   -- for this text's walks alone
attribute [local go_sem high] string_leq string_geq string_gtr
set_option linter.unusedVariables false
set_option linter.unusedSimpArgs false

/-! ### ravelinref6_Visible: function 15 -/
mutual
def ravelinref6_Visible.l0 : Nat → List (S39) → Int → List (S39) → Int → Option ((List (S39)))
  | 0, _, _, _, _ => none
  | k + 1, x0, x1, x5, x6 => if x6 < (x0.length : Int) then ((ravelinref6_Sorted.f k x0).bind fun t214 => (ravelinref6_Visible.j1 k x0 x1 x5 x6 t214)) else (ravelinref6_Visible.j1 k x0 x1 x5 x6 false)
def ravelinref6_Visible.j1 : Nat → List (S39) → Int → List (S39) → Int → Bool → Option ((List (S39)))
  | 0, _, _, _, _, _ => none
  | k + 1, x0, x1, x5, x6, x15 => if x15 = true then (if 0 ≤ x6 then (if x6 < (x0.length : Int) then (if ((rd_T39 x0 x6).f1) ≤ x1 then (if x6 = 0 then (if ((rd_T39 x0 x6).f2 = true) then (ravelinref6_Visible.l0 k x0 x1 x5 (wrap64 (x6 + 1))) else (if x5.length < 2932031007402 then (ravelinref6_Visible.l0 k x0 x1 (x5 ++ [(⟨(rd_T39 x0 x6).f0, (rd_T39 x0 x6).f1, (rd_T39 x0 x6).f2, (rd_T39 x0 x6).f3⟩ : S39)]) (wrap64 (x6 + 1))) else (none))) else (if 0 ≤ (wrap64 (x6 - 1)) then (if (wrap64 (x6 - 1)) < (x0.length : Int) then (if ((rd_T39 x0 (wrap64 (x6 - 1))).f0).toList = ((rd_T39 x0 x6).f0).toList then (if ((rd_T39 x0 (wrap64 (x6 - 1))).f1) > x1 then (if ((rd_T39 x0 x6).f2 = true) then (ravelinref6_Visible.l0 k x0 x1 x5 (wrap64 (x6 + 1))) else (if x5.length < 2932031007402 then (ravelinref6_Visible.l0 k x0 x1 (x5 ++ [(⟨(rd_T39 x0 x6).f0, (rd_T39 x0 x6).f1, (rd_T39 x0 x6).f2, (rd_T39 x0 x6).f3⟩ : S39)]) (wrap64 (x6 + 1))) else (none))) else (ravelinref6_Visible.l0 k x0 x1 x5 (wrap64 (x6 + 1)))) else (if ((rd_T39 x0 x6).f2 = true) then (ravelinref6_Visible.l0 k x0 x1 x5 (wrap64 (x6 + 1))) else (if x5.length < 2932031007402 then (ravelinref6_Visible.l0 k x0 x1 (x5 ++ [(⟨(rd_T39 x0 x6).f0, (rd_T39 x0 x6).f1, (rd_T39 x0 x6).f2, (rd_T39 x0 x6).f3⟩ : S39)]) (wrap64 (x6 + 1))) else (none)))) else (none)) else (none))) else (ravelinref6_Visible.l0 k x0 x1 x5 (wrap64 (x6 + 1)))) else (none)) else (none)) else (some x5)
end
def ravelinref6_Visible.f (k : Nat) (l0 : List (S39)) (a1 : Int) : Option ((List (S39))) := ravelinref6_Visible.l0 k l0 a1 ([] : List (S39)) 0
theorem ravelinref6_Visible.mono_l : ∀ k, (∀ y0 y1 y2 y3, LeO (ravelinref6_Visible.l0 k y0 y1 y2 y3) (ravelinref6_Visible.l0 (k + 1) y0 y1 y2 y3)) ∧ (∀ y0 y1 y2 y3 y4, LeO (ravelinref6_Visible.j1 k y0 y1 y2 y3 y4) (ravelinref6_Visible.j1 (k + 1) y0 y1 y2 y3 y4))
  | 0 => ⟨fun _ _ _ _ r h => by simp [ravelinref6_Visible.l0] at h, fun _ _ _ _ _ r h => by simp [ravelinref6_Visible.j1] at h⟩
  | k + 1 => by
    obtain ⟨ih0, ih1⟩ := ravelinref6_Visible.mono_l k
    refine ⟨?_, ?_⟩
    all_goals
      intros
      first | unfold ravelinref6_Visible.l0 | unfold ravelinref6_Visible.j1
      repeat' first
      | (with_reducible exact ih0 _ _ _ _)
      | (with_reducible exact ih1 _ _ _ _ _)
      | (with_reducible exact ravelinref6_Sorted.mono _ _)
      | (with_reducible exact LeO.refl _)
      | (with_reducible exact LeO.none _)
      | (with_reducible refine LeO.ite ?_ ?_)
      | (with_reducible refine LeO.bind ?_ (fun _ => ?_))
      | exact ih0 _ _ _ _
      | exact ih1 _ _ _ _ _
      | exact ravelinref6_Sorted.mono _ _
      | exact LeO.none _
      | refine LeO.ite ?_ ?_
      | refine LeO.bind ?_ (fun _ => ?_)
theorem ravelinref6_Visible.mono : ∀ a0 a1 k, LeO (ravelinref6_Visible.f k a0 a1) (ravelinref6_Visible.f (k + 1) a0 a1) := by
  intro a0 a1 k
  obtain ⟨ih0, ih1⟩ := ravelinref6_Visible.mono_l k
  unfold ravelinref6_Visible.f
  repeat' first
      | (with_reducible exact ih0 _ _ _ _)
      | (with_reducible exact ih1 _ _ _ _ _)
      | (with_reducible exact ravelinref6_Sorted.mono _ _)
      | (with_reducible exact LeO.refl _)
      | (with_reducible exact LeO.none _)
      | (with_reducible refine LeO.ite ?_ ?_)
      | (with_reducible refine LeO.bind ?_ (fun _ => ?_))
      | exact ih0 _ _ _ _
      | exact ih1 _ _ _ _ _
      | exact ravelinref6_Sorted.mono _ _
      | exact LeO.none _
      | refine LeO.ite ?_ ?_
      | refine LeO.bind ?_ (fun _ => ?_)
set_option maxHeartbeats 8000000 in
set_option maxRecDepth 100000 in
theorem ravelinref6_Visible.calls (k : Nat) (A0 : Option Addr) (c0 : Nat) (l0 : List (S39)) (a1 : Int) (r : List (S39)) (w : World) (hr0 : Kd.C k39 w A0 l0.length l0) (hc0 : l0.length ≤ c0) (h : ravelinref6_Visible.f k l0 a1 = some r) :
    Calls Try.prog 15 #[.slice A0 l0.length c0, .int .i64 a1] w fun e w' => ∃ v0_ : Value, e = .returned (v0_) ∧ Kd.R k39 39 w' w.heap.size (fun _ => True) v0_ r ∧ Below w.heap.size w w' := by
  have hu39 := Try.underlying39
  have HR0 := Aside0.mk hr0
  have HC0 := Aside0.mk hc0
  clear hr0 hc0
  have HB := Aside0.mk (Below.refl w.heap.size w)
  have H : (ravelinref6_Visible.l0 k l0 a1 ([] : List (S39)) 0) = some r := h
  clear h
  have H' := Aside0.mk H
  clear H
  go_enter Try.func15, Try.ntmps15
  go_wp2
  repeat (go_quiet (fail); try go_wp2)
  go_loopg [5, 6] k (fun kq v5 v6 w' => ∃ (x5_1 : List (S39)) (x6_1 : Int), v6 = .int .i64 x6_1 ∧ Aside0 (ravelinref6_Visible.l0 kq l0 a1 x5_1 x6_1 = some r) ∧ Aside0 (kq ≤ k) ∧ Aside0 (Kd.R k39 39 w' w.heap.size (fun _ => True) v5 x5_1) ∧ Aside0 (Below w.heap.size w w'))
  case atStart => exact ⟨(([] : List (S39))), (0), (by first | rfl | (simp; done) | (simp [*]; done)), H', ⟨Nat.le_refl _⟩, ⟨by first | exact Kd.R_nil _ _ _ _ _ | exact Kd.N_nil _ _ _ _ _ | exact Kd.V_nil _ _ _ _ _ | exact Kd.Q_nil _ _ _ _ _ | exact Kd.S_nil _ _ _ _ _⟩, ⟨by repeat (first | (with_reducible first | exact HB.out | apply below_alloc | apply pw_below_drewN | apply below_drew1) | exact HB.out)⟩⟩
  clear H'
  try clear c1
  try clear p2
  obtain ⟨x5_1, x6_1, rfl, HA, HK1, HO_5, HB⟩ := hrel
  cases gk with
  | zero => exact absurd HA.out (by simp [ravelinref6_Visible.l0])
  | succ k1 => ?_
  have H := HA.out
  clear HA
  simp only [ravelinref6_Visible.l0] at H
  have HC3 := Aside0.mk H
  clear H
  go_upto_region 3 with (fail)
  repeat (go_quiet (fail); go_upto_region 3 with (fail))
  go_cut [15] (fun v15 wc => ∃ (kq : Nat) (x15_2 : Bool), v15 = .bool x15_2 ∧ Aside0 (ravelinref6_Visible.j1 kq l0 a1 x5_1 x6_1 x15_2 = some r) ∧ Aside0 (kq ≤ k1) ∧ Aside0 (Kd.R k39 39 wc w.heap.size (fun _ => True) u5 x5_1) ∧ Aside0 (Below w.heap.size w wc))
  case first =>
    have H := HC3.out
    clear HC3
    by_cases c4 : x6_1 < (l0.length : Int)
    rotate_left
    · rw [if_neg c4] at H
      have c4b0 : decide (x6_1 < (l0.length : Int)) = false := decide_eq_false c4
      clear c4
      (first | rw [c4b0] | (simp only [i64_w, i32_w]; rw [c4b0]) | skip)
      have H' := Aside0.mk H
      clear H
      go_wp2
      repeat (go_quiet (fail); try go_wp2)
      go_meet
      case rel => exact ⟨_, (false), (by first | rfl | (simp; done) | (simp [*]; done)), H', ⟨by have := HK1.out; first | omega | exact Nat.le_refl _⟩, ⟨by (with_reducible repeat (first | apply Kd.R_alloc | apply Kd.R_drewN | apply Kd.R_drew)); exact HO_5.out⟩, ⟨by repeat (first | (with_reducible first | exact HB.out | apply below_alloc | apply pw_below_drewN | apply below_drew1) | exact HB.out)⟩⟩
    rw [if_pos c4] at H
    have c4b0 : decide (x6_1 < (l0.length : Int)) = true := decide_eq_true c4
    clear c4
    (first | rw [c4b0] | (simp only [i64_w, i32_w]; rw [c4b0]) | skip)
    replace H := Option.bind_eq_some_iff.mp H
    obtain ⟨t214, A50, H⟩ := H
    replace H : (ravelinref6_Visible.j1 k1 l0 a1 x5_1 x6_1 t214) = some r := H
    have A5 := Aside0.mk A50
    clear A50
    have H' := Aside0.mk H
    clear H
    go_wp2_with (first | (go_at_call 18; (with_reducible refine (ravelinref6_Sorted.calls k1 _ _ l0 t214 _ ?side1 ?side2 A5.out).mono ?_); (case side1 => repeat (first | exact (Kd.C_below HR0.out HB.out) | (with_reducible refine Kd.C_alloc ?_ _) | (with_reducible refine Kd.C_drewN ?_ _) | (with_reducible refine Kd.C_drew ?_))); (case side2 => exact HC0.out); rintro e w6 ⟨rfl, hb⟩; have n0_ := Aside0.mk (Kd.R_below (by (with_reducible repeat (first | apply Kd.R_alloc | apply Kd.R_drewN | apply Kd.R_drew)); exact HO_5.out) hb); have n1_ := Aside0.mk (below_step (by repeat (first | (with_reducible first | exact HB.out | apply below_alloc | apply pw_below_drewN | apply below_drew1) | exact HB.out)) hb); clear HO_5; clear HB; have HO_5 := n0_; have HB := n1_; clear n0_ n1_; (try clear hb); (try clear hb2); (try clear hk); (try clear hi)))
    repeat (go_quiet (first | (go_at_call 18; (with_reducible refine (ravelinref6_Sorted.calls k1 _ _ l0 t214 _ ?side1 ?side2 A5.out).mono ?_); (case side1 => repeat (first | exact (Kd.C_below HR0.out HB.out) | (with_reducible refine Kd.C_alloc ?_ _) | (with_reducible refine Kd.C_drewN ?_ _) | (with_reducible refine Kd.C_drew ?_))); (case side2 => exact HC0.out); rintro e w6 ⟨rfl, hb⟩; have n0_ := Aside0.mk (Kd.R_below (by (with_reducible repeat (first | apply Kd.R_alloc | apply Kd.R_drewN | apply Kd.R_drew)); exact HO_5.out) hb); have n1_ := Aside0.mk (below_step (by repeat (first | (with_reducible first | exact HB.out | apply below_alloc | apply pw_below_drewN | apply below_drew1) | exact HB.out)) hb); clear HO_5; clear HB; have HO_5 := n0_; have HB := n1_; clear n0_ n1_; (try clear hb); (try clear hb2); (try clear hk); (try clear hi))); try go_wp2_with (first | (go_at_call 18; (with_reducible refine (ravelinref6_Sorted.calls k1 _ _ l0 t214 _ ?side1 ?side2 A5.out).mono ?_); (case side1 => repeat (first | exact (Kd.C_below HR0.out HB.out) | (with_reducible refine Kd.C_alloc ?_ _) | (with_reducible refine Kd.C_drewN ?_ _) | (with_reducible refine Kd.C_drew ?_))); (case side2 => exact HC0.out); rintro e w6 ⟨rfl, hb⟩; have n0_ := Aside0.mk (Kd.R_below (by (with_reducible repeat (first | apply Kd.R_alloc | apply Kd.R_drewN | apply Kd.R_drew)); exact HO_5.out) hb); have n1_ := Aside0.mk (below_step (by repeat (first | (with_reducible first | exact HB.out | apply below_alloc | apply pw_below_drewN | apply below_drew1) | exact HB.out)) hb); clear HO_5; clear HB; have HO_5 := n0_; have HB := n1_; clear n0_ n1_; (try clear hb); (try clear hb2); (try clear hk); (try clear hi))))
    go_meet
    case rel => exact ⟨_, (t214), (by first | rfl | (simp; done) | (simp [*]; done)), H', ⟨by have := HK1.out; first | omega | exact Nat.le_refl _⟩, ⟨by (with_reducible repeat (first | apply Kd.R_alloc | apply Kd.R_drewN | apply Kd.R_drew)); exact HO_5.out⟩, ⟨by repeat (first | (with_reducible first | exact HB.out | apply below_alloc | apply pw_below_drewN | apply below_drew1) | exact HB.out)⟩⟩
  clear HC3
  try clear c1
  try clear p2
  try clear c4
  try clear c4b0
  try clear p2
  obtain ⟨kq, x15_2, rfl, HA, HJ2, HO_5, HB⟩ := hcut
  cases kq with
  | zero => exact absurd HA.out (by simp [ravelinref6_Visible.j1])
  | succ kj2 => ?_
  have H := HA.out
  clear HA
  simp only [ravelinref6_Visible.j1] at H
  by_cases c7 : x15_2 = true
  rotate_left
  · replace c7 := Bool.eq_false_iff.mpr c7
    subst c7
    have H1 : (some x5_1) = some r := by rw [if_neg (show ¬ (false = true) by decide)] at H; exact H
    clear H
    have H := H1
    clear H1
    obtain rfl := Option.some.inj H
    go_wp2
    repeat (go_quiet (fail); try go_wp2)
    go_ret
    exact ⟨_, by first | rfl | (simp [errW_none, errW_some] <;> rfl) | (simp [*, errW_none, errW_some] <;> rfl), by (with_reducible repeat (first | apply Kd.R_alloc | apply Kd.R_drewN | apply Kd.R_drew)); exact HO_5.out, by repeat (first | (with_reducible first | exact HB.out | apply below_alloc | apply pw_below_drewN | apply below_drew1) | exact HB.out)⟩
  subst c7
  have H1 : (if 0 ≤ x6_1 then (if x6_1 < (l0.length : Int) then (if ((rd_T39 l0 x6_1).f1) ≤ a1 then (if x6_1 = 0 then (if ((rd_T39 l0 x6_1).f2 = true) then (ravelinref6_Visible.l0 kj2 l0 a1 x5_1 (wrap64 (x6_1 + 1))) else (if x5_1.length < 2932031007402 then (ravelinref6_Visible.l0 kj2 l0 a1 (x5_1 ++ [(⟨(rd_T39 l0 x6_1).f0, (rd_T39 l0 x6_1).f1, (rd_T39 l0 x6_1).f2, (rd_T39 l0 x6_1).f3⟩ : S39)]) (wrap64 (x6_1 + 1))) else (none))) else (if 0 ≤ (wrap64 (x6_1 - 1)) then (if (wrap64 (x6_1 - 1)) < (l0.length : Int) then (if ((rd_T39 l0 (wrap64 (x6_1 - 1))).f0).toList = ((rd_T39 l0 x6_1).f0).toList then (if ((rd_T39 l0 (wrap64 (x6_1 - 1))).f1) > a1 then (if ((rd_T39 l0 x6_1).f2 = true) then (ravelinref6_Visible.l0 kj2 l0 a1 x5_1 (wrap64 (x6_1 + 1))) else (if x5_1.length < 2932031007402 then (ravelinref6_Visible.l0 kj2 l0 a1 (x5_1 ++ [(⟨(rd_T39 l0 x6_1).f0, (rd_T39 l0 x6_1).f1, (rd_T39 l0 x6_1).f2, (rd_T39 l0 x6_1).f3⟩ : S39)]) (wrap64 (x6_1 + 1))) else (none))) else (ravelinref6_Visible.l0 kj2 l0 a1 x5_1 (wrap64 (x6_1 + 1)))) else (if ((rd_T39 l0 x6_1).f2 = true) then (ravelinref6_Visible.l0 kj2 l0 a1 x5_1 (wrap64 (x6_1 + 1))) else (if x5_1.length < 2932031007402 then (ravelinref6_Visible.l0 kj2 l0 a1 (x5_1 ++ [(⟨(rd_T39 l0 x6_1).f0, (rd_T39 l0 x6_1).f1, (rd_T39 l0 x6_1).f2, (rd_T39 l0 x6_1).f3⟩ : S39)]) (wrap64 (x6_1 + 1))) else (none)))) else (none)) else (none))) else (ravelinref6_Visible.l0 kj2 l0 a1 x5_1 (wrap64 (x6_1 + 1)))) else (none)) else (none)) = some r := by rw [if_pos rfl] at H; exact H
  clear H
  have H := H1
  clear H1
  by_cases c8 : 0 ≤ x6_1
  rotate_left
  · rw [if_neg c8] at H
    exact absurd H (by simp)
  rw [if_pos c8] at H
  have c8b0 : decide (0 ≤ x6_1) = true := decide_eq_true c8
  clear c8
  by_cases c9 : x6_1 < (l0.length : Int)
  rotate_left
  · rw [if_neg c9] at H
    exact absurd H (by simp)
  rw [if_pos c9] at H
  have c9b0 : decide (x6_1 < (l0.length : Int)) = true := decide_eq_true c9
  clear c9
  by_cases c10 : ((rd_T39 l0 x6_1).f1) ≤ a1
  rotate_left
  · rw [if_neg c10] at H
    have c10b0 : decide (((rd_T39 l0 x6_1).f1) ≤ a1) = false := decide_eq_false c10
    clear c10
    have H' := Aside0.mk H
    clear H
    have p215 : 0 ≤ (x6_1 : Int) := of_decide_eq_true (by first | (with_reducible assumption) | assumption)
    have q215 : x6_1 < (l0.length : Int) := of_decide_eq_true (by first | (with_reducible assumption) | assumption)
    obtain ⟨ad215, e215, hx215_0, hx215_1, hx215_2, hx215_3⟩ := at_T39 HR0.out x6_1 p215 q215
    cases e215
    replace hx215_0 := (HB.out.cell (World.block_lt_of_cell? w _ hx215_0)).trans hx215_0
    replace hx215_1 := (HB.out.cell (World.block_lt_of_cell? w _ hx215_1)).trans hx215_1
    replace hx215_2 := (HB.out.cell (World.block_lt_of_cell? w _ hx215_2)).trans hx215_2
    replace hx215_3 := (HB.out.cell (World.block_lt_of_cell? w _ hx215_3)).trans hx215_3
    replace p215 := eq_true p215
    replace q215 := eq_true q215
    go_wp2
    repeat (go_quiet (fail); try go_wp2)
    go_roundg kj2
    case measure => have := HK1.out; have := HJ2.out; omega
    case rel => exact ⟨(x5_1), (wrap64 (x6_1 + 1)), (by first | rfl | (simp; done) | (simp [*]; done)), H', ⟨by have := HK1.out; have := HJ2.out; omega⟩, ⟨by (with_reducible repeat (first | apply Kd.R_alloc | apply Kd.R_drewN | apply Kd.R_drew)); exact HO_5.out⟩, ⟨by repeat (first | (with_reducible first | exact HB.out | apply below_alloc | apply pw_below_drewN | apply below_drew1) | exact HB.out)⟩⟩
  rw [if_pos c10] at H
  have c10b0 : decide (((rd_T39 l0 x6_1).f1) ≤ a1) = true := decide_eq_true c10
  clear c10
  by_cases c11 : x6_1 = 0
  · rw [if_pos c11] at H
    have c11b0 : (x6_1 == 0) = true := beq_iff_eq.mpr c11
    have c11b1 : (x6_1 != 0) = false := bne_eq_false_iff_eq.mpr c11
    clear c11
    obtain ⟨bq12, hbq12⟩ : ∃ b_ : Bool, b_ = ((rd_T39 l0 x6_1).f2) := ⟨_, rfl⟩
    replace H : (if (bq12 = true) then (ravelinref6_Visible.l0 kj2 l0 a1 x5_1 (wrap64 (x6_1 + 1))) else (if x5_1.length < 2932031007402 then (ravelinref6_Visible.l0 kj2 l0 a1 (x5_1 ++ [(⟨(rd_T39 l0 x6_1).f0, (rd_T39 l0 x6_1).f1, bq12, (rd_T39 l0 x6_1).f3⟩ : S39)]) (wrap64 (x6_1 + 1))) else (none))) = some r := by rw [← hbq12] at H; exact H
    have Nbq12 := Aside0.mk hbq12
    clear hbq12
    by_cases c13 : (bq12 = true)
    · subst c13
      have H1 : (ravelinref6_Visible.l0 kj2 l0 a1 x5_1 (wrap64 (x6_1 + 1))) = some r := by rw [if_pos rfl] at H; exact H
      clear H
      have H := H1
      clear H1
      have H' := Aside0.mk H
      clear H
      have p215 : 0 ≤ (x6_1 : Int) := of_decide_eq_true (by first | (with_reducible assumption) | assumption)
      have q215 : x6_1 < (l0.length : Int) := of_decide_eq_true (by first | (with_reducible assumption) | assumption)
      obtain ⟨ad215, e215, hx215_0, hx215_1, hx215_2, hx215_3⟩ := at_T39 HR0.out x6_1 p215 q215
      (try rw [← Nbq12.out] at hx215_2)
      cases e215
      replace hx215_0 := (HB.out.cell (World.block_lt_of_cell? w _ hx215_0)).trans hx215_0
      replace hx215_1 := (HB.out.cell (World.block_lt_of_cell? w _ hx215_1)).trans hx215_1
      replace hx215_2 := (HB.out.cell (World.block_lt_of_cell? w _ hx215_2)).trans hx215_2
      replace hx215_3 := (HB.out.cell (World.block_lt_of_cell? w _ hx215_3)).trans hx215_3
      replace p215 := eq_true p215
      replace q215 := eq_true q215
      have p216 : 0 ≤ (x6_1 : Int) := of_decide_eq_true (by first | (with_reducible assumption) | assumption)
      have q216 : x6_1 < (l0.length : Int) := of_decide_eq_true (by first | (with_reducible assumption) | assumption)
      obtain ⟨ad216, e216, hx216_0, hx216_1, hx216_2, hx216_3⟩ := at_T39 HR0.out x6_1 p216 q216
      (try rw [← Nbq12.out] at hx216_2)
      obtain rfl : ad215 = ad216 := (by injection e216)
      replace hx216_0 := (HB.out.cell (World.block_lt_of_cell? w _ hx216_0)).trans hx216_0
      replace hx216_1 := (HB.out.cell (World.block_lt_of_cell? w _ hx216_1)).trans hx216_1
      replace hx216_2 := (HB.out.cell (World.block_lt_of_cell? w _ hx216_2)).trans hx216_2
      replace hx216_3 := (HB.out.cell (World.block_lt_of_cell? w _ hx216_3)).trans hx216_3
      replace p216 := eq_true p216
      replace q216 := eq_true q216
      go_wp2
      repeat (go_quiet (fail); try go_wp2)
      go_roundg kj2
      case measure => have := HK1.out; have := HJ2.out; omega
      case rel => exact ⟨(x5_1), (wrap64 (x6_1 + 1)), (by first | rfl | (simp; done) | (simp [*]; done)), H', ⟨by have := HK1.out; have := HJ2.out; omega⟩, ⟨by (with_reducible repeat (first | apply Kd.R_alloc | apply Kd.R_drewN | apply Kd.R_drew)); exact HO_5.out⟩, ⟨by repeat (first | (with_reducible first | exact HB.out | apply below_alloc | apply pw_below_drewN | apply below_drew1) | exact HB.out)⟩⟩
    replace c13 := Bool.eq_false_iff.mpr c13
    subst c13
    have H1 : (if x5_1.length < 2932031007402 then (ravelinref6_Visible.l0 kj2 l0 a1 (x5_1 ++ [(⟨(rd_T39 l0 x6_1).f0, (rd_T39 l0 x6_1).f1, false, (rd_T39 l0 x6_1).f3⟩ : S39)]) (wrap64 (x6_1 + 1))) else (none)) = some r := by rw [if_neg (show ¬ (false = true) by decide)] at H; exact H
    clear H
    have H := H1
    clear H1
    by_cases c14 : x5_1.length < 2932031007402
    rotate_left
    · rw [if_neg c14] at H
      exact absurd H (by simp)
    rw [if_pos c14] at H
    have LMc14 := Aside0.mk c14
    clear c14
    obtain ⟨y218, hy218⟩ : ∃ y_ : List (S39), y_ = (x5_1 ++ [(⟨(rd_T39 l0 x6_1).f0, (rd_T39 l0 x6_1).f1, false, (rd_T39 l0 x6_1).f3⟩ : S39)]) := ⟨_, rfl⟩
    replace H : (ravelinref6_Visible.l0 kj2 l0 a1 y218 (wrap64 (x6_1 + 1))) = some r := by first | (rw [hy218]; with_reducible exact H) | (have H2_ := (Option.bind_some _ _).symm.trans H; rw [hy218]; with_reducible exact H2_) | (have H2_ := (Option.bind_some _ _).symm.trans H; with_reducible exact H2_) | with_reducible exact H | (rw [hy218]; exact H) | exact H
    have Ny218 := Aside0.mk hy218
    clear hy218
    have H' := Aside0.mk H
    clear H
    have p215 : 0 ≤ (x6_1 : Int) := of_decide_eq_true (by first | (with_reducible assumption) | assumption)
    have q215 : x6_1 < (l0.length : Int) := of_decide_eq_true (by first | (with_reducible assumption) | assumption)
    obtain ⟨ad215, e215, hx215_0, hx215_1, hx215_2, hx215_3⟩ := at_T39 HR0.out x6_1 p215 q215
    (try rw [← Nbq12.out] at hx215_2)
    cases e215
    replace hx215_0 := (HB.out.cell (World.block_lt_of_cell? w _ hx215_0)).trans hx215_0
    replace hx215_1 := (HB.out.cell (World.block_lt_of_cell? w _ hx215_1)).trans hx215_1
    replace hx215_2 := (HB.out.cell (World.block_lt_of_cell? w _ hx215_2)).trans hx215_2
    replace hx215_3 := (HB.out.cell (World.block_lt_of_cell? w _ hx215_3)).trans hx215_3
    replace p215 := eq_true p215
    replace q215 := eq_true q215
    have p216 : 0 ≤ (x6_1 : Int) := of_decide_eq_true (by first | (with_reducible assumption) | assumption)
    have q216 : x6_1 < (l0.length : Int) := of_decide_eq_true (by first | (with_reducible assumption) | assumption)
    obtain ⟨ad216, e216, hx216_0, hx216_1, hx216_2, hx216_3⟩ := at_T39 HR0.out x6_1 p216 q216
    (try rw [← Nbq12.out] at hx216_2)
    obtain rfl : ad215 = ad216 := (by injection e216)
    replace hx216_0 := (HB.out.cell (World.block_lt_of_cell? w _ hx216_0)).trans hx216_0
    replace hx216_1 := (HB.out.cell (World.block_lt_of_cell? w _ hx216_1)).trans hx216_1
    replace hx216_2 := (HB.out.cell (World.block_lt_of_cell? w _ hx216_2)).trans hx216_2
    replace hx216_3 := (HB.out.cell (World.block_lt_of_cell? w _ hx216_3)).trans hx216_3
    replace p216 := eq_true p216
    replace q216 := eq_true q216
    have p217 : 0 ≤ (x6_1 : Int) := of_decide_eq_true (by first | (with_reducible assumption) | assumption)
    have q217 : x6_1 < (l0.length : Int) := of_decide_eq_true (by first | (with_reducible assumption) | assumption)
    obtain ⟨ad217, e217, hx217_0, hx217_1, hx217_2, hx217_3⟩ := at_T39 HR0.out x6_1 p217 q217
    (try rw [← Nbq12.out] at hx217_2)
    obtain rfl : ad215 = ad217 := (by injection e217)
    replace hx217_0 := (HB.out.cell (World.block_lt_of_cell? w _ hx217_0)).trans hx217_0
    replace hx217_1 := (HB.out.cell (World.block_lt_of_cell? w _ hx217_1)).trans hx217_1
    replace hx217_2 := (HB.out.cell (World.block_lt_of_cell? w _ hx217_2)).trans hx217_2
    replace hx217_3 := (HB.out.cell (World.block_lt_of_cell? w _ hx217_3)).trans hx217_3
    replace p217 := eq_true p217
    replace q217 := eq_true q217
    go_wp2_with (first | ((with_reducible refine gate_builtin (b := .append) (xs := #[.tmp 62, .tmp 67]) rfl ?_); at_builtin; refine Kd.R_append k39 (w0 := w) w.heap.size rfl (.tmp 62) (.tmp 67) 23 39 (.agg #[(.string ⟨#[]⟩), (.int .i64 0), (.bool false), (.string ⟨#[]⟩)]) 48 rfl Try.underlying23 info39 rfl (by decide) (by omega) u5 x5_1 (⟨(rd_T39 l0 x6_1).f0, (rd_T39 l0 x6_1).f1, false, (rd_T39 l0 x6_1).f3⟩ : S39) [.string ((rd_T39 l0 x6_1).f0), .int .i64 ((rd_T39 l0 x6_1).f1), .bool false, .string ((rd_T39 l0 x6_1).f3)] (fun _ => True) (fun _ => False) rfl rfl ?aP (fun _ hk => hk.elim) ?aF ?aO ?aB ?aS ?aL ?_; (case aP => exact k39_mkM _ _ _ (⟨(rd_T39 l0 x6_1).f0, (rd_T39 l0 x6_1).f1, false, (rd_T39 l0 x6_1).f3⟩ : S39)); (case aB => exact (by repeat (first | (with_reducible first | exact HB.out | apply below_alloc | apply pw_below_drewN | apply below_drew1) | exact HB.out))); (case aF => exact (fun _ _ => trivial)); (case aO => exact (by (with_reducible repeat (first | apply Kd.R_alloc | apply Kd.R_drewN | apply Kd.R_drew)); exact HO_5.out)); (case aS => exact (below_size (by repeat (first | (with_reducible first | exact HB.out | apply below_alloc | apply pw_below_drewN | apply below_drew1) | exact HB.out)))); (case aL => have := LMc14.out; omega); intro v219 w15 ho hb hg hat; rw [← Ny218.out] at ho; have n0_ := Aside0.mk (hb); have n1_ := Aside0.mk (ho); clear HB; clear HO_5; have HB := n0_; have HO220 := n1_; clear n0_ n1_; clear ho hb hg hat))
    repeat (go_quiet (first | ((with_reducible refine gate_builtin (b := .append) (xs := #[.tmp 62, .tmp 67]) rfl ?_); at_builtin; refine Kd.R_append k39 (w0 := w) w.heap.size rfl (.tmp 62) (.tmp 67) 23 39 (.agg #[(.string ⟨#[]⟩), (.int .i64 0), (.bool false), (.string ⟨#[]⟩)]) 48 rfl Try.underlying23 info39 rfl (by decide) (by omega) u5 x5_1 (⟨(rd_T39 l0 x6_1).f0, (rd_T39 l0 x6_1).f1, false, (rd_T39 l0 x6_1).f3⟩ : S39) [.string ((rd_T39 l0 x6_1).f0), .int .i64 ((rd_T39 l0 x6_1).f1), .bool false, .string ((rd_T39 l0 x6_1).f3)] (fun _ => True) (fun _ => False) rfl rfl ?aP (fun _ hk => hk.elim) ?aF ?aO ?aB ?aS ?aL ?_; (case aP => exact k39_mkM _ _ _ (⟨(rd_T39 l0 x6_1).f0, (rd_T39 l0 x6_1).f1, false, (rd_T39 l0 x6_1).f3⟩ : S39)); (case aB => exact (by repeat (first | (with_reducible first | exact HB.out | apply below_alloc | apply pw_below_drewN | apply below_drew1) | exact HB.out))); (case aF => exact (fun _ _ => trivial)); (case aO => exact (by (with_reducible repeat (first | apply Kd.R_alloc | apply Kd.R_drewN | apply Kd.R_drew)); exact HO_5.out)); (case aS => exact (below_size (by repeat (first | (with_reducible first | exact HB.out | apply below_alloc | apply pw_below_drewN | apply below_drew1) | exact HB.out)))); (case aL => have := LMc14.out; omega); intro v219 w15 ho hb hg hat; rw [← Ny218.out] at ho; have n0_ := Aside0.mk (hb); have n1_ := Aside0.mk (ho); clear HB; clear HO_5; have HB := n0_; have HO220 := n1_; clear n0_ n1_; clear ho hb hg hat)); try go_wp2_with (first | ((with_reducible refine gate_builtin (b := .append) (xs := #[.tmp 62, .tmp 67]) rfl ?_); at_builtin; refine Kd.R_append k39 (w0 := w) w.heap.size rfl (.tmp 62) (.tmp 67) 23 39 (.agg #[(.string ⟨#[]⟩), (.int .i64 0), (.bool false), (.string ⟨#[]⟩)]) 48 rfl Try.underlying23 info39 rfl (by decide) (by omega) u5 x5_1 (⟨(rd_T39 l0 x6_1).f0, (rd_T39 l0 x6_1).f1, false, (rd_T39 l0 x6_1).f3⟩ : S39) [.string ((rd_T39 l0 x6_1).f0), .int .i64 ((rd_T39 l0 x6_1).f1), .bool false, .string ((rd_T39 l0 x6_1).f3)] (fun _ => True) (fun _ => False) rfl rfl ?aP (fun _ hk => hk.elim) ?aF ?aO ?aB ?aS ?aL ?_; (case aP => exact k39_mkM _ _ _ (⟨(rd_T39 l0 x6_1).f0, (rd_T39 l0 x6_1).f1, false, (rd_T39 l0 x6_1).f3⟩ : S39)); (case aB => exact (by repeat (first | (with_reducible first | exact HB.out | apply below_alloc | apply pw_below_drewN | apply below_drew1) | exact HB.out))); (case aF => exact (fun _ _ => trivial)); (case aO => exact (by (with_reducible repeat (first | apply Kd.R_alloc | apply Kd.R_drewN | apply Kd.R_drew)); exact HO_5.out)); (case aS => exact (below_size (by repeat (first | (with_reducible first | exact HB.out | apply below_alloc | apply pw_below_drewN | apply below_drew1) | exact HB.out)))); (case aL => have := LMc14.out; omega); intro v219 w15 ho hb hg hat; rw [← Ny218.out] at ho; have n0_ := Aside0.mk (hb); have n1_ := Aside0.mk (ho); clear HB; clear HO_5; have HB := n0_; have HO220 := n1_; clear n0_ n1_; clear ho hb hg hat)))
    go_roundg kj2
    case measure => have := HK1.out; have := HJ2.out; omega
    case rel => exact ⟨(y218), (wrap64 (x6_1 + 1)), (by first | rfl | (simp; done) | (simp [*]; done)), H', ⟨by have := HK1.out; have := HJ2.out; omega⟩, ⟨by (with_reducible repeat (first | apply Kd.R_alloc | apply Kd.R_drewN | apply Kd.R_drew)); exact HO220.out⟩, ⟨by repeat (first | (with_reducible first | exact HB.out | apply below_alloc | apply pw_below_drewN | apply below_drew1) | exact HB.out)⟩⟩
  rw [if_neg c11] at H
  have c11b0 : (x6_1 == 0) = false := beq_eq_false_iff_ne.mpr c11
  have c11b1 : (x6_1 != 0) = true := bne_iff_ne.mpr c11
  obtain ⟨ji16, hji16⟩ : ∃ j_ : Int, (wrap64 (x6_1 - 1)) = j_ := ⟨_, rfl⟩
  replace H : (if 0 ≤ (ji16) then (if (ji16) < (l0.length : Int) then (if ((rd_T39 l0 (ji16)).f0).toList = ((rd_T39 l0 x6_1).f0).toList then (if ((rd_T39 l0 (ji16)).f1) > a1 then (if ((rd_T39 l0 x6_1).f2 = true) then (ravelinref6_Visible.l0 kj2 l0 a1 x5_1 (wrap64 (x6_1 + 1))) else (if x5_1.length < 2932031007402 then (ravelinref6_Visible.l0 kj2 l0 a1 (x5_1 ++ [(⟨(rd_T39 l0 x6_1).f0, (rd_T39 l0 x6_1).f1, (rd_T39 l0 x6_1).f2, (rd_T39 l0 x6_1).f3⟩ : S39)]) (wrap64 (x6_1 + 1))) else (none))) else (ravelinref6_Visible.l0 kj2 l0 a1 x5_1 (wrap64 (x6_1 + 1)))) else (if ((rd_T39 l0 x6_1).f2 = true) then (ravelinref6_Visible.l0 kj2 l0 a1 x5_1 (wrap64 (x6_1 + 1))) else (if x5_1.length < 2932031007402 then (ravelinref6_Visible.l0 kj2 l0 a1 (x5_1 ++ [(⟨(rd_T39 l0 x6_1).f0, (rd_T39 l0 x6_1).f1, (rd_T39 l0 x6_1).f2, (rd_T39 l0 x6_1).f3⟩ : S39)]) (wrap64 (x6_1 + 1))) else (none)))) else (none)) else (none)) = some r := by first | (rw [hji16] at H; exact H) | (simp only [hji16] at H ⊢; exact H)
  have hji16w : (IntKind.i64.wrap (x6_1 - 1)) = ji16 := (i64_w _).trans hji16
  by_cases c17 : 0 ≤ (ji16)
  rotate_left
  · rw [if_neg c17] at H
    exact absurd H (by simp)
  rw [if_pos c17] at H
  have c17b0 : decide (0 ≤ (ji16)) = true := decide_eq_true c17
  clear c17
  by_cases c18 : (ji16) < (l0.length : Int)
  rotate_left
  · rw [if_neg c18] at H
    exact absurd H (by simp)
  rw [if_pos c18] at H
  have c18b0 : decide ((ji16) < (l0.length : Int)) = true := decide_eq_true c18
  clear c18
  by_cases c19 : ((rd_T39 l0 (ji16)).f0).toList = ((rd_T39 l0 x6_1).f0).toList
  rotate_left
  · rw [if_neg c19] at H
    have c19b0 : (((rd_T39 l0 (ji16)).f0).toList == ((rd_T39 l0 x6_1).f0).toList) = false := beq_eq_false_iff_ne.mpr c19
    have c19b1 : (((rd_T39 l0 (ji16)).f0).toList != ((rd_T39 l0 x6_1).f0).toList) = true := bne_iff_ne.mpr c19
    obtain ⟨bq25, hbq25⟩ : ∃ b_ : Bool, b_ = ((rd_T39 l0 x6_1).f2) := ⟨_, rfl⟩
    replace H : (if (bq25 = true) then (ravelinref6_Visible.l0 kj2 l0 a1 x5_1 (wrap64 (x6_1 + 1))) else (if x5_1.length < 2932031007402 then (ravelinref6_Visible.l0 kj2 l0 a1 (x5_1 ++ [(⟨(rd_T39 l0 x6_1).f0, (rd_T39 l0 x6_1).f1, bq25, (rd_T39 l0 x6_1).f3⟩ : S39)]) (wrap64 (x6_1 + 1))) else (none))) = some r := by rw [← hbq25] at H; exact H
    have Nbq25 := Aside0.mk hbq25
    clear hbq25
    by_cases c26 : (bq25 = true)
    · subst c26
      have H1 : (ravelinref6_Visible.l0 kj2 l0 a1 x5_1 (wrap64 (x6_1 + 1))) = some r := by rw [if_pos rfl] at H; exact H
      clear H
      have H := H1
      clear H1
      have H' := Aside0.mk H
      clear H
      have p215 : 0 ≤ (x6_1 : Int) := of_decide_eq_true (by first | (with_reducible assumption) | assumption)
      have q215 : x6_1 < (l0.length : Int) := of_decide_eq_true (by first | (with_reducible assumption) | assumption)
      obtain ⟨ad215, e215, hx215_0, hx215_1, hx215_2, hx215_3⟩ := at_T39 HR0.out x6_1 p215 q215
      (try rw [← Nbq25.out] at hx215_2)
      cases e215
      replace hx215_0 := (HB.out.cell (World.block_lt_of_cell? w _ hx215_0)).trans hx215_0
      replace hx215_1 := (HB.out.cell (World.block_lt_of_cell? w _ hx215_1)).trans hx215_1
      replace hx215_2 := (HB.out.cell (World.block_lt_of_cell? w _ hx215_2)).trans hx215_2
      replace hx215_3 := (HB.out.cell (World.block_lt_of_cell? w _ hx215_3)).trans hx215_3
      replace p215 := eq_true p215
      replace q215 := eq_true q215
      have p221 : 0 ≤ ((ji16) : Int) := of_decide_eq_true (by first | (with_reducible assumption) | assumption)
      have q221 : (ji16) < (l0.length : Int) := of_decide_eq_true (by first | (with_reducible assumption) | assumption)
      obtain ⟨ad221, e221, hx221_0, hx221_1, hx221_2, hx221_3⟩ := at_T39 HR0.out (ji16) p221 q221
      (try rw [← Nbq25.out] at hx221_2)
      obtain rfl : ad215 = ad221 := (by injection e221)
      replace hx221_0 := (HB.out.cell (World.block_lt_of_cell? w _ hx221_0)).trans hx221_0
      replace hx221_1 := (HB.out.cell (World.block_lt_of_cell? w _ hx221_1)).trans hx221_1
      replace hx221_2 := (HB.out.cell (World.block_lt_of_cell? w _ hx221_2)).trans hx221_2
      replace hx221_3 := (HB.out.cell (World.block_lt_of_cell? w _ hx221_3)).trans hx221_3
      replace p221 := eq_true p221
      replace q221 := eq_true q221
      have p222 : 0 ≤ (x6_1 : Int) := of_decide_eq_true (by first | (with_reducible assumption) | assumption)
      have q222 : x6_1 < (l0.length : Int) := of_decide_eq_true (by first | (with_reducible assumption) | assumption)
      obtain ⟨ad222, e222, hx222_0, hx222_1, hx222_2, hx222_3⟩ := at_T39 HR0.out x6_1 p222 q222
      (try rw [← Nbq25.out] at hx222_2)
      obtain rfl : ad215 = ad222 := (by injection e222)
      replace hx222_0 := (HB.out.cell (World.block_lt_of_cell? w _ hx222_0)).trans hx222_0
      replace hx222_1 := (HB.out.cell (World.block_lt_of_cell? w _ hx222_1)).trans hx222_1
      replace hx222_2 := (HB.out.cell (World.block_lt_of_cell? w _ hx222_2)).trans hx222_2
      replace hx222_3 := (HB.out.cell (World.block_lt_of_cell? w _ hx222_3)).trans hx222_3
      replace p222 := eq_true p222
      replace q222 := eq_true q222
      have p229 : 0 ≤ (x6_1 : Int) := of_decide_eq_true (by first | (with_reducible assumption) | assumption)
      have q229 : x6_1 < (l0.length : Int) := of_decide_eq_true (by first | (with_reducible assumption) | assumption)
      obtain ⟨ad229, e229, hx229_0, hx229_1, hx229_2, hx229_3⟩ := at_T39 HR0.out x6_1 p229 q229
      (try rw [← Nbq25.out] at hx229_2)
      obtain rfl : ad215 = ad229 := (by injection e229)
      replace hx229_0 := (HB.out.cell (World.block_lt_of_cell? w _ hx229_0)).trans hx229_0
      replace hx229_1 := (HB.out.cell (World.block_lt_of_cell? w _ hx229_1)).trans hx229_1
      replace hx229_2 := (HB.out.cell (World.block_lt_of_cell? w _ hx229_2)).trans hx229_2
      replace hx229_3 := (HB.out.cell (World.block_lt_of_cell? w _ hx229_3)).trans hx229_3
      replace p229 := eq_true p229
      replace q229 := eq_true q229
      go_wp2
      repeat (go_quiet (fail); try go_wp2)
      go_roundg kj2
      case measure => have := HK1.out; have := HJ2.out; omega
      case rel => exact ⟨(x5_1), (wrap64 (x6_1 + 1)), (by first | rfl | (simp; done) | (simp [*]; done)), H', ⟨by have := HK1.out; have := HJ2.out; omega⟩, ⟨by (with_reducible repeat (first | apply Kd.R_alloc | apply Kd.R_drewN | apply Kd.R_drew)); exact HO_5.out⟩, ⟨by repeat (first | (with_reducible first | exact HB.out | apply below_alloc | apply pw_below_drewN | apply below_drew1) | exact HB.out)⟩⟩
    replace c26 := Bool.eq_false_iff.mpr c26
    subst c26
    have H1 : (if x5_1.length < 2932031007402 then (ravelinref6_Visible.l0 kj2 l0 a1 (x5_1 ++ [(⟨(rd_T39 l0 x6_1).f0, (rd_T39 l0 x6_1).f1, false, (rd_T39 l0 x6_1).f3⟩ : S39)]) (wrap64 (x6_1 + 1))) else (none)) = some r := by rw [if_neg (show ¬ (false = true) by decide)] at H; exact H
    clear H
    have H := H1
    clear H1
    by_cases c27 : x5_1.length < 2932031007402
    rotate_left
    · rw [if_neg c27] at H
      exact absurd H (by simp)
    rw [if_pos c27] at H
    have LMc27 := Aside0.mk c27
    clear c27
    obtain ⟨y231, hy231⟩ : ∃ y_ : List (S39), y_ = (x5_1 ++ [(⟨(rd_T39 l0 x6_1).f0, (rd_T39 l0 x6_1).f1, false, (rd_T39 l0 x6_1).f3⟩ : S39)]) := ⟨_, rfl⟩
    replace H : (ravelinref6_Visible.l0 kj2 l0 a1 y231 (wrap64 (x6_1 + 1))) = some r := by first | (rw [hy231]; with_reducible exact H) | (have H2_ := (Option.bind_some _ _).symm.trans H; rw [hy231]; with_reducible exact H2_) | (have H2_ := (Option.bind_some _ _).symm.trans H; with_reducible exact H2_) | with_reducible exact H | (rw [hy231]; exact H) | exact H
    have Ny231 := Aside0.mk hy231
    clear hy231
    have H' := Aside0.mk H
    clear H
    have p215 : 0 ≤ (x6_1 : Int) := of_decide_eq_true (by first | (with_reducible assumption) | assumption)
    have q215 : x6_1 < (l0.length : Int) := of_decide_eq_true (by first | (with_reducible assumption) | assumption)
    obtain ⟨ad215, e215, hx215_0, hx215_1, hx215_2, hx215_3⟩ := at_T39 HR0.out x6_1 p215 q215
    (try rw [← Nbq25.out] at hx215_2)
    cases e215
    replace hx215_0 := (HB.out.cell (World.block_lt_of_cell? w _ hx215_0)).trans hx215_0
    replace hx215_1 := (HB.out.cell (World.block_lt_of_cell? w _ hx215_1)).trans hx215_1
    replace hx215_2 := (HB.out.cell (World.block_lt_of_cell? w _ hx215_2)).trans hx215_2
    replace hx215_3 := (HB.out.cell (World.block_lt_of_cell? w _ hx215_3)).trans hx215_3
    replace p215 := eq_true p215
    replace q215 := eq_true q215
    have p221 : 0 ≤ ((ji16) : Int) := of_decide_eq_true (by first | (with_reducible assumption) | assumption)
    have q221 : (ji16) < (l0.length : Int) := of_decide_eq_true (by first | (with_reducible assumption) | assumption)
    obtain ⟨ad221, e221, hx221_0, hx221_1, hx221_2, hx221_3⟩ := at_T39 HR0.out (ji16) p221 q221
    (try rw [← Nbq25.out] at hx221_2)
    obtain rfl : ad215 = ad221 := (by injection e221)
    replace hx221_0 := (HB.out.cell (World.block_lt_of_cell? w _ hx221_0)).trans hx221_0
    replace hx221_1 := (HB.out.cell (World.block_lt_of_cell? w _ hx221_1)).trans hx221_1
    replace hx221_2 := (HB.out.cell (World.block_lt_of_cell? w _ hx221_2)).trans hx221_2
    replace hx221_3 := (HB.out.cell (World.block_lt_of_cell? w _ hx221_3)).trans hx221_3
    replace p221 := eq_true p221
    replace q221 := eq_true q221
    have p222 : 0 ≤ (x6_1 : Int) := of_decide_eq_true (by first | (with_reducible assumption) | assumption)
    have q222 : x6_1 < (l0.length : Int) := of_decide_eq_true (by first | (with_reducible assumption) | assumption)
    obtain ⟨ad222, e222, hx222_0, hx222_1, hx222_2, hx222_3⟩ := at_T39 HR0.out x6_1 p222 q222
    (try rw [← Nbq25.out] at hx222_2)
    obtain rfl : ad215 = ad222 := (by injection e222)
    replace hx222_0 := (HB.out.cell (World.block_lt_of_cell? w _ hx222_0)).trans hx222_0
    replace hx222_1 := (HB.out.cell (World.block_lt_of_cell? w _ hx222_1)).trans hx222_1
    replace hx222_2 := (HB.out.cell (World.block_lt_of_cell? w _ hx222_2)).trans hx222_2
    replace hx222_3 := (HB.out.cell (World.block_lt_of_cell? w _ hx222_3)).trans hx222_3
    replace p222 := eq_true p222
    replace q222 := eq_true q222
    have p229 : 0 ≤ (x6_1 : Int) := of_decide_eq_true (by first | (with_reducible assumption) | assumption)
    have q229 : x6_1 < (l0.length : Int) := of_decide_eq_true (by first | (with_reducible assumption) | assumption)
    obtain ⟨ad229, e229, hx229_0, hx229_1, hx229_2, hx229_3⟩ := at_T39 HR0.out x6_1 p229 q229
    (try rw [← Nbq25.out] at hx229_2)
    obtain rfl : ad215 = ad229 := (by injection e229)
    replace hx229_0 := (HB.out.cell (World.block_lt_of_cell? w _ hx229_0)).trans hx229_0
    replace hx229_1 := (HB.out.cell (World.block_lt_of_cell? w _ hx229_1)).trans hx229_1
    replace hx229_2 := (HB.out.cell (World.block_lt_of_cell? w _ hx229_2)).trans hx229_2
    replace hx229_3 := (HB.out.cell (World.block_lt_of_cell? w _ hx229_3)).trans hx229_3
    replace p229 := eq_true p229
    replace q229 := eq_true q229
    have p230 : 0 ≤ (x6_1 : Int) := of_decide_eq_true (by first | (with_reducible assumption) | assumption)
    have q230 : x6_1 < (l0.length : Int) := of_decide_eq_true (by first | (with_reducible assumption) | assumption)
    obtain ⟨ad230, e230, hx230_0, hx230_1, hx230_2, hx230_3⟩ := at_T39 HR0.out x6_1 p230 q230
    (try rw [← Nbq25.out] at hx230_2)
    obtain rfl : ad215 = ad230 := (by injection e230)
    replace hx230_0 := (HB.out.cell (World.block_lt_of_cell? w _ hx230_0)).trans hx230_0
    replace hx230_1 := (HB.out.cell (World.block_lt_of_cell? w _ hx230_1)).trans hx230_1
    replace hx230_2 := (HB.out.cell (World.block_lt_of_cell? w _ hx230_2)).trans hx230_2
    replace hx230_3 := (HB.out.cell (World.block_lt_of_cell? w _ hx230_3)).trans hx230_3
    replace p230 := eq_true p230
    replace q230 := eq_true q230
    go_wp2_with (first | ((with_reducible refine gate_builtin (b := .append) (xs := #[.tmp 62, .tmp 67]) rfl ?_); at_builtin; refine Kd.R_append k39 (w0 := w) w.heap.size rfl (.tmp 62) (.tmp 67) 23 39 (.agg #[(.string ⟨#[]⟩), (.int .i64 0), (.bool false), (.string ⟨#[]⟩)]) 48 rfl Try.underlying23 info39 rfl (by decide) (by omega) u5 x5_1 (⟨(rd_T39 l0 x6_1).f0, (rd_T39 l0 x6_1).f1, false, (rd_T39 l0 x6_1).f3⟩ : S39) [.string ((rd_T39 l0 x6_1).f0), .int .i64 ((rd_T39 l0 x6_1).f1), .bool false, .string ((rd_T39 l0 x6_1).f3)] (fun _ => True) (fun _ => False) rfl rfl ?aP (fun _ hk => hk.elim) ?aF ?aO ?aB ?aS ?aL ?_; (case aP => exact k39_mkM _ _ _ (⟨(rd_T39 l0 x6_1).f0, (rd_T39 l0 x6_1).f1, false, (rd_T39 l0 x6_1).f3⟩ : S39)); (case aB => exact (by repeat (first | (with_reducible first | exact HB.out | apply below_alloc | apply pw_below_drewN | apply below_drew1) | exact HB.out))); (case aF => exact (fun _ _ => trivial)); (case aO => exact (by (with_reducible repeat (first | apply Kd.R_alloc | apply Kd.R_drewN | apply Kd.R_drew)); exact HO_5.out)); (case aS => exact (below_size (by repeat (first | (with_reducible first | exact HB.out | apply below_alloc | apply pw_below_drewN | apply below_drew1) | exact HB.out)))); (case aL => have := LMc27.out; omega); intro v232 w28 ho hb hg hat; rw [← Ny231.out] at ho; have n0_ := Aside0.mk (hb); have n1_ := Aside0.mk (ho); clear HB; clear HO_5; have HB := n0_; have HO233 := n1_; clear n0_ n1_; clear ho hb hg hat))
    repeat (go_quiet (first | ((with_reducible refine gate_builtin (b := .append) (xs := #[.tmp 62, .tmp 67]) rfl ?_); at_builtin; refine Kd.R_append k39 (w0 := w) w.heap.size rfl (.tmp 62) (.tmp 67) 23 39 (.agg #[(.string ⟨#[]⟩), (.int .i64 0), (.bool false), (.string ⟨#[]⟩)]) 48 rfl Try.underlying23 info39 rfl (by decide) (by omega) u5 x5_1 (⟨(rd_T39 l0 x6_1).f0, (rd_T39 l0 x6_1).f1, false, (rd_T39 l0 x6_1).f3⟩ : S39) [.string ((rd_T39 l0 x6_1).f0), .int .i64 ((rd_T39 l0 x6_1).f1), .bool false, .string ((rd_T39 l0 x6_1).f3)] (fun _ => True) (fun _ => False) rfl rfl ?aP (fun _ hk => hk.elim) ?aF ?aO ?aB ?aS ?aL ?_; (case aP => exact k39_mkM _ _ _ (⟨(rd_T39 l0 x6_1).f0, (rd_T39 l0 x6_1).f1, false, (rd_T39 l0 x6_1).f3⟩ : S39)); (case aB => exact (by repeat (first | (with_reducible first | exact HB.out | apply below_alloc | apply pw_below_drewN | apply below_drew1) | exact HB.out))); (case aF => exact (fun _ _ => trivial)); (case aO => exact (by (with_reducible repeat (first | apply Kd.R_alloc | apply Kd.R_drewN | apply Kd.R_drew)); exact HO_5.out)); (case aS => exact (below_size (by repeat (first | (with_reducible first | exact HB.out | apply below_alloc | apply pw_below_drewN | apply below_drew1) | exact HB.out)))); (case aL => have := LMc27.out; omega); intro v232 w28 ho hb hg hat; rw [← Ny231.out] at ho; have n0_ := Aside0.mk (hb); have n1_ := Aside0.mk (ho); clear HB; clear HO_5; have HB := n0_; have HO233 := n1_; clear n0_ n1_; clear ho hb hg hat)); try go_wp2_with (first | ((with_reducible refine gate_builtin (b := .append) (xs := #[.tmp 62, .tmp 67]) rfl ?_); at_builtin; refine Kd.R_append k39 (w0 := w) w.heap.size rfl (.tmp 62) (.tmp 67) 23 39 (.agg #[(.string ⟨#[]⟩), (.int .i64 0), (.bool false), (.string ⟨#[]⟩)]) 48 rfl Try.underlying23 info39 rfl (by decide) (by omega) u5 x5_1 (⟨(rd_T39 l0 x6_1).f0, (rd_T39 l0 x6_1).f1, false, (rd_T39 l0 x6_1).f3⟩ : S39) [.string ((rd_T39 l0 x6_1).f0), .int .i64 ((rd_T39 l0 x6_1).f1), .bool false, .string ((rd_T39 l0 x6_1).f3)] (fun _ => True) (fun _ => False) rfl rfl ?aP (fun _ hk => hk.elim) ?aF ?aO ?aB ?aS ?aL ?_; (case aP => exact k39_mkM _ _ _ (⟨(rd_T39 l0 x6_1).f0, (rd_T39 l0 x6_1).f1, false, (rd_T39 l0 x6_1).f3⟩ : S39)); (case aB => exact (by repeat (first | (with_reducible first | exact HB.out | apply below_alloc | apply pw_below_drewN | apply below_drew1) | exact HB.out))); (case aF => exact (fun _ _ => trivial)); (case aO => exact (by (with_reducible repeat (first | apply Kd.R_alloc | apply Kd.R_drewN | apply Kd.R_drew)); exact HO_5.out)); (case aS => exact (below_size (by repeat (first | (with_reducible first | exact HB.out | apply below_alloc | apply pw_below_drewN | apply below_drew1) | exact HB.out)))); (case aL => have := LMc27.out; omega); intro v232 w28 ho hb hg hat; rw [← Ny231.out] at ho; have n0_ := Aside0.mk (hb); have n1_ := Aside0.mk (ho); clear HB; clear HO_5; have HB := n0_; have HO233 := n1_; clear n0_ n1_; clear ho hb hg hat)))
    go_roundg kj2
    case measure => have := HK1.out; have := HJ2.out; omega
    case rel => exact ⟨(y231), (wrap64 (x6_1 + 1)), (by first | rfl | (simp; done) | (simp [*]; done)), H', ⟨by have := HK1.out; have := HJ2.out; omega⟩, ⟨by (with_reducible repeat (first | apply Kd.R_alloc | apply Kd.R_drewN | apply Kd.R_drew)); exact HO233.out⟩, ⟨by repeat (first | (with_reducible first | exact HB.out | apply below_alloc | apply pw_below_drewN | apply below_drew1) | exact HB.out)⟩⟩
  rw [if_pos c19] at H
  have c19b0 : (((rd_T39 l0 (ji16)).f0).toList == ((rd_T39 l0 x6_1).f0).toList) = true := beq_iff_eq.mpr c19
  have c19b1 : (((rd_T39 l0 (ji16)).f0).toList != ((rd_T39 l0 x6_1).f0).toList) = false := bne_eq_false_iff_eq.mpr c19
  clear c19
  by_cases c20 : ((rd_T39 l0 (ji16)).f1) > a1
  rotate_left
  · rw [if_neg c20] at H
    have c20b0 : decide (a1 < ((rd_T39 l0 (ji16)).f1)) = false := decide_eq_false c20
    clear c20
    have H' := Aside0.mk H
    clear H
    have p215 : 0 ≤ (x6_1 : Int) := of_decide_eq_true (by first | (with_reducible assumption) | assumption)
    have q215 : x6_1 < (l0.length : Int) := of_decide_eq_true (by first | (with_reducible assumption) | assumption)
    obtain ⟨ad215, e215, hx215_0, hx215_1, hx215_2, hx215_3⟩ := at_T39 HR0.out x6_1 p215 q215
    cases e215
    replace hx215_0 := (HB.out.cell (World.block_lt_of_cell? w _ hx215_0)).trans hx215_0
    replace hx215_1 := (HB.out.cell (World.block_lt_of_cell? w _ hx215_1)).trans hx215_1
    replace hx215_2 := (HB.out.cell (World.block_lt_of_cell? w _ hx215_2)).trans hx215_2
    replace hx215_3 := (HB.out.cell (World.block_lt_of_cell? w _ hx215_3)).trans hx215_3
    replace p215 := eq_true p215
    replace q215 := eq_true q215
    have p221 : 0 ≤ ((ji16) : Int) := of_decide_eq_true (by first | (with_reducible assumption) | assumption)
    have q221 : (ji16) < (l0.length : Int) := of_decide_eq_true (by first | (with_reducible assumption) | assumption)
    obtain ⟨ad221, e221, hx221_0, hx221_1, hx221_2, hx221_3⟩ := at_T39 HR0.out (ji16) p221 q221
    obtain rfl : ad215 = ad221 := (by injection e221)
    replace hx221_0 := (HB.out.cell (World.block_lt_of_cell? w _ hx221_0)).trans hx221_0
    replace hx221_1 := (HB.out.cell (World.block_lt_of_cell? w _ hx221_1)).trans hx221_1
    replace hx221_2 := (HB.out.cell (World.block_lt_of_cell? w _ hx221_2)).trans hx221_2
    replace hx221_3 := (HB.out.cell (World.block_lt_of_cell? w _ hx221_3)).trans hx221_3
    replace p221 := eq_true p221
    replace q221 := eq_true q221
    have p222 : 0 ≤ (x6_1 : Int) := of_decide_eq_true (by first | (with_reducible assumption) | assumption)
    have q222 : x6_1 < (l0.length : Int) := of_decide_eq_true (by first | (with_reducible assumption) | assumption)
    obtain ⟨ad222, e222, hx222_0, hx222_1, hx222_2, hx222_3⟩ := at_T39 HR0.out x6_1 p222 q222
    obtain rfl : ad215 = ad222 := (by injection e222)
    replace hx222_0 := (HB.out.cell (World.block_lt_of_cell? w _ hx222_0)).trans hx222_0
    replace hx222_1 := (HB.out.cell (World.block_lt_of_cell? w _ hx222_1)).trans hx222_1
    replace hx222_2 := (HB.out.cell (World.block_lt_of_cell? w _ hx222_2)).trans hx222_2
    replace hx222_3 := (HB.out.cell (World.block_lt_of_cell? w _ hx222_3)).trans hx222_3
    replace p222 := eq_true p222
    replace q222 := eq_true q222
    have p223 : 0 ≤ ((ji16) : Int) := of_decide_eq_true (by first | (with_reducible assumption) | assumption)
    have q223 : (ji16) < (l0.length : Int) := of_decide_eq_true (by first | (with_reducible assumption) | assumption)
    obtain ⟨ad223, e223, hx223_0, hx223_1, hx223_2, hx223_3⟩ := at_T39 HR0.out (ji16) p223 q223
    obtain rfl : ad215 = ad223 := (by injection e223)
    replace hx223_0 := (HB.out.cell (World.block_lt_of_cell? w _ hx223_0)).trans hx223_0
    replace hx223_1 := (HB.out.cell (World.block_lt_of_cell? w _ hx223_1)).trans hx223_1
    replace hx223_2 := (HB.out.cell (World.block_lt_of_cell? w _ hx223_2)).trans hx223_2
    replace hx223_3 := (HB.out.cell (World.block_lt_of_cell? w _ hx223_3)).trans hx223_3
    replace p223 := eq_true p223
    replace q223 := eq_true q223
    go_wp2
    repeat (go_quiet (fail); try go_wp2)
    go_roundg kj2
    case measure => have := HK1.out; have := HJ2.out; omega
    case rel => exact ⟨(x5_1), (wrap64 (x6_1 + 1)), (by first | rfl | (simp; done) | (simp [*]; done)), H', ⟨by have := HK1.out; have := HJ2.out; omega⟩, ⟨by (with_reducible repeat (first | apply Kd.R_alloc | apply Kd.R_drewN | apply Kd.R_drew)); exact HO_5.out⟩, ⟨by repeat (first | (with_reducible first | exact HB.out | apply below_alloc | apply pw_below_drewN | apply below_drew1) | exact HB.out)⟩⟩
  rw [if_pos c20] at H
  have c20b0 : decide (a1 < ((rd_T39 l0 (ji16)).f1)) = true := decide_eq_true c20
  clear c20
  obtain ⟨bq21, hbq21⟩ : ∃ b_ : Bool, b_ = ((rd_T39 l0 x6_1).f2) := ⟨_, rfl⟩
  replace H : (if (bq21 = true) then (ravelinref6_Visible.l0 kj2 l0 a1 x5_1 (wrap64 (x6_1 + 1))) else (if x5_1.length < 2932031007402 then (ravelinref6_Visible.l0 kj2 l0 a1 (x5_1 ++ [(⟨(rd_T39 l0 x6_1).f0, (rd_T39 l0 x6_1).f1, bq21, (rd_T39 l0 x6_1).f3⟩ : S39)]) (wrap64 (x6_1 + 1))) else (none))) = some r := by rw [← hbq21] at H; exact H
  have Nbq21 := Aside0.mk hbq21
  clear hbq21
  by_cases c22 : (bq21 = true)
  · subst c22
    have H1 : (ravelinref6_Visible.l0 kj2 l0 a1 x5_1 (wrap64 (x6_1 + 1))) = some r := by rw [if_pos rfl] at H; exact H
    clear H
    have H := H1
    clear H1
    have H' := Aside0.mk H
    clear H
    have p215 : 0 ≤ (x6_1 : Int) := of_decide_eq_true (by first | (with_reducible assumption) | assumption)
    have q215 : x6_1 < (l0.length : Int) := of_decide_eq_true (by first | (with_reducible assumption) | assumption)
    obtain ⟨ad215, e215, hx215_0, hx215_1, hx215_2, hx215_3⟩ := at_T39 HR0.out x6_1 p215 q215
    (try rw [← Nbq21.out] at hx215_2)
    cases e215
    replace hx215_0 := (HB.out.cell (World.block_lt_of_cell? w _ hx215_0)).trans hx215_0
    replace hx215_1 := (HB.out.cell (World.block_lt_of_cell? w _ hx215_1)).trans hx215_1
    replace hx215_2 := (HB.out.cell (World.block_lt_of_cell? w _ hx215_2)).trans hx215_2
    replace hx215_3 := (HB.out.cell (World.block_lt_of_cell? w _ hx215_3)).trans hx215_3
    replace p215 := eq_true p215
    replace q215 := eq_true q215
    have p221 : 0 ≤ ((ji16) : Int) := of_decide_eq_true (by first | (with_reducible assumption) | assumption)
    have q221 : (ji16) < (l0.length : Int) := of_decide_eq_true (by first | (with_reducible assumption) | assumption)
    obtain ⟨ad221, e221, hx221_0, hx221_1, hx221_2, hx221_3⟩ := at_T39 HR0.out (ji16) p221 q221
    (try rw [← Nbq21.out] at hx221_2)
    obtain rfl : ad215 = ad221 := (by injection e221)
    replace hx221_0 := (HB.out.cell (World.block_lt_of_cell? w _ hx221_0)).trans hx221_0
    replace hx221_1 := (HB.out.cell (World.block_lt_of_cell? w _ hx221_1)).trans hx221_1
    replace hx221_2 := (HB.out.cell (World.block_lt_of_cell? w _ hx221_2)).trans hx221_2
    replace hx221_3 := (HB.out.cell (World.block_lt_of_cell? w _ hx221_3)).trans hx221_3
    replace p221 := eq_true p221
    replace q221 := eq_true q221
    have p222 : 0 ≤ (x6_1 : Int) := of_decide_eq_true (by first | (with_reducible assumption) | assumption)
    have q222 : x6_1 < (l0.length : Int) := of_decide_eq_true (by first | (with_reducible assumption) | assumption)
    obtain ⟨ad222, e222, hx222_0, hx222_1, hx222_2, hx222_3⟩ := at_T39 HR0.out x6_1 p222 q222
    (try rw [← Nbq21.out] at hx222_2)
    obtain rfl : ad215 = ad222 := (by injection e222)
    replace hx222_0 := (HB.out.cell (World.block_lt_of_cell? w _ hx222_0)).trans hx222_0
    replace hx222_1 := (HB.out.cell (World.block_lt_of_cell? w _ hx222_1)).trans hx222_1
    replace hx222_2 := (HB.out.cell (World.block_lt_of_cell? w _ hx222_2)).trans hx222_2
    replace hx222_3 := (HB.out.cell (World.block_lt_of_cell? w _ hx222_3)).trans hx222_3
    replace p222 := eq_true p222
    replace q222 := eq_true q222
    have p223 : 0 ≤ ((ji16) : Int) := of_decide_eq_true (by first | (with_reducible assumption) | assumption)
    have q223 : (ji16) < (l0.length : Int) := of_decide_eq_true (by first | (with_reducible assumption) | assumption)
    obtain ⟨ad223, e223, hx223_0, hx223_1, hx223_2, hx223_3⟩ := at_T39 HR0.out (ji16) p223 q223
    (try rw [← Nbq21.out] at hx223_2)
    obtain rfl : ad215 = ad223 := (by injection e223)
    replace hx223_0 := (HB.out.cell (World.block_lt_of_cell? w _ hx223_0)).trans hx223_0
    replace hx223_1 := (HB.out.cell (World.block_lt_of_cell? w _ hx223_1)).trans hx223_1
    replace hx223_2 := (HB.out.cell (World.block_lt_of_cell? w _ hx223_2)).trans hx223_2
    replace hx223_3 := (HB.out.cell (World.block_lt_of_cell? w _ hx223_3)).trans hx223_3
    replace p223 := eq_true p223
    replace q223 := eq_true q223
    have p224 : 0 ≤ (x6_1 : Int) := of_decide_eq_true (by first | (with_reducible assumption) | assumption)
    have q224 : x6_1 < (l0.length : Int) := of_decide_eq_true (by first | (with_reducible assumption) | assumption)
    obtain ⟨ad224, e224, hx224_0, hx224_1, hx224_2, hx224_3⟩ := at_T39 HR0.out x6_1 p224 q224
    (try rw [← Nbq21.out] at hx224_2)
    obtain rfl : ad215 = ad224 := (by injection e224)
    replace hx224_0 := (HB.out.cell (World.block_lt_of_cell? w _ hx224_0)).trans hx224_0
    replace hx224_1 := (HB.out.cell (World.block_lt_of_cell? w _ hx224_1)).trans hx224_1
    replace hx224_2 := (HB.out.cell (World.block_lt_of_cell? w _ hx224_2)).trans hx224_2
    replace hx224_3 := (HB.out.cell (World.block_lt_of_cell? w _ hx224_3)).trans hx224_3
    replace p224 := eq_true p224
    replace q224 := eq_true q224
    go_wp2
    repeat (go_quiet (fail); try go_wp2)
    go_roundg kj2
    case measure => have := HK1.out; have := HJ2.out; omega
    case rel => exact ⟨(x5_1), (wrap64 (x6_1 + 1)), (by first | rfl | (simp; done) | (simp [*]; done)), H', ⟨by have := HK1.out; have := HJ2.out; omega⟩, ⟨by (with_reducible repeat (first | apply Kd.R_alloc | apply Kd.R_drewN | apply Kd.R_drew)); exact HO_5.out⟩, ⟨by repeat (first | (with_reducible first | exact HB.out | apply below_alloc | apply pw_below_drewN | apply below_drew1) | exact HB.out)⟩⟩
  replace c22 := Bool.eq_false_iff.mpr c22
  subst c22
  have H1 : (if x5_1.length < 2932031007402 then (ravelinref6_Visible.l0 kj2 l0 a1 (x5_1 ++ [(⟨(rd_T39 l0 x6_1).f0, (rd_T39 l0 x6_1).f1, false, (rd_T39 l0 x6_1).f3⟩ : S39)]) (wrap64 (x6_1 + 1))) else (none)) = some r := by rw [if_neg (show ¬ (false = true) by decide)] at H; exact H
  clear H
  have H := H1
  clear H1
  by_cases c23 : x5_1.length < 2932031007402
  rotate_left
  · rw [if_neg c23] at H
    exact absurd H (by simp)
  rw [if_pos c23] at H
  have LMc23 := Aside0.mk c23
  clear c23
  obtain ⟨y226, hy226⟩ : ∃ y_ : List (S39), y_ = (x5_1 ++ [(⟨(rd_T39 l0 x6_1).f0, (rd_T39 l0 x6_1).f1, false, (rd_T39 l0 x6_1).f3⟩ : S39)]) := ⟨_, rfl⟩
  replace H : (ravelinref6_Visible.l0 kj2 l0 a1 y226 (wrap64 (x6_1 + 1))) = some r := by first | (rw [hy226]; with_reducible exact H) | (have H2_ := (Option.bind_some _ _).symm.trans H; rw [hy226]; with_reducible exact H2_) | (have H2_ := (Option.bind_some _ _).symm.trans H; with_reducible exact H2_) | with_reducible exact H | (rw [hy226]; exact H) | exact H
  have Ny226 := Aside0.mk hy226
  clear hy226
  have H' := Aside0.mk H
  clear H
  have p215 : 0 ≤ (x6_1 : Int) := of_decide_eq_true (by first | (with_reducible assumption) | assumption)
  have q215 : x6_1 < (l0.length : Int) := of_decide_eq_true (by first | (with_reducible assumption) | assumption)
  obtain ⟨ad215, e215, hx215_0, hx215_1, hx215_2, hx215_3⟩ := at_T39 HR0.out x6_1 p215 q215
  (try rw [← Nbq21.out] at hx215_2)
  cases e215
  replace hx215_0 := (HB.out.cell (World.block_lt_of_cell? w _ hx215_0)).trans hx215_0
  replace hx215_1 := (HB.out.cell (World.block_lt_of_cell? w _ hx215_1)).trans hx215_1
  replace hx215_2 := (HB.out.cell (World.block_lt_of_cell? w _ hx215_2)).trans hx215_2
  replace hx215_3 := (HB.out.cell (World.block_lt_of_cell? w _ hx215_3)).trans hx215_3
  replace p215 := eq_true p215
  replace q215 := eq_true q215
  have p221 : 0 ≤ ((ji16) : Int) := of_decide_eq_true (by first | (with_reducible assumption) | assumption)
  have q221 : (ji16) < (l0.length : Int) := of_decide_eq_true (by first | (with_reducible assumption) | assumption)
  obtain ⟨ad221, e221, hx221_0, hx221_1, hx221_2, hx221_3⟩ := at_T39 HR0.out (ji16) p221 q221
  (try rw [← Nbq21.out] at hx221_2)
  obtain rfl : ad215 = ad221 := (by injection e221)
  replace hx221_0 := (HB.out.cell (World.block_lt_of_cell? w _ hx221_0)).trans hx221_0
  replace hx221_1 := (HB.out.cell (World.block_lt_of_cell? w _ hx221_1)).trans hx221_1
  replace hx221_2 := (HB.out.cell (World.block_lt_of_cell? w _ hx221_2)).trans hx221_2
  replace hx221_3 := (HB.out.cell (World.block_lt_of_cell? w _ hx221_3)).trans hx221_3
  replace p221 := eq_true p221
  replace q221 := eq_true q221
  have p222 : 0 ≤ (x6_1 : Int) := of_decide_eq_true (by first | (with_reducible assumption) | assumption)
  have q222 : x6_1 < (l0.length : Int) := of_decide_eq_true (by first | (with_reducible assumption) | assumption)
  obtain ⟨ad222, e222, hx222_0, hx222_1, hx222_2, hx222_3⟩ := at_T39 HR0.out x6_1 p222 q222
  (try rw [← Nbq21.out] at hx222_2)
  obtain rfl : ad215 = ad222 := (by injection e222)
  replace hx222_0 := (HB.out.cell (World.block_lt_of_cell? w _ hx222_0)).trans hx222_0
  replace hx222_1 := (HB.out.cell (World.block_lt_of_cell? w _ hx222_1)).trans hx222_1
  replace hx222_2 := (HB.out.cell (World.block_lt_of_cell? w _ hx222_2)).trans hx222_2
  replace hx222_3 := (HB.out.cell (World.block_lt_of_cell? w _ hx222_3)).trans hx222_3
  replace p222 := eq_true p222
  replace q222 := eq_true q222
  have p223 : 0 ≤ ((ji16) : Int) := of_decide_eq_true (by first | (with_reducible assumption) | assumption)
  have q223 : (ji16) < (l0.length : Int) := of_decide_eq_true (by first | (with_reducible assumption) | assumption)
  obtain ⟨ad223, e223, hx223_0, hx223_1, hx223_2, hx223_3⟩ := at_T39 HR0.out (ji16) p223 q223
  (try rw [← Nbq21.out] at hx223_2)
  obtain rfl : ad215 = ad223 := (by injection e223)
  replace hx223_0 := (HB.out.cell (World.block_lt_of_cell? w _ hx223_0)).trans hx223_0
  replace hx223_1 := (HB.out.cell (World.block_lt_of_cell? w _ hx223_1)).trans hx223_1
  replace hx223_2 := (HB.out.cell (World.block_lt_of_cell? w _ hx223_2)).trans hx223_2
  replace hx223_3 := (HB.out.cell (World.block_lt_of_cell? w _ hx223_3)).trans hx223_3
  replace p223 := eq_true p223
  replace q223 := eq_true q223
  have p224 : 0 ≤ (x6_1 : Int) := of_decide_eq_true (by first | (with_reducible assumption) | assumption)
  have q224 : x6_1 < (l0.length : Int) := of_decide_eq_true (by first | (with_reducible assumption) | assumption)
  obtain ⟨ad224, e224, hx224_0, hx224_1, hx224_2, hx224_3⟩ := at_T39 HR0.out x6_1 p224 q224
  (try rw [← Nbq21.out] at hx224_2)
  obtain rfl : ad215 = ad224 := (by injection e224)
  replace hx224_0 := (HB.out.cell (World.block_lt_of_cell? w _ hx224_0)).trans hx224_0
  replace hx224_1 := (HB.out.cell (World.block_lt_of_cell? w _ hx224_1)).trans hx224_1
  replace hx224_2 := (HB.out.cell (World.block_lt_of_cell? w _ hx224_2)).trans hx224_2
  replace hx224_3 := (HB.out.cell (World.block_lt_of_cell? w _ hx224_3)).trans hx224_3
  replace p224 := eq_true p224
  replace q224 := eq_true q224
  have p225 : 0 ≤ (x6_1 : Int) := of_decide_eq_true (by first | (with_reducible assumption) | assumption)
  have q225 : x6_1 < (l0.length : Int) := of_decide_eq_true (by first | (with_reducible assumption) | assumption)
  obtain ⟨ad225, e225, hx225_0, hx225_1, hx225_2, hx225_3⟩ := at_T39 HR0.out x6_1 p225 q225
  (try rw [← Nbq21.out] at hx225_2)
  obtain rfl : ad215 = ad225 := (by injection e225)
  replace hx225_0 := (HB.out.cell (World.block_lt_of_cell? w _ hx225_0)).trans hx225_0
  replace hx225_1 := (HB.out.cell (World.block_lt_of_cell? w _ hx225_1)).trans hx225_1
  replace hx225_2 := (HB.out.cell (World.block_lt_of_cell? w _ hx225_2)).trans hx225_2
  replace hx225_3 := (HB.out.cell (World.block_lt_of_cell? w _ hx225_3)).trans hx225_3
  replace p225 := eq_true p225
  replace q225 := eq_true q225
  go_wp2_with (first | ((with_reducible refine gate_builtin (b := .append) (xs := #[.tmp 62, .tmp 67]) rfl ?_); at_builtin; refine Kd.R_append k39 (w0 := w) w.heap.size rfl (.tmp 62) (.tmp 67) 23 39 (.agg #[(.string ⟨#[]⟩), (.int .i64 0), (.bool false), (.string ⟨#[]⟩)]) 48 rfl Try.underlying23 info39 rfl (by decide) (by omega) u5 x5_1 (⟨(rd_T39 l0 x6_1).f0, (rd_T39 l0 x6_1).f1, false, (rd_T39 l0 x6_1).f3⟩ : S39) [.string ((rd_T39 l0 x6_1).f0), .int .i64 ((rd_T39 l0 x6_1).f1), .bool false, .string ((rd_T39 l0 x6_1).f3)] (fun _ => True) (fun _ => False) rfl rfl ?aP (fun _ hk => hk.elim) ?aF ?aO ?aB ?aS ?aL ?_; (case aP => exact k39_mkM _ _ _ (⟨(rd_T39 l0 x6_1).f0, (rd_T39 l0 x6_1).f1, false, (rd_T39 l0 x6_1).f3⟩ : S39)); (case aB => exact (by repeat (first | (with_reducible first | exact HB.out | apply below_alloc | apply pw_below_drewN | apply below_drew1) | exact HB.out))); (case aF => exact (fun _ _ => trivial)); (case aO => exact (by (with_reducible repeat (first | apply Kd.R_alloc | apply Kd.R_drewN | apply Kd.R_drew)); exact HO_5.out)); (case aS => exact (below_size (by repeat (first | (with_reducible first | exact HB.out | apply below_alloc | apply pw_below_drewN | apply below_drew1) | exact HB.out)))); (case aL => have := LMc23.out; omega); intro v227 w24 ho hb hg hat; rw [← Ny226.out] at ho; have n0_ := Aside0.mk (hb); have n1_ := Aside0.mk (ho); clear HB; clear HO_5; have HB := n0_; have HO228 := n1_; clear n0_ n1_; clear ho hb hg hat))
  repeat (go_quiet (first | ((with_reducible refine gate_builtin (b := .append) (xs := #[.tmp 62, .tmp 67]) rfl ?_); at_builtin; refine Kd.R_append k39 (w0 := w) w.heap.size rfl (.tmp 62) (.tmp 67) 23 39 (.agg #[(.string ⟨#[]⟩), (.int .i64 0), (.bool false), (.string ⟨#[]⟩)]) 48 rfl Try.underlying23 info39 rfl (by decide) (by omega) u5 x5_1 (⟨(rd_T39 l0 x6_1).f0, (rd_T39 l0 x6_1).f1, false, (rd_T39 l0 x6_1).f3⟩ : S39) [.string ((rd_T39 l0 x6_1).f0), .int .i64 ((rd_T39 l0 x6_1).f1), .bool false, .string ((rd_T39 l0 x6_1).f3)] (fun _ => True) (fun _ => False) rfl rfl ?aP (fun _ hk => hk.elim) ?aF ?aO ?aB ?aS ?aL ?_; (case aP => exact k39_mkM _ _ _ (⟨(rd_T39 l0 x6_1).f0, (rd_T39 l0 x6_1).f1, false, (rd_T39 l0 x6_1).f3⟩ : S39)); (case aB => exact (by repeat (first | (with_reducible first | exact HB.out | apply below_alloc | apply pw_below_drewN | apply below_drew1) | exact HB.out))); (case aF => exact (fun _ _ => trivial)); (case aO => exact (by (with_reducible repeat (first | apply Kd.R_alloc | apply Kd.R_drewN | apply Kd.R_drew)); exact HO_5.out)); (case aS => exact (below_size (by repeat (first | (with_reducible first | exact HB.out | apply below_alloc | apply pw_below_drewN | apply below_drew1) | exact HB.out)))); (case aL => have := LMc23.out; omega); intro v227 w24 ho hb hg hat; rw [← Ny226.out] at ho; have n0_ := Aside0.mk (hb); have n1_ := Aside0.mk (ho); clear HB; clear HO_5; have HB := n0_; have HO228 := n1_; clear n0_ n1_; clear ho hb hg hat)); try go_wp2_with (first | ((with_reducible refine gate_builtin (b := .append) (xs := #[.tmp 62, .tmp 67]) rfl ?_); at_builtin; refine Kd.R_append k39 (w0 := w) w.heap.size rfl (.tmp 62) (.tmp 67) 23 39 (.agg #[(.string ⟨#[]⟩), (.int .i64 0), (.bool false), (.string ⟨#[]⟩)]) 48 rfl Try.underlying23 info39 rfl (by decide) (by omega) u5 x5_1 (⟨(rd_T39 l0 x6_1).f0, (rd_T39 l0 x6_1).f1, false, (rd_T39 l0 x6_1).f3⟩ : S39) [.string ((rd_T39 l0 x6_1).f0), .int .i64 ((rd_T39 l0 x6_1).f1), .bool false, .string ((rd_T39 l0 x6_1).f3)] (fun _ => True) (fun _ => False) rfl rfl ?aP (fun _ hk => hk.elim) ?aF ?aO ?aB ?aS ?aL ?_; (case aP => exact k39_mkM _ _ _ (⟨(rd_T39 l0 x6_1).f0, (rd_T39 l0 x6_1).f1, false, (rd_T39 l0 x6_1).f3⟩ : S39)); (case aB => exact (by repeat (first | (with_reducible first | exact HB.out | apply below_alloc | apply pw_below_drewN | apply below_drew1) | exact HB.out))); (case aF => exact (fun _ _ => trivial)); (case aO => exact (by (with_reducible repeat (first | apply Kd.R_alloc | apply Kd.R_drewN | apply Kd.R_drew)); exact HO_5.out)); (case aS => exact (below_size (by repeat (first | (with_reducible first | exact HB.out | apply below_alloc | apply pw_below_drewN | apply below_drew1) | exact HB.out)))); (case aL => have := LMc23.out; omega); intro v227 w24 ho hb hg hat; rw [← Ny226.out] at ho; have n0_ := Aside0.mk (hb); have n1_ := Aside0.mk (ho); clear HB; clear HO_5; have HB := n0_; have HO228 := n1_; clear n0_ n1_; clear ho hb hg hat)))
  go_roundg kj2
  case measure => have := HK1.out; have := HJ2.out; omega
  case rel => exact ⟨(y226), (wrap64 (x6_1 + 1)), (by first | rfl | (simp; done) | (simp [*]; done)), H', ⟨by have := HK1.out; have := HJ2.out; omega⟩, ⟨by (with_reducible repeat (first | apply Kd.R_alloc | apply Kd.R_drewN | apply Kd.R_drew)); exact HO228.out⟩, ⟨by repeat (first | (with_reducible first | exact HB.out | apply below_alloc | apply pw_below_drewN | apply below_drew1) | exact HB.out)⟩⟩

/-! ### ravelinref6_IsWrite: function 32 -/
def ravelinref6_IsWrite.f (a0_0 : ByteArray) (a0_1 : Bool) (a0_2 : ByteArray) : Option (Bool) := if (a0_0.size : Int) ≥ 1 then (if (a0_0.size : Int) ≤ 13 then (if (a0_2.size : Int) ≤ 24 then (if a0_1 = true then (some (a0_2.toList == ([] : List UInt8))) else (some true)) else (some false)) else (some false)) else (some false)
set_option maxHeartbeats 8000000 in
set_option maxRecDepth 100000 in
theorem ravelinref6_IsWrite.calls (a0_0 : ByteArray) (a0_1 : Bool) (a0_2 : ByteArray) (r : Bool) (w : World) (h : ravelinref6_IsWrite.f a0_0 a0_1 a0_2 = some r) :
    Calls Try.prog 32 #[.agg #[.string a0_0, .bool a0_1, .string a0_2]] w fun e w' => e = .returned (.bool r) ∧ Below w.heap.size w w' := by
  have hu62 := Try.underlying62
  have HB := Aside0.mk (Below.refl w.heap.size w)
  have H : (if (a0_0.size : Int) ≥ 1 then (if (a0_0.size : Int) ≤ 13 then (if (a0_2.size : Int) ≤ 24 then (if a0_1 = true then (some (a0_2.toList == ([] : List UInt8))) else (some true)) else (some false)) else (some false)) else (some false)) = some r := h
  clear h
  by_cases c2 : (a0_0.size : Int) ≥ 1
  rotate_left
  · rw [if_neg c2] at H
    have c2b0 : decide (1 ≤ (a0_0.size : Int)) = false := decide_eq_false c2
    have c2b1 : decide (1 ≤ a0_0.size) = false := decide_eq_false (by omega)
    clear c2
    obtain rfl := Option.some.inj H
    go_enter Try.func32, Try.ntmps32
    go_wp2_with (first | ((with_reducible refine gate_dst (N := 1) rfl ?_); (try (refine gate_guard (by rfl) ?_; dsimp only)); refine box_event ?hg (N := 1) ?hd (cs := #[.string a0_0, .bool a0_1, .string a0_2]) (t := 62) ?hr ?_; (case hd => rfl); (case hg => rfl); (case hr => first | (go_simp; done) | (go_simp; rfl)); intro gb234 hg w14 hbox hb; have n0_ := Aside0.mk (below_step (by repeat (first | (with_reducible first | exact HB.out | apply below_alloc | apply pw_below_drewN | apply below_drew1) | exact HB.out)) hb); have n1_ := Aside0.mk (hbox); have n2_ := Aside0.mk ((by rw [hg]; exact (below_size (by repeat (first | (with_reducible first | exact HB.out | apply below_alloc | apply pw_below_drewN | apply below_drew1) | exact HB.out))) : w.heap.size ≤ gb234)); have n3_ := Aside0.mk ((by rw [hg]; exact (below_size (by repeat (first | (with_reducible first | exact HB.out | apply below_alloc | apply pw_below_drewN | apply below_drew1) | exact HB.out))) : w.heap.size ≤ gb234)); clear HB; have HB := n0_; have BK234 := n1_; have GW234 := n2_; have GE234 := n3_; clear n0_ n1_ n2_ n3_; clear hb hbox hg; have hcz15_0 : w14.cell? ⟨gb234, 0, none⟩ = some (.string a0_0) := (blk_cell BK234.out 0).trans rfl; have hcz15_1 : w14.cell? ⟨gb234, 1, none⟩ = some (.bool a0_1) := (blk_cell BK234.out 1).trans rfl; have hcz15_2 : w14.cell? ⟨gb234, 2, none⟩ = some (.string a0_2) := (blk_cell BK234.out 2).trans rfl; have hfz15_0 := blk_frozen BK234.out 0; have hfz15_1 := blk_frozen BK234.out 1; have hfz15_2 := blk_frozen BK234.out 2))
    go_ret
    exact ⟨by first | rfl | (simp [errW_none, errW_some] <;> rfl) | (simp [*, errW_none, errW_some] <;> rfl), by repeat (first | (with_reducible first | exact HB.out | apply below_alloc | apply pw_below_drewN | apply below_drew1 | refine below_set ?_ GE234.out) | exact HB.out)⟩
  rw [if_pos c2] at H
  have c2b0 : decide (1 ≤ (a0_0.size : Int)) = true := decide_eq_true c2
  have c2b1 : decide (1 ≤ a0_0.size) = true := decide_eq_true (by omega)
  clear c2
  by_cases c3 : (a0_0.size : Int) ≤ 13
  rotate_left
  · rw [if_neg c3] at H
    have c3b0 : decide ((a0_0.size : Int) ≤ 13) = false := decide_eq_false c3
    have c3b1 : decide (a0_0.size ≤ 13) = false := decide_eq_false (by omega)
    clear c3
    obtain rfl := Option.some.inj H
    go_enter Try.func32, Try.ntmps32
    go_wp2_with (first | ((with_reducible refine gate_dst (N := 1) rfl ?_); (try (refine gate_guard (by rfl) ?_; dsimp only)); refine box_event ?hg (N := 1) ?hd (cs := #[.string a0_0, .bool a0_1, .string a0_2]) (t := 62) ?hr ?_; (case hd => rfl); (case hg => rfl); (case hr => first | (go_simp; done) | (go_simp; rfl)); intro gb234 hg w12 hbox hb; have n0_ := Aside0.mk (below_step (by repeat (first | (with_reducible first | exact HB.out | apply below_alloc | apply pw_below_drewN | apply below_drew1) | exact HB.out)) hb); have n1_ := Aside0.mk (hbox); have n2_ := Aside0.mk ((by rw [hg]; exact (below_size (by repeat (first | (with_reducible first | exact HB.out | apply below_alloc | apply pw_below_drewN | apply below_drew1) | exact HB.out))) : w.heap.size ≤ gb234)); have n3_ := Aside0.mk ((by rw [hg]; exact (below_size (by repeat (first | (with_reducible first | exact HB.out | apply below_alloc | apply pw_below_drewN | apply below_drew1) | exact HB.out))) : w.heap.size ≤ gb234)); clear HB; have HB := n0_; have BK234 := n1_; have GW234 := n2_; have GE234 := n3_; clear n0_ n1_ n2_ n3_; clear hb hbox hg; have hcz13_0 : w12.cell? ⟨gb234, 0, none⟩ = some (.string a0_0) := (blk_cell BK234.out 0).trans rfl; have hcz13_1 : w12.cell? ⟨gb234, 1, none⟩ = some (.bool a0_1) := (blk_cell BK234.out 1).trans rfl; have hcz13_2 : w12.cell? ⟨gb234, 2, none⟩ = some (.string a0_2) := (blk_cell BK234.out 2).trans rfl; have hfz13_0 := blk_frozen BK234.out 0; have hfz13_1 := blk_frozen BK234.out 1; have hfz13_2 := blk_frozen BK234.out 2))
    go_ret
    exact ⟨by first | rfl | (simp [errW_none, errW_some] <;> rfl) | (simp [*, errW_none, errW_some] <;> rfl), by repeat (first | (with_reducible first | exact HB.out | apply below_alloc | apply pw_below_drewN | apply below_drew1 | refine below_set ?_ GE234.out) | exact HB.out)⟩
  rw [if_pos c3] at H
  have c3b0 : decide ((a0_0.size : Int) ≤ 13) = true := decide_eq_true c3
  have c3b1 : decide (a0_0.size ≤ 13) = true := decide_eq_true (by omega)
  clear c3
  by_cases c4 : (a0_2.size : Int) ≤ 24
  rotate_left
  · rw [if_neg c4] at H
    have c4b0 : decide ((a0_2.size : Int) ≤ 24) = false := decide_eq_false c4
    have c4b1 : decide (a0_2.size ≤ 24) = false := decide_eq_false (by omega)
    clear c4
    obtain rfl := Option.some.inj H
    go_enter Try.func32, Try.ntmps32
    go_wp2_with (first | ((with_reducible refine gate_dst (N := 1) rfl ?_); (try (refine gate_guard (by rfl) ?_; dsimp only)); refine box_event ?hg (N := 1) ?hd (cs := #[.string a0_0, .bool a0_1, .string a0_2]) (t := 62) ?hr ?_; (case hd => rfl); (case hg => rfl); (case hr => first | (go_simp; done) | (go_simp; rfl)); intro gb234 hg w10 hbox hb; have n0_ := Aside0.mk (below_step (by repeat (first | (with_reducible first | exact HB.out | apply below_alloc | apply pw_below_drewN | apply below_drew1) | exact HB.out)) hb); have n1_ := Aside0.mk (hbox); have n2_ := Aside0.mk ((by rw [hg]; exact (below_size (by repeat (first | (with_reducible first | exact HB.out | apply below_alloc | apply pw_below_drewN | apply below_drew1) | exact HB.out))) : w.heap.size ≤ gb234)); have n3_ := Aside0.mk ((by rw [hg]; exact (below_size (by repeat (first | (with_reducible first | exact HB.out | apply below_alloc | apply pw_below_drewN | apply below_drew1) | exact HB.out))) : w.heap.size ≤ gb234)); clear HB; have HB := n0_; have BK234 := n1_; have GW234 := n2_; have GE234 := n3_; clear n0_ n1_ n2_ n3_; clear hb hbox hg; have hcz11_0 : w10.cell? ⟨gb234, 0, none⟩ = some (.string a0_0) := (blk_cell BK234.out 0).trans rfl; have hcz11_1 : w10.cell? ⟨gb234, 1, none⟩ = some (.bool a0_1) := (blk_cell BK234.out 1).trans rfl; have hcz11_2 : w10.cell? ⟨gb234, 2, none⟩ = some (.string a0_2) := (blk_cell BK234.out 2).trans rfl; have hfz11_0 := blk_frozen BK234.out 0; have hfz11_1 := blk_frozen BK234.out 1; have hfz11_2 := blk_frozen BK234.out 2))
    go_ret
    exact ⟨by first | rfl | (simp [errW_none, errW_some] <;> rfl) | (simp [*, errW_none, errW_some] <;> rfl), by repeat (first | (with_reducible first | exact HB.out | apply below_alloc | apply pw_below_drewN | apply below_drew1 | refine below_set ?_ GE234.out) | exact HB.out)⟩
  rw [if_pos c4] at H
  have c4b0 : decide ((a0_2.size : Int) ≤ 24) = true := decide_eq_true c4
  have c4b1 : decide (a0_2.size ≤ 24) = true := decide_eq_true (by omega)
  clear c4
  by_cases c5 : a0_1 = true
  · subst c5
    have H1 : (some (a0_2.toList == ([] : List UInt8))) = some r := by rw [if_pos rfl] at H; exact H
    clear H
    have H := H1
    clear H1
    obtain rfl := Option.some.inj H
    go_enter Try.func32, Try.ntmps32
    go_wp2_with (first | ((with_reducible refine gate_dst (N := 1) rfl ?_); (try (refine gate_guard (by rfl) ?_; dsimp only)); refine box_event ?hg (N := 1) ?hd (cs := #[.string a0_0, .bool true, .string a0_2]) (t := 62) ?hr ?_; (case hd => rfl); (case hg => rfl); (case hr => first | (go_simp; done) | (go_simp; rfl)); intro gb234 hg w6 hbox hb; have n0_ := Aside0.mk (below_step (by repeat (first | (with_reducible first | exact HB.out | apply below_alloc | apply pw_below_drewN | apply below_drew1) | exact HB.out)) hb); have n1_ := Aside0.mk (hbox); have n2_ := Aside0.mk ((by rw [hg]; exact (below_size (by repeat (first | (with_reducible first | exact HB.out | apply below_alloc | apply pw_below_drewN | apply below_drew1) | exact HB.out))) : w.heap.size ≤ gb234)); have n3_ := Aside0.mk ((by rw [hg]; exact (below_size (by repeat (first | (with_reducible first | exact HB.out | apply below_alloc | apply pw_below_drewN | apply below_drew1) | exact HB.out))) : w.heap.size ≤ gb234)); clear HB; have HB := n0_; have BK234 := n1_; have GW234 := n2_; have GE234 := n3_; clear n0_ n1_ n2_ n3_; clear hb hbox hg; have hcz7_0 : w6.cell? ⟨gb234, 0, none⟩ = some (.string a0_0) := (blk_cell BK234.out 0).trans rfl; have hcz7_1 : w6.cell? ⟨gb234, 1, none⟩ = some (.bool true) := (blk_cell BK234.out 1).trans rfl; have hcz7_2 : w6.cell? ⟨gb234, 2, none⟩ = some (.string a0_2) := (blk_cell BK234.out 2).trans rfl; have hfz7_0 := blk_frozen BK234.out 0; have hfz7_1 := blk_frozen BK234.out 1; have hfz7_2 := blk_frozen BK234.out 2))
    go_ret
    exact ⟨by first | rfl | (simp [errW_none, errW_some] <;> rfl) | (simp [*, errW_none, errW_some] <;> rfl), by repeat (first | (with_reducible first | exact HB.out | apply below_alloc | apply pw_below_drewN | apply below_drew1 | refine below_set ?_ GE234.out) | exact HB.out)⟩
  replace c5 := Bool.eq_false_iff.mpr c5
  subst c5
  have H1 : (some true) = some r := by rw [if_neg (show ¬ (false = true) by decide)] at H; exact H
  clear H
  have H := H1
  clear H1
  obtain rfl := Option.some.inj H
  go_enter Try.func32, Try.ntmps32
  go_wp2_with (first | ((with_reducible refine gate_dst (N := 1) rfl ?_); (try (refine gate_guard (by rfl) ?_; dsimp only)); refine box_event ?hg (N := 1) ?hd (cs := #[.string a0_0, .bool false, .string a0_2]) (t := 62) ?hr ?_; (case hd => rfl); (case hg => rfl); (case hr => first | (go_simp; done) | (go_simp; rfl)); intro gb234 hg w8 hbox hb; have n0_ := Aside0.mk (below_step (by repeat (first | (with_reducible first | exact HB.out | apply below_alloc | apply pw_below_drewN | apply below_drew1) | exact HB.out)) hb); have n1_ := Aside0.mk (hbox); have n2_ := Aside0.mk ((by rw [hg]; exact (below_size (by repeat (first | (with_reducible first | exact HB.out | apply below_alloc | apply pw_below_drewN | apply below_drew1) | exact HB.out))) : w.heap.size ≤ gb234)); have n3_ := Aside0.mk ((by rw [hg]; exact (below_size (by repeat (first | (with_reducible first | exact HB.out | apply below_alloc | apply pw_below_drewN | apply below_drew1) | exact HB.out))) : w.heap.size ≤ gb234)); clear HB; have HB := n0_; have BK234 := n1_; have GW234 := n2_; have GE234 := n3_; clear n0_ n1_ n2_ n3_; clear hb hbox hg; have hcz9_0 : w8.cell? ⟨gb234, 0, none⟩ = some (.string a0_0) := (blk_cell BK234.out 0).trans rfl; have hcz9_1 : w8.cell? ⟨gb234, 1, none⟩ = some (.bool false) := (blk_cell BK234.out 1).trans rfl; have hcz9_2 : w8.cell? ⟨gb234, 2, none⟩ = some (.string a0_2) := (blk_cell BK234.out 2).trans rfl; have hfz9_0 := blk_frozen BK234.out 0; have hfz9_1 := blk_frozen BK234.out 1; have hfz9_2 := blk_frozen BK234.out 2))
  go_ret
  exact ⟨by first | rfl | (simp [errW_none, errW_some] <;> rfl) | (simp [*, errW_none, errW_some] <;> rfl), by repeat (first | (with_reducible first | exact HB.out | apply below_alloc | apply pw_below_drewN | apply below_drew1 | refine below_set ?_ GE234.out) | exact HB.out)⟩

/-! ### ravelinref6_Is: function 19 -/
def ravelinref6_Is.f (a0_0 : ByteArray) (a0_1 : Int) (a0_2 : Bool) (a0_3 : ByteArray) : Option (Bool) := if a0_1 ≥ 1 then (if a0_1 ≤ 1000000 then ((ravelinref6_IsWrite.f a0_0 a0_2 a0_3).bind fun t236 => (some t236)) else (some false)) else (some false)
set_option maxHeartbeats 8000000 in
set_option maxRecDepth 100000 in
theorem ravelinref6_Is.calls (a0_0 : ByteArray) (a0_1 : Int) (a0_2 : Bool) (a0_3 : ByteArray) (r : Bool) (w : World) (h : ravelinref6_Is.f a0_0 a0_1 a0_2 a0_3 = some r) :
    Calls Try.prog 19 #[.agg #[.string a0_0, .int .i64 a0_1, .bool a0_2, .string a0_3]] w fun e w' => e = .returned (.bool r) ∧ Below w.heap.size w w' := by
  have hu39 := Try.underlying39
  have hu62 := Try.underlying62
  have HB := Aside0.mk (Below.refl w.heap.size w)
  have H : (if a0_1 ≥ 1 then (if a0_1 ≤ 1000000 then ((ravelinref6_IsWrite.f a0_0 a0_2 a0_3).bind fun t236 => (some t236)) else (some false)) else (some false)) = some r := h
  clear h
  by_cases c2 : a0_1 ≥ 1
  rotate_left
  · rw [if_neg c2] at H
    have c2b0 : decide (1 ≤ a0_1) = false := decide_eq_false c2
    clear c2
    obtain rfl := Option.some.inj H
    go_enter Try.func19, Try.ntmps19
    go_wp2_with (first | ((with_reducible refine gate_dst (N := 1) rfl ?_); refine box_event ?hg (N := 1) ?hd (cs := #[.string a0_0, .int .i64 a0_1, .bool a0_2, .string a0_3]) (t := 39) ?hr ?_; (case hd => rfl); (case hg => rfl); (case hr => first | (go_simp; done) | (go_simp; rfl)); intro gb235 hg w10 hbox hb; have n0_ := Aside0.mk (below_step (by repeat (first | (with_reducible first | exact HB.out | apply below_alloc | apply pw_below_drewN | apply below_drew1) | exact HB.out)) hb); have n1_ := Aside0.mk (hbox); have n2_ := Aside0.mk ((by rw [hg]; exact (below_size (by repeat (first | (with_reducible first | exact HB.out | apply below_alloc | apply pw_below_drewN | apply below_drew1) | exact HB.out))) : w.heap.size ≤ gb235)); have n3_ := Aside0.mk ((by rw [hg]; exact (below_size (by repeat (first | (with_reducible first | exact HB.out | apply below_alloc | apply pw_below_drewN | apply below_drew1) | exact HB.out))) : w.heap.size ≤ gb235)); clear HB; have HB := n0_; have BK235 := n1_; have GW235 := n2_; have GE235 := n3_; clear n0_ n1_ n2_ n3_; clear hb hbox hg; have hcz11_0 : w10.cell? ⟨gb235, 0, none⟩ = some (.string a0_0) := (blk_cell BK235.out 0).trans rfl; have hcz11_1 : w10.cell? ⟨gb235, 1, none⟩ = some (.int .i64 a0_1) := (blk_cell BK235.out 1).trans rfl; have hcz11_2 : w10.cell? ⟨gb235, 2, none⟩ = some (.bool a0_2) := (blk_cell BK235.out 2).trans rfl; have hcz11_3 : w10.cell? ⟨gb235, 3, none⟩ = some (.string a0_3) := (blk_cell BK235.out 3).trans rfl; have hfz11_0 := blk_frozen BK235.out 0; have hfz11_1 := blk_frozen BK235.out 1; have hfz11_2 := blk_frozen BK235.out 2; have hfz11_3 := blk_frozen BK235.out 3))
    go_ret
    exact ⟨by first | rfl | (simp [errW_none, errW_some] <;> rfl) | (simp [*, errW_none, errW_some] <;> rfl), by repeat (first | (with_reducible first | exact HB.out | apply below_alloc | apply pw_below_drewN | apply below_drew1 | refine below_set ?_ GE235.out) | exact HB.out)⟩
  rw [if_pos c2] at H
  have c2b0 : decide (1 ≤ a0_1) = true := decide_eq_true c2
  clear c2
  by_cases c3 : a0_1 ≤ 1000000
  rotate_left
  · rw [if_neg c3] at H
    have c3b0 : decide (a0_1 ≤ 1000000) = false := decide_eq_false c3
    clear c3
    obtain rfl := Option.some.inj H
    go_enter Try.func19, Try.ntmps19
    go_wp2_with (first | ((with_reducible refine gate_dst (N := 1) rfl ?_); refine box_event ?hg (N := 1) ?hd (cs := #[.string a0_0, .int .i64 a0_1, .bool a0_2, .string a0_3]) (t := 39) ?hr ?_; (case hd => rfl); (case hg => rfl); (case hr => first | (go_simp; done) | (go_simp; rfl)); intro gb235 hg w8 hbox hb; have n0_ := Aside0.mk (below_step (by repeat (first | (with_reducible first | exact HB.out | apply below_alloc | apply pw_below_drewN | apply below_drew1) | exact HB.out)) hb); have n1_ := Aside0.mk (hbox); have n2_ := Aside0.mk ((by rw [hg]; exact (below_size (by repeat (first | (with_reducible first | exact HB.out | apply below_alloc | apply pw_below_drewN | apply below_drew1) | exact HB.out))) : w.heap.size ≤ gb235)); have n3_ := Aside0.mk ((by rw [hg]; exact (below_size (by repeat (first | (with_reducible first | exact HB.out | apply below_alloc | apply pw_below_drewN | apply below_drew1) | exact HB.out))) : w.heap.size ≤ gb235)); clear HB; have HB := n0_; have BK235 := n1_; have GW235 := n2_; have GE235 := n3_; clear n0_ n1_ n2_ n3_; clear hb hbox hg; have hcz9_0 : w8.cell? ⟨gb235, 0, none⟩ = some (.string a0_0) := (blk_cell BK235.out 0).trans rfl; have hcz9_1 : w8.cell? ⟨gb235, 1, none⟩ = some (.int .i64 a0_1) := (blk_cell BK235.out 1).trans rfl; have hcz9_2 : w8.cell? ⟨gb235, 2, none⟩ = some (.bool a0_2) := (blk_cell BK235.out 2).trans rfl; have hcz9_3 : w8.cell? ⟨gb235, 3, none⟩ = some (.string a0_3) := (blk_cell BK235.out 3).trans rfl; have hfz9_0 := blk_frozen BK235.out 0; have hfz9_1 := blk_frozen BK235.out 1; have hfz9_2 := blk_frozen BK235.out 2; have hfz9_3 := blk_frozen BK235.out 3))
    go_ret
    exact ⟨by first | rfl | (simp [errW_none, errW_some] <;> rfl) | (simp [*, errW_none, errW_some] <;> rfl), by repeat (first | (with_reducible first | exact HB.out | apply below_alloc | apply pw_below_drewN | apply below_drew1 | refine below_set ?_ GE235.out) | exact HB.out)⟩
  rw [if_pos c3] at H
  have c3b0 : decide (a0_1 ≤ 1000000) = true := decide_eq_true c3
  clear c3
  replace H := Option.bind_eq_some_iff.mp H
  obtain ⟨t236, A40, H⟩ := H
  replace H : (some t236) = some r := H
  have A4 := Aside0.mk A40
  clear A40
  obtain rfl := Option.some.inj H
  go_enter Try.func19, Try.ntmps19
  go_wp2_with (first | ((with_reducible refine gate_dst (N := 1) rfl ?_); refine box_event ?hg (N := 1) ?hd (cs := #[.string a0_0, .int .i64 a0_1, .bool a0_2, .string a0_3]) (t := 39) ?hr ?_; (case hd => rfl); (case hg => rfl); (case hr => first | (go_simp; done) | (go_simp; rfl)); intro gb235 hg w5 hbox hb; have n0_ := Aside0.mk (below_step (by repeat (first | (with_reducible first | exact HB.out | apply below_alloc | apply pw_below_drewN | apply below_drew1) | exact HB.out)) hb); have n1_ := Aside0.mk (hbox); have n2_ := Aside0.mk ((by rw [hg]; exact (below_size (by repeat (first | (with_reducible first | exact HB.out | apply below_alloc | apply pw_below_drewN | apply below_drew1) | exact HB.out))) : w.heap.size ≤ gb235)); have n3_ := Aside0.mk ((by rw [hg]; exact (below_size (by repeat (first | (with_reducible first | exact HB.out | apply below_alloc | apply pw_below_drewN | apply below_drew1) | exact HB.out))) : w.heap.size ≤ gb235)); clear HB; have HB := n0_; have BK235 := n1_; have GW235 := n2_; have GE235 := n3_; clear n0_ n1_ n2_ n3_; clear hb hbox hg; have hcz6_0 : w5.cell? ⟨gb235, 0, none⟩ = some (.string a0_0) := (blk_cell BK235.out 0).trans rfl; have hcz6_1 : w5.cell? ⟨gb235, 1, none⟩ = some (.int .i64 a0_1) := (blk_cell BK235.out 1).trans rfl; have hcz6_2 : w5.cell? ⟨gb235, 2, none⟩ = some (.bool a0_2) := (blk_cell BK235.out 2).trans rfl; have hcz6_3 : w5.cell? ⟨gb235, 3, none⟩ = some (.string a0_3) := (blk_cell BK235.out 3).trans rfl; have hfz6_0 := blk_frozen BK235.out 0; have hfz6_1 := blk_frozen BK235.out 1; have hfz6_2 := blk_frozen BK235.out 2; have hfz6_3 := blk_frozen BK235.out 3) | (go_at_call 32; (with_reducible refine (ravelinref6_IsWrite.calls a0_0 a0_2 a0_3 t236 _ A4.out).mono ?_); rintro e w7 ⟨rfl, hb⟩; have n0_ := Aside0.mk (blk_below (g := gb235) (o := .cells #[.string a0_0, .int .i64 a0_1, .bool a0_2, .string a0_3] 39 (0, 0)) (by (with_reducible repeat (first | refine blk_drewN ?_ _ | refine blk_drew ?_ | refine blk_alloc ?_ _)); exact BK235.out) hb); have n1_ := Aside0.mk (below_step (by repeat (first | (with_reducible first | exact HB.out | apply below_alloc | apply pw_below_drewN | apply below_drew1 | refine below_set ?_ GE235.out) | exact HB.out)) hb); clear BK235; clear HB; have BK235 := n0_; have HB := n1_; clear n0_ n1_; (try clear hb); (try clear hb2); (try clear hk); (try clear hi)))
  go_ret
  exact ⟨by first | rfl | (simp [errW_none, errW_some] <;> rfl) | (simp [*, errW_none, errW_some] <;> rfl), by repeat (first | (with_reducible first | exact HB.out | apply below_alloc | apply pw_below_drewN | apply below_drew1 | refine below_set ?_ GE235.out) | exact HB.out)⟩

end Go.Proofs.Ytjcpdbekdimceaa.P
