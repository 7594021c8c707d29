-- Printed by a changed copy of the kit's printer (wip/tools/ext.py); labels and more
import Derived.Test.YtnjbmcjhhadojaaM0
import Derived.Test.YtnjbmcjhhadojaaM1
import Derived.Test.YtnjbmcjhhadojaaM5
import Derived.Test.YtnjbmcjhhadojaaM6
namespace Go.Proofs.Ytnjbmcjhhadojaa.P
open Go.RowKit Go.Proofs.YtnjbmcjhhadojaaW.PrintWords Go.Proofs.YtnjbmcjhhadojaaW.PrintLast Go.Proofs.YtnjbmcjhhadojaaW.PrintMore
attribute [local go_sem] max2_int min2_int max_two min_two max_three min_three max_four min_four   -- for this text's walks alone
attribute [local go_sem high] string_leq string_geq string_gtr
set_option linter.unusedVariables false
set_option linter.unusedSimpArgs false

attribute [local go_sem high] eqA49
/-! ### ravelinlaw12_BatchNeat: function 5 -/
theorem arr8_row {W : World} {g base : Nat} (hbox : W.heap[g]? = some (.cells #[.int .i64 0, .int .i64 0, .int .i64 0, .int .i64 0, .int .i64 0, .int .i64 0, .int .i64 0, .int .i64 0] 47 (0, 0))) (hb : base ≤ g) :
    Kd.R (Kd.int .i64) 47 W base (fun _ => True) (.slice (some ⟨g, 0, none⟩) 8 8) (List.replicate 8 0) := by
  refine ⟨fun _ _ => trivial, List.replicate 8 (Value.int .i64 0), ⟨rfl, .inr ⟨g, 8, _, rfl, hb, hbox, Nat.le_refl _, by decide, rfl, rfl⟩⟩, rfl, fun j p hj => ?_⟩
  have hj8 : j < 8 := (List.getElem?_eq_some_iff.1 hj).1
  have hp : p = 0 := by
    have := List.mem_of_getElem? hj
    exact List.eq_of_mem_replicate this
  subst hp
  show ((List.replicate 8 (Value.int .i64 0)).drop (j * 1)).take 1 = [Value.int .i64 0]
  rcases j with _ | _ | _ | _ | _ | _ | _ | _ | j
  all_goals first | rfl | omega
mutual
def ravelinlaw12_BatchNeat.l0 : Nat → List Int → List (S49) → List Int → Int → Option (Bool)
  | 0, _, _, _, _ => none
  | k + 1, x0, x3, x4, x5 => if x5 < (x0.length : Int) then (if 0 ≤ x5 then (if 0 ≤ (wrap64 (Int.tmod (rd x0 x5) 8)) then (if (wrap64 (Int.tmod (rd x0 x5) 8)) < (x4.length : Int) then (if x3.length < 3518437208883 then (ravelinlaw12_BatchNeat.l0 k x0 (x3 ++ [(⟨strOfNums (([(wrap64 (97 + (wrap64 (Int.tmod (rd x0 x5) 8)))) % 256] : List Int)), false, strOfNums (([(wrap64 (65 + x5)) % 256] : List Int))⟩ : S49)]) (x4.set ((wrap64 (Int.tmod (rd x0 x5) 8)) : Int).toNat (wrap64 (x5 + 1))) (wrap64 (x5 + 1))) else (none)) else (none)) else (none)) else (none)) else ((batch_Neat.f k x3).bind fun t264 => (ravelinlaw12_BatchNeat.l1 k x3 x4 t264 0 0))
def ravelinlaw12_BatchNeat.l1 : Nat → List (S49) → List Int → List (S49) → Int → Int → Option (Bool)
  | 0, _, _, _, _, _ => none
  | k + 1, x3, x4, x7, x8, x9 => if x9 < 8 then (if 0 ≤ x9 then (if x9 < (x4.length : Int) then (if (rd x4 x9) = 0 then (ravelinlaw12_BatchNeat.l1 k x3 x4 x7 x8 (wrap64 (x9 + 1))) else (if x8 ≥ (x7.length : Int) then (some false) else (if 0 ≤ x8 then (if x8 < (x7.length : Int) then (if 0 ≤ (wrap64 ((rd x4 x9) - 1)) then (if (wrap64 ((rd x4 x9) - 1)) < (x3.length : Int) then (if (!((((rd_T49 x7 x8).f0).toList) == (((rd_T49 x3 (wrap64 ((rd x4 x9) - 1))).f0).toList)) || (!(((rd_T49 x7 x8).f1) == ((rd_T49 x3 (wrap64 ((rd x4 x9) - 1))).f1)) || (!((((rd_T49 x7 x8).f2).toList) == (((rd_T49 x3 (wrap64 ((rd x4 x9) - 1))).f2).toList))))) = true then (some false) else (ravelinlaw12_BatchNeat.l1 k x3 x4 x7 (wrap64 (x8 + 1)) (wrap64 (x9 + 1)))) else (none)) else (none)) else (none)) else (none)))) else (none)) else (none)) else (if x8 = (x7.length : Int) then ((batch_Is.f k x7).bind fun t267 => (some t267)) else (some false))
end
def ravelinlaw12_BatchNeat.f (k : Nat) (l0 : List Int) : Option (Bool) := (ravelinlaw12_known.f k).bind fun t249 => (if t249 = true then (if (l0.length : Int) > 30 then (some true) else (ravelinlaw12_BatchNeat.l0 k l0 ([] : List (S49)) (List.replicate 8 0) 0)) else (some false))
theorem ravelinlaw12_BatchNeat.mono_l : ∀ k, (∀ y0 y1 y2 y3, LeO (ravelinlaw12_BatchNeat.l0 k y0 y1 y2 y3) (ravelinlaw12_BatchNeat.l0 (k + 1) y0 y1 y2 y3)) ∧ (∀ y0 y1 y2 y3 y4, LeO (ravelinlaw12_BatchNeat.l1 k y0 y1 y2 y3 y4) (ravelinlaw12_BatchNeat.l1 (k + 1) y0 y1 y2 y3 y4))
  | 0 => ⟨fun _ _ _ _ r h => by simp [ravelinlaw12_BatchNeat.l0] at h, fun _ _ _ _ _ r h => by simp [ravelinlaw12_BatchNeat.l1] at h⟩
  | k + 1 => by
    obtain ⟨ih0, ih1⟩ := ravelinlaw12_BatchNeat.mono_l k
    refine ⟨?_, ?_⟩
    · intro y0 y1 y2 y3
      unfold ravelinlaw12_BatchNeat.l0
      repeat' first
      | (with_reducible exact ih0 _ _ _ _)
      | (with_reducible exact ih1 _ _ _ _ _)
      | (with_reducible exact batch_Is.mono _ _)
      | (with_reducible exact batch_Neat.mono _ _)
      | (with_reducible exact ravelinlaw12_known.mono _)
      | (with_reducible exact LeO.refl _)
      | (with_reducible exact LeO.none _)
      | (with_reducible refine LeO.ite ?_ ?_)
      | (with_reducible refine LeO.bind ?_ (fun _ => ?_))
      | exact ih0 _ _ _ _
      | exact ih1 _ _ _ _ _
      | exact batch_Is.mono _ _
      | exact batch_Neat.mono _ _
      | exact ravelinlaw12_known.mono _
      | exact LeO.none _
      | refine LeO.ite ?_ ?_
      | refine LeO.bind ?_ (fun _ => ?_)
    · intro y0 y1 y2 y3 y4
      unfold ravelinlaw12_BatchNeat.l1
      repeat' first
      | (with_reducible exact ih0 _ _ _ _)
      | (with_reducible exact ih1 _ _ _ _ _)
      | (with_reducible exact batch_Is.mono _ _)
      | (with_reducible exact batch_Neat.mono _ _)
      | (with_reducible exact ravelinlaw12_known.mono _)
      | (with_reducible exact LeO.refl _)
      | (with_reducible exact LeO.none _)
      | (with_reducible refine LeO.ite ?_ ?_)
      | (with_reducible refine LeO.bind ?_ (fun _ => ?_))
      | exact ih0 _ _ _ _
      | exact ih1 _ _ _ _ _
      | exact batch_Is.mono _ _
      | exact batch_Neat.mono _ _
      | exact ravelinlaw12_known.mono _
      | exact LeO.none _
      | refine LeO.ite ?_ ?_
      | refine LeO.bind ?_ (fun _ => ?_)
theorem ravelinlaw12_BatchNeat.mono : ∀ a0 k, LeO (ravelinlaw12_BatchNeat.f k a0) (ravelinlaw12_BatchNeat.f (k + 1) a0) := by
  intro a0 k
  obtain ⟨ih0, ih1⟩ := ravelinlaw12_BatchNeat.mono_l k
  unfold ravelinlaw12_BatchNeat.f
  repeat' first
      | (with_reducible exact ih0 _ _ _ _)
      | (with_reducible exact ih1 _ _ _ _ _)
      | (with_reducible exact batch_Is.mono _ _)
      | (with_reducible exact batch_Neat.mono _ _)
      | (with_reducible exact ravelinlaw12_known.mono _)
      | (with_reducible exact LeO.refl _)
      | (with_reducible exact LeO.none _)
      | (with_reducible refine LeO.ite ?_ ?_)
      | (with_reducible refine LeO.bind ?_ (fun _ => ?_))
      | exact ih0 _ _ _ _
      | exact ih1 _ _ _ _ _
      | exact batch_Is.mono _ _
      | exact batch_Neat.mono _ _
      | exact ravelinlaw12_known.mono _
      | exact LeO.none _
      | refine LeO.ite ?_ ?_
      | refine LeO.bind ?_ (fun _ => ?_)
set_option maxHeartbeats 8000000 in
set_option maxRecDepth 100000 in
theorem ravelinlaw12_BatchNeat.calls (k : Nat) (A0 : Option Addr) (c0 : Nat) (l0 : List Int) (r : Bool) (w : World) (hr0 : Kd.C (Kd.int .u8) w A0 l0.length l0) (hc0 : l0.length ≤ c0) (h : ravelinlaw12_BatchNeat.f k l0 = some r) (hr_ : r = true) :
    Calls Try.prog 5 #[.slice A0 l0.length c0] w fun e w' => e = .returned (.bool r) ∧ Below w.heap.size w w' := by
  have hu47 := Try.underlying47
  have hu49 := Try.underlying49
  have HR0 := Aside0.mk hr0
  have HC0 := Aside0.mk hc0
  clear hr0 hc0
  have HB := Aside0.mk (Below.refl w.heap.size w)
  have H : ((ravelinlaw12_known.f k).bind fun t249 => (if t249 = true then (if (l0.length : Int) > 30 then (some true) else (ravelinlaw12_BatchNeat.l0 k l0 ([] : List (S49)) (List.replicate 8 0) 0)) else (some false))) = some r := h
  clear h
  have HR_ := Aside0.mk hr_
  clear hr_
  replace H := Option.bind_eq_some_iff.mp H
  obtain ⟨t249, A20, H⟩ := H
  replace H : (if t249 = true then (if (l0.length : Int) > 30 then (some true) else (ravelinlaw12_BatchNeat.l0 k l0 ([] : List (S49)) (List.replicate 8 0) 0)) else (some false)) = some r := H
  have A2 := Aside0.mk A20
  clear A20
  by_cases c3 : t249 = true
  · subst c3
    have H1 : (if (l0.length : Int) > 30 then (some true) else (ravelinlaw12_BatchNeat.l0 k l0 ([] : List (S49)) (List.replicate 8 0) 0)) = some r := by rw [if_pos rfl] at H; exact H
    clear H
    have H := H1
    clear H1
    by_cases c4 : (l0.length : Int) > 30
    · rw [if_pos c4] at H
      have c4b0 : decide (30 < (l0.length : Int)) = true := decide_eq_true c4
      have c4b1 : decide (30 < l0.length) = true := decide_eq_true (by omega)
      clear c4
      obtain rfl := Option.some.inj H
      go_enter Try.func5, Try.ntmps5
      go_wp2_with (first | (go_at_call 7; (with_reducible refine (ravelinlaw12_known.calls k  true _ A2.out (by first | rfl | assumption | exact of_decide_eq_true (by assumption))).mono ?_); rintro e w5 ⟨rfl, hb⟩; have n0_ := Aside0.mk (below_step (by repeat (first | (with_reducible first | exact HB.out | apply below_alloc | apply pw_below_drewN | apply below_drew1) | exact HB.out)) hb); clear HB; have HB := n0_; clear n0_; (try clear hb); (try clear hb2); (try clear hk); (try clear hi)))
      repeat (go_quiet (first | (go_at_call 7; (with_reducible refine (ravelinlaw12_known.calls k  true _ A2.out (by first | rfl | assumption | exact of_decide_eq_true (by assumption))).mono ?_); rintro e w5 ⟨rfl, hb⟩; have n0_ := Aside0.mk (below_step (by repeat (first | (with_reducible first | exact HB.out | apply below_alloc | apply pw_below_drewN | apply below_drew1) | exact HB.out)) hb); clear HB; have HB := n0_; clear n0_; (try clear hb); (try clear hb2); (try clear hk); (try clear hi))); try go_wp2_with (first | (go_at_call 7; (with_reducible refine (ravelinlaw12_known.calls k  true _ A2.out (by first | rfl | assumption | exact of_decide_eq_true (by assumption))).mono ?_); rintro e w5 ⟨rfl, hb⟩; have n0_ := Aside0.mk (below_step (by repeat (first | (with_reducible first | exact HB.out | apply below_alloc | apply pw_below_drewN | apply below_drew1) | exact HB.out)) hb); clear HB; have HB := n0_; clear n0_; (try clear hb); (try clear hb2); (try clear hk); (try clear hi))))
      go_ret
      exact ⟨by first | rfl | (simp [errW_none, errW_some] <;> rfl) | (simp [*, errW_none, errW_some] <;> rfl), by repeat (first | (with_reducible first | exact HB.out | apply below_alloc | apply pw_below_drewN | apply below_drew1) | exact HB.out)⟩
    · rw [if_neg c4] at H
      have c4b0 : decide (30 < (l0.length : Int)) = false := decide_eq_false c4
      have c4b1 : decide (30 < l0.length) = false := decide_eq_false (by omega)
      clear c4
      obtain ⟨y250, hy250⟩ : ∃ y_ : List Int, y_ = (List.replicate 8 0) := ⟨_, rfl⟩
      replace H : (ravelinlaw12_BatchNeat.l0 k l0 ([] : List (S49)) y250 0) = some r := by first | (rw [hy250]; with_reducible exact H) | (have H2_ := (Option.bind_some _ _).symm.trans H; rw [hy250]; with_reducible exact H2_) | (have H2_ := (Option.bind_some _ _).symm.trans H; with_reducible exact H2_) | with_reducible exact H | (rw [hy250]; exact H) | exact H
      have Ny250 := Aside0.mk hy250
      clear hy250
      have H' := Aside0.mk H
      clear H
      go_enter Try.func5, Try.ntmps5
      go_wp2_with (first | (go_at_call 7; (with_reducible refine (ravelinlaw12_known.calls k  true _ A2.out (by first | rfl | assumption | exact of_decide_eq_true (by assumption))).mono ?_); rintro e w6 ⟨rfl, hb⟩; have n0_ := Aside0.mk (below_step (by repeat (first | (with_reducible first | exact HB.out | apply below_alloc | apply pw_below_drewN | apply below_drew1) | exact HB.out)) hb); clear HB; have HB := n0_; clear n0_; (try clear hb); (try clear hb2); (try clear hk); (try clear hi)) | ((with_reducible refine gate_dst (N := 4) rfl ?_); refine box_event ?hg (N := 4) ?hd (cs := #[.int .i64 0, .int .i64 0, .int .i64 0, .int .i64 0, .int .i64 0, .int .i64 0, .int .i64 0, .int .i64 0]) (t := 47) ?hr ?_; (case hd => rfl); (case hg => rfl); (case hr => first | (go_simp; done) | (go_simp; rfl)); intro gb251 hg w7 hbox hb; have GE251 : w.heap.size ≤ gb251 := (by rw [hg]; exact (below_size (by repeat (first | (with_reducible first | exact HB.out | apply below_alloc | apply pw_below_drewN | apply below_drew1) | exact HB.out)))); have n0_ : Aside0 (Kd.R (Kd.int .i64) 47 w7 w.heap.size (fun _ => True) (.slice (some ⟨gb251, 0, none⟩) 8 8) y250) := ⟨by rw [Ny250.out]; exact arr8_row hbox GE251⟩; have n1_ := Aside0.mk (below_step (by repeat (first | (with_reducible first | exact HB.out | apply below_alloc | apply pw_below_drewN | apply below_drew1) | exact HB.out)) hb); clear HB; have HO252 := n0_; have HB := n1_; clear n0_ n1_; clear hb hbox hg))
      repeat (go_quiet (first | (go_at_call 7; (with_reducible refine (ravelinlaw12_known.calls k  true _ A2.out (by first | rfl | assumption | exact of_decide_eq_true (by assumption))).mono ?_); rintro e w6 ⟨rfl, hb⟩; have n0_ := Aside0.mk (below_step (by repeat (first | (with_reducible first | exact HB.out | apply below_alloc | apply pw_below_drewN | apply below_drew1) | exact HB.out)) hb); clear HB; have HB := n0_; clear n0_; (try clear hb); (try clear hb2); (try clear hk); (try clear hi)) | ((with_reducible refine gate_dst (N := 4) rfl ?_); refine box_event ?hg (N := 4) ?hd (cs := #[.int .i64 0, .int .i64 0, .int .i64 0, .int .i64 0, .int .i64 0, .int .i64 0, .int .i64 0, .int .i64 0]) (t := 47) ?hr ?_; (case hd => rfl); (case hg => rfl); (case hr => first | (go_simp; done) | (go_simp; rfl)); intro gb251 hg w7 hbox hb; have GE251 : w.heap.size ≤ gb251 := (by rw [hg]; exact (below_size (by repeat (first | (with_reducible first | exact HB.out | apply below_alloc | apply pw_below_drewN | apply below_drew1) | exact HB.out)))); have n0_ : Aside0 (Kd.R (Kd.int .i64) 47 w7 w.heap.size (fun _ => True) (.slice (some ⟨gb251, 0, none⟩) 8 8) y250) := ⟨by rw [Ny250.out]; exact arr8_row hbox GE251⟩; have n1_ := Aside0.mk (below_step (by repeat (first | (with_reducible first | exact HB.out | apply below_alloc | apply pw_below_drewN | apply below_drew1) | exact HB.out)) hb); clear HB; have HO252 := n0_; have HB := n1_; clear n0_ n1_; clear hb hbox hg)); try go_wp2_with (first | (go_at_call 7; (with_reducible refine (ravelinlaw12_known.calls k  true _ A2.out (by first | rfl | assumption | exact of_decide_eq_true (by assumption))).mono ?_); rintro e w6 ⟨rfl, hb⟩; have n0_ := Aside0.mk (below_step (by repeat (first | (with_reducible first | exact HB.out | apply below_alloc | apply pw_below_drewN | apply below_drew1) | exact HB.out)) hb); clear HB; have HB := n0_; clear n0_; (try clear hb); (try clear hb2); (try clear hk); (try clear hi)) | ((with_reducible refine gate_dst (N := 4) rfl ?_); refine box_event ?hg (N := 4) ?hd (cs := #[.int .i64 0, .int .i64 0, .int .i64 0, .int .i64 0, .int .i64 0, .int .i64 0, .int .i64 0, .int .i64 0]) (t := 47) ?hr ?_; (case hd => rfl); (case hg => rfl); (case hr => first | (go_simp; done) | (go_simp; rfl)); intro gb251 hg w7 hbox hb; have GE251 : w.heap.size ≤ gb251 := (by rw [hg]; exact (below_size (by repeat (first | (with_reducible first | exact HB.out | apply below_alloc | apply pw_below_drewN | apply below_drew1) | exact HB.out)))); have n0_ : Aside0 (Kd.R (Kd.int .i64) 47 w7 w.heap.size (fun _ => True) (.slice (some ⟨gb251, 0, none⟩) 8 8) y250) := ⟨by rw [Ny250.out]; exact arr8_row hbox GE251⟩; have n1_ := Aside0.mk (below_step (by repeat (first | (with_reducible first | exact HB.out | apply below_alloc | apply pw_below_drewN | apply below_drew1) | exact HB.out)) hb); clear HB; have HO252 := n0_; have HB := n1_; clear n0_ n1_; clear hb hbox hg)))
      go_loopg [3, 5] k (fun kq v3 v5 w' => ∃ (x3_1 : List (S49)) (x4_1 : List Int) (x5_1 : Int), v5 = .int .i64 x5_1 ∧ Aside0 (ravelinlaw12_BatchNeat.l0 kq l0 x3_1 x4_1 x5_1 = some r) ∧ Aside0 (kq ≤ k) ∧ Aside0 (Kd.R k49 49 w' w.heap.size (fun _ => True) v3 x3_1) ∧ Aside0 (Kd.R (Kd.int .i64) 47 w' w.heap.size (fun _ => True) (.slice (some ⟨gb251, 0, none⟩) 8 8) x4_1) ∧ Aside0 (Below w.heap.size w w'))
      case atStart => exact ⟨(([] : List (S49))), (y250), (0), (by first | rfl | (simp; done) | (simp [*]; done)), H', ⟨Nat.le_refl _⟩, ⟨by first | exact Kd.R_nil _ _ _ _ _ | exact Kd.N_nil _ _ _ _ _ | exact Kd.V_nil _ _ _ _ _ | exact Kd.Q_nil _ _ _ _ _ | exact Kd.S_nil _ _ _ _ _⟩, ⟨by (with_reducible repeat (first | apply Kd.R_alloc | apply Kd.R_drewN | apply Kd.R_drew)); exact HO252.out⟩, ⟨by repeat (first | (with_reducible first | exact HB.out | apply below_alloc | apply pw_below_drewN | apply below_drew1) | exact HB.out)⟩⟩
      case round =>
        clear H'
        try clear p2
        try clear c3
        try clear c4
        try clear c4b0
        try clear c4b1
        try clear c5
        obtain ⟨x3_1, x4_1, x5_1, rfl, HA, HK1, HO_3, HO_4, HB⟩ := hrel
        cases gk with
        | zero => exact absurd HA.out (by simp [ravelinlaw12_BatchNeat.l0])
        | succ k1 =>
          have H := HA.out
          clear HA
          simp only [ravelinlaw12_BatchNeat.l0] at H
          by_cases c9 : x5_1 < (l0.length : Int)
          · rw [if_pos c9] at H
            have c9b0 : decide (x5_1 < (l0.length : Int)) = true := decide_eq_true c9
            clear c9
            by_cases c10 : 0 ≤ x5_1
            · rw [if_pos c10] at H
              have c10b0 : decide (0 ≤ x5_1) = true := decide_eq_true c10
              clear c10
              obtain ⟨ji11, hji11⟩ : ∃ j_ : Int, (wrap64 (Int.tmod (rd l0 x5_1) 8)) = j_ := ⟨_, rfl⟩
              replace H : (if 0 ≤ (ji11) then (if (ji11) < (x4_1.length : Int) then (if x3_1.length < 3518437208883 then (ravelinlaw12_BatchNeat.l0 k1 l0 (x3_1 ++ [(⟨strOfNums (([(wrap64 (97 + (ji11))) % 256] : List Int)), false, strOfNums (([(wrap64 (65 + x5_1)) % 256] : List Int))⟩ : S49)]) (x4_1.set ((ji11) : Int).toNat (wrap64 (x5_1 + 1))) (wrap64 (x5_1 + 1))) else (none)) else (none)) else (none)) = some r := by first | (rw [hji11] at H; exact H) | (simp only [hji11] at H ⊢; exact H)
              have hji11w : (IntKind.i64.wrap (Int.tmod (rd l0 x5_1) 8)) = ji11 := (i64_w _).trans hji11
              by_cases c12 : 0 ≤ (ji11)
              · rw [if_pos c12] at H
                have c12b0 : decide (0 ≤ (ji11)) = true := decide_eq_true c12
                clear c12
                by_cases c13 : (ji11) < (x4_1.length : Int)
                · rw [if_pos c13] at H
                  have c13b0 : decide ((ji11) < (x4_1.length : Int)) = true := decide_eq_true c13
                  clear c13
                  obtain ⟨y254, hy254⟩ : ∃ y_ : List Int, y_ = (x4_1.set ((ji11) : Int).toNat (wrap64 (x5_1 + 1))) := ⟨_, rfl⟩
                  replace H : (if x3_1.length < 3518437208883 then (ravelinlaw12_BatchNeat.l0 k1 l0 (x3_1 ++ [(⟨strOfNums (([(wrap64 (97 + (ji11))) % 256] : List Int)), false, strOfNums (([(wrap64 (65 + x5_1)) % 256] : List Int))⟩ : S49)]) y254 (wrap64 (x5_1 + 1))) else (none)) = some r := by first | (rw [hy254]; with_reducible exact H) | (have H2_ := (Option.bind_some _ _).symm.trans H; rw [hy254]; with_reducible exact H2_) | (have H2_ := (Option.bind_some _ _).symm.trans H; with_reducible exact H2_) | with_reducible exact H | (rw [hy254]; exact H) | exact H
                  have Ny254 := Aside0.mk hy254
                  clear hy254
                  obtain ⟨y255, hy255⟩ : ∃ y_ : List Int, y_ = (([(wrap64 (97 + (ji11))) % 256] : List Int)) := ⟨_, rfl⟩
                  replace H : (if x3_1.length < 3518437208883 then (ravelinlaw12_BatchNeat.l0 k1 l0 (x3_1 ++ [(⟨strOfNums y255, false, strOfNums (([(wrap64 (65 + x5_1)) % 256] : List Int))⟩ : S49)]) y254 (wrap64 (x5_1 + 1))) else (none)) = some r := by first | (rw [hy255]; with_reducible exact H) | (have H2_ := (Option.bind_some _ _).symm.trans H; rw [hy255]; with_reducible exact H2_) | (have H2_ := (Option.bind_some _ _).symm.trans H; with_reducible exact H2_) | with_reducible exact H | (rw [hy255]; exact H) | exact H
                  have Ny255 := Aside0.mk hy255
                  clear hy255
                  obtain ⟨y258, hy258⟩ : ∃ y_ : List Int, y_ = (([(wrap64 (65 + x5_1)) % 256] : List Int)) := ⟨_, rfl⟩
                  replace H : (if x3_1.length < 3518437208883 then (ravelinlaw12_BatchNeat.l0 k1 l0 (x3_1 ++ [(⟨strOfNums y255, false, strOfNums y258⟩ : S49)]) y254 (wrap64 (x5_1 + 1))) else (none)) = some r := by first | (rw [hy258]; with_reducible exact H) | (have H2_ := (Option.bind_some _ _).symm.trans H; rw [hy258]; with_reducible exact H2_) | (have H2_ := (Option.bind_some _ _).symm.trans H; with_reducible exact H2_) | with_reducible exact H | (rw [hy258]; exact H) | exact H
                  have Ny258 := Aside0.mk hy258
                  clear hy258
                  by_cases c15 : x3_1.length < 3518437208883
                  · rw [if_pos c15] at H
                    have LMc15 := Aside0.mk c15
                    clear c15
                    obtain ⟨y261, hy261⟩ : ∃ y_ : List (S49), y_ = (x3_1 ++ [(⟨strOfNums y255, false, strOfNums y258⟩ : S49)]) := ⟨_, rfl⟩
                    replace H : (ravelinlaw12_BatchNeat.l0 k1 l0 y261 y254 (wrap64 (x5_1 + 1))) = some r := by first | (rw [hy261]; with_reducible exact H) | (have H2_ := (Option.bind_some _ _).symm.trans H; rw [hy261]; with_reducible exact H2_) | (have H2_ := (Option.bind_some _ _).symm.trans H; with_reducible exact H2_) | with_reducible exact H | (rw [hy261]; exact H) | exact H
                    have Ny261 := Aside0.mk hy261
                    clear hy261
                    have H' := Aside0.mk H
                    clear H
                    have p253 : 0 ≤ (x5_1 : Int) := of_decide_eq_true (by first | (with_reducible assumption) | assumption)
                    have q253 : x5_1 < (l0.length : Int) := of_decide_eq_true (by first | (with_reducible assumption) | assumption)
                    obtain ⟨ad253, e253, hx253_0⟩ := Kd.at_int HR0.out x5_1 p253 q253
                    cases e253
                    replace hx253_0 := (HB.out.cell (World.block_lt_of_cell? w _ hx253_0)).trans hx253_0
                    replace p253 := eq_true p253
                    replace q253 := eq_true q253
                    have p14 : 0 ≤ ((ji11) : Int) := of_decide_eq_true (by first | (with_reducible assumption) | assumption)
                    have hl14 : (x4_1.length : Int) = 8 := by have := (Kd.R_reads' HO_4.out).1; omega
                    have q14 : ((ji11) : Int) < (8 : Int) := by rw [← hl14]; exact of_decide_eq_true (by first | (with_reducible assumption) | assumption)
                    have GB14 := Aside0.mk GE251
                    obtain ⟨hx14_0, hf14_0⟩ := Kd.R_celln 0 HO_4.out ((ji11) : Int) p14 q14
                    replace p14 := eq_true p14
                    replace q14 := eq_true q14
                    have HP16 := Kd.R_putg HO_4.out ((ji11) : Int) (wrap64 (x5_1 + 1))
                    go_wp2_with (first | ((with_reducible refine gate_store (t := 3) (p := 30) rfl ?_); (try (rw [drewN_self wr]; generalize hq_ : World.drewN wr _ = wr; have n0_ := Aside0.mk (Kd.R_at hq_ HO_3.out); have n1_ := Aside0.mk (Kd.R_at hq_ HO_4.out); have n2_ := Aside0.mk (below_at hq_ HB.out); clear hq_ HO_3 HO_4 HB; have HO_3 := n0_; have HO_4 := n1_; have HB := n2_; clear n0_ n1_ n2_; (try (have HP16 := Kd.R_putg HO_4.out ((ji11) : Int) (wrap64 (x5_1 + 1)))))); refine store_event (t := 3) (p := 30) (v := ?vo_w17) (w1 := (wr.setCell ⟨gb251, ((ji11) : Int).toNat, none⟩ (.int .i64 (wrap64 (x5_1 + 1))))) ?hg ?ho ?hn ?hr ?_; (case ho => rfl); (case hg => rfl); (case hn => rfl); (case hr => first | (go_simp; done) | (go_simp; rfl)); intro w17 hw; have hg : wr.grownBy w17 (some gb251) := (by rw [hw]; exact HP16.2); have hp_ : Kd.R (Kd.int .i64) 47 w17 w.heap.size (fun _ => True) (.slice (some ⟨gb251, 0, none⟩) 8 8) y254 := (by rw [hw, Ny254.out]; exact HP16.1); clear HP16; have n0_ := Aside0.mk (Kd.R_over' (v := (.slice (some ⟨gb251, 0, none⟩) 8 8)) (by (with_reducible repeat (first | apply Kd.R_alloc | apply Kd.R_drewN | apply Kd.R_drew)); exact HO_3.out) (Kd.R_typed HO_4.out) (by decide) hg); have n1_ := Aside0.mk (hp_); have n2_ := Aside0.mk ((by rw [hw]; exact below_set (HB.out) GB14.out : Below w.heap.size w w17)); clear HO_3; clear HO_4; clear HB; have HO_3 := n0_; have HO_4 := n1_; have HB := n2_; clear n0_ n1_ n2_; clear hg hw hp_) | ((with_reducible refine gate_dst (N := 35) rfl ?_); refine Kd.R_lit (Kd.int .u8) _ 5 ?hg (N := 35) ?hd (xs := ([(wrap64 (97 + (ji11))) % 256] : List Int)) (inner := [.int .u8 ((wrap64 (97 + (ji11))) % 256)]) (ok := fun _ => True) (okp := fun _ => True) ?hr ?hp (fun _ hk => hk) trivial (Below.refl _ _) (Nat.le_refl _) (by simp) ?_; (case hd => rfl); (case hg => rfl); (case hr => first | (go_simp; done) | (go_simp; rfl)); (case hp => exact (Reps.one (show Kd.M (Kd.int .u8) _ _ _ ((wrap64 (97 + (ji11))) % 256) [.int .u8 ((wrap64 (97 + (ji11))) % 256)] from rfl) (Reps.none _ _))); intro v256 w18 ho19 hb hg_ hnew_; clear hg_ hnew_; (first | rw [← Ny255.out] at ho19 | (simp only [Int.reduceToNat] at ho19; rw [← Ny255.out] at ho19)); have n0_ := Aside0.mk (Kd.R_below (by (with_reducible repeat (first | apply Kd.R_alloc | apply Kd.R_drewN | apply Kd.R_drew)); exact HO_3.out) hb); have n1_ := Aside0.mk (Kd.R_below (by (with_reducible repeat (first | apply Kd.R_alloc | apply Kd.R_drewN | apply Kd.R_drew)); exact HO_4.out) hb); have n2_ := Aside0.mk (Kd.R_lower ho19 (below_size (by repeat (first | (with_reducible first | exact HB.out | apply below_alloc | apply pw_below_drewN | apply below_drew1) | exact HB.out)))); have n3_ := Aside0.mk (below_step (by repeat (first | (with_reducible first | exact HB.out | apply below_alloc | apply pw_below_drewN | apply below_drew1) | exact HB.out)) hb); clear HO_3; clear HO_4; clear HB; have HO_3 := n0_; have HO_4 := n1_; have HO257 := n2_; have HB := n3_; clear n0_ n1_ n2_ n3_; clear hb ho19; have hcv20 := own_string (P := Try.prog) Try.underlying46 Try.underlying5 Try.underlying9 (Kd.own_of_R HO257.out)) | ((with_reducible refine gate_dst (N := 40) rfl ?_); refine Kd.R_lit (Kd.int .u8) _ 5 ?hg (N := 40) ?hd (xs := ([(wrap64 (65 + x5_1)) % 256] : List Int)) (inner := [.int .u8 ((wrap64 (65 + x5_1)) % 256)]) (ok := fun _ => True) (okp := fun _ => True) ?hr ?hp (fun _ hk => hk) trivial (Below.refl _ _) (Nat.le_refl _) (by simp) ?_; (case hd => rfl); (case hg => rfl); (case hr => first | (go_simp; done) | (go_simp; rfl)); (case hp => exact (Reps.one (show Kd.M (Kd.int .u8) _ _ _ ((wrap64 (65 + x5_1)) % 256) [.int .u8 ((wrap64 (65 + x5_1)) % 256)] from rfl) (Reps.none _ _))); intro v259 w21 ho22 hb hg_ hnew_; clear hg_ hnew_; (first | rw [← Ny258.out] at ho22 | (simp only [Int.reduceToNat] at ho22; rw [← Ny258.out] at ho22)); have n0_ := Aside0.mk (Kd.R_below (by (with_reducible repeat (first | apply Kd.R_alloc | apply Kd.R_drewN | apply Kd.R_drew)); exact HO_3.out) hb); have n1_ := Aside0.mk (Kd.R_below (by (with_reducible repeat (first | apply Kd.R_alloc | apply Kd.R_drewN | apply Kd.R_drew)); exact HO_4.out) hb); have n2_ := Aside0.mk (Kd.R_elder' (by (with_reducible repeat (first | apply Kd.R_alloc | apply Kd.R_drewN | apply Kd.R_drew)); exact HO257.out) (Kd.R_base ho22) hb); have n3_ := Aside0.mk (Kd.R_lower (Kd.R_new' ho22 (Kd.R_lt (by (with_reducible repeat (first | apply Kd.R_alloc | apply Kd.R_drewN | apply Kd.R_drew)); exact HO257.out))) (below_size (by repeat (first | (with_reducible first | exact HB.out | apply below_alloc | apply pw_below_drewN | apply below_drew1) | exact HB.out)))); have n4_ := Aside0.mk (below_step (by repeat (first | (with_reducible first | exact HB.out | apply below_alloc | apply pw_below_drewN | apply below_drew1) | exact HB.out)) hb); clear HO_3; clear HO_4; clear HO257; clear HB; have HO_3 := n0_; have HO_4 := n1_; have HO257 := n2_; have HO260 := n3_; have HB := n4_; clear n0_ n1_ n2_ n3_ n4_; clear hb ho22; have hcv23 := own_string (P := Try.prog) Try.underlying46 Try.underlying5 Try.underlying9 (Kd.own_of_R HO260.out)) | ((with_reducible refine gate_builtin (b := .append) (xs := #[.tmp 31, .tmp 43]) rfl ?_); at_builtin; refine Kd.R_append k49 (w0 := w) w.heap.size rfl (.tmp 31) (.tmp 43) 22 49 (.agg #[(.string ⟨#[]⟩), (.bool false), (.string ⟨#[]⟩)]) 40 rfl Try.underlying22 info49 rfl (by decide) (by omega) u3 x3_1 (⟨strOfNums y255, false, strOfNums y258⟩ : S49) [.string (strOfNums y255), .bool false, .string (strOfNums y258)] (fun _ => True) (fun _ => False) rfl rfl ?aP (fun _ hk => hk.elim) ?aF ?aO ?aB ?aS ?aL ?_; (case aP => exact k49_mkM _ _ _ (⟨strOfNums y255, false, strOfNums y258⟩ : S49)); (case aB => exact (by repeat (first | (with_reducible first | exact HB.out | apply below_alloc | apply pw_below_drewN | apply below_drew1) | exact HB.out))); (case aF => exact (fun _ _ => trivial)); (case aO => exact (by (with_reducible repeat (first | apply Kd.R_alloc | apply Kd.R_drewN | apply Kd.R_drew)); exact HO_3.out)); (case aS => exact (below_size (by repeat (first | (with_reducible first | exact HB.out | apply below_alloc | apply pw_below_drewN | apply below_drew1) | exact HB.out)))); (case aL => have := LMc15.out; omega); intro v262 w24 ho hb hg hat; rw [← Ny261.out] at ho; have n0_ := Aside0.mk (Kd.R_over' (by (with_reducible repeat (first | apply Kd.R_alloc | apply Kd.R_drewN | apply Kd.R_drew)); exact HO_4.out) (Kd.R_typed (by (with_reducible repeat (first | apply Kd.R_alloc | apply Kd.R_drewN | apply Kd.R_drew)); exact HO_3.out)) (by decide) hg); have n1_ := Aside0.mk (Kd.R_over' (by (with_reducible repeat (first | apply Kd.R_alloc | apply Kd.R_drewN | apply Kd.R_drew)); exact HO257.out) (Kd.R_typed (by (with_reducible repeat (first | apply Kd.R_alloc | apply Kd.R_drewN | apply Kd.R_drew)); exact HO_3.out)) (by decide) hg); have n2_ := Aside0.mk (Kd.R_over' (by (with_reducible repeat (first | apply Kd.R_alloc | apply Kd.R_drewN | apply Kd.R_drew)); exact HO260.out) (Kd.R_typed (by (with_reducible repeat (first | apply Kd.R_alloc | apply Kd.R_drewN | apply Kd.R_drew)); exact HO_3.out)) (by decide) hg); have n3_ := Aside0.mk (hb); have n4_ := Aside0.mk (ho); clear HO_4; clear HO257; clear HO260; clear HB; clear HO_3; have HO_4 := n0_; have HO257 := n1_; have HO260 := n2_; have HB := n3_; have HO263 := n4_; clear n0_ n1_ n2_ n3_ n4_; clear ho hb hg hat))
                    repeat (go_quiet (first | ((with_reducible refine gate_store (t := 3) (p := 30) rfl ?_); (try (rw [drewN_self wr]; generalize hq_ : World.drewN wr _ = wr; have n0_ := Aside0.mk (Kd.R_at hq_ HO_3.out); have n1_ := Aside0.mk (Kd.R_at hq_ HO_4.out); have n2_ := Aside0.mk (below_at hq_ HB.out); clear hq_ HO_3 HO_4 HB; have HO_3 := n0_; have HO_4 := n1_; have HB := n2_; clear n0_ n1_ n2_; (try (have HP16 := Kd.R_putg HO_4.out ((ji11) : Int) (wrap64 (x5_1 + 1)))))); refine store_event (t := 3) (p := 30) (v := ?vo_w17) (w1 := (wr.setCell ⟨gb251, ((ji11) : Int).toNat, none⟩ (.int .i64 (wrap64 (x5_1 + 1))))) ?hg ?ho ?hn ?hr ?_; (case ho => rfl); (case hg => rfl); (case hn => rfl); (case hr => first | (go_simp; done) | (go_simp; rfl)); intro w17 hw; have hg : wr.grownBy w17 (some gb251) := (by rw [hw]; exact HP16.2); have hp_ : Kd.R (Kd.int .i64) 47 w17 w.heap.size (fun _ => True) (.slice (some ⟨gb251, 0, none⟩) 8 8) y254 := (by rw [hw, Ny254.out]; exact HP16.1); clear HP16; have n0_ := Aside0.mk (Kd.R_over' (v := (.slice (some ⟨gb251, 0, none⟩) 8 8)) (by (with_reducible repeat (first | apply Kd.R_alloc | apply Kd.R_drewN | apply Kd.R_drew)); exact HO_3.out) (Kd.R_typed HO_4.out) (by decide) hg); have n1_ := Aside0.mk (hp_); have n2_ := Aside0.mk ((by rw [hw]; exact below_set (HB.out) GB14.out : Below w.heap.size w w17)); clear HO_3; clear HO_4; clear HB; have HO_3 := n0_; have HO_4 := n1_; have HB := n2_; clear n0_ n1_ n2_; clear hg hw hp_) | ((with_reducible refine gate_dst (N := 35) rfl ?_); refine Kd.R_lit (Kd.int .u8) _ 5 ?hg (N := 35) ?hd (xs := ([(wrap64 (97 + (ji11))) % 256] : List Int)) (inner := [.int .u8 ((wrap64 (97 + (ji11))) % 256)]) (ok := fun _ => True) (okp := fun _ => True) ?hr ?hp (fun _ hk => hk) trivial (Below.refl _ _) (Nat.le_refl _) (by simp) ?_; (case hd => rfl); (case hg => rfl); (case hr => first | (go_simp; done) | (go_simp; rfl)); (case hp => exact (Reps.one (show Kd.M (Kd.int .u8) _ _ _ ((wrap64 (97 + (ji11))) % 256) [.int .u8 ((wrap64 (97 + (ji11))) % 256)] from rfl) (Reps.none _ _))); intro v256 w18 ho19 hb hg_ hnew_; clear hg_ hnew_; (first | rw [← Ny255.out] at ho19 | (simp only [Int.reduceToNat] at ho19; rw [← Ny255.out] at ho19)); have n0_ := Aside0.mk (Kd.R_below (by (with_reducible repeat (first | apply Kd.R_alloc | apply Kd.R_drewN | apply Kd.R_drew)); exact HO_3.out) hb); have n1_ := Aside0.mk (Kd.R_below (by (with_reducible repeat (first | apply Kd.R_alloc | apply Kd.R_drewN | apply Kd.R_drew)); exact HO_4.out) hb); have n2_ := Aside0.mk (Kd.R_lower ho19 (below_size (by repeat (first | (with_reducible first | exact HB.out | apply below_alloc | apply pw_below_drewN | apply below_drew1) | exact HB.out)))); have n3_ := Aside0.mk (below_step (by repeat (first | (with_reducible first | exact HB.out | apply below_alloc | apply pw_below_drewN | apply below_drew1) | exact HB.out)) hb); clear HO_3; clear HO_4; clear HB; have HO_3 := n0_; have HO_4 := n1_; have HO257 := n2_; have HB := n3_; clear n0_ n1_ n2_ n3_; clear hb ho19; have hcv20 := own_string (P := Try.prog) Try.underlying46 Try.underlying5 Try.underlying9 (Kd.own_of_R HO257.out)) | ((with_reducible refine gate_dst (N := 40) rfl ?_); refine Kd.R_lit (Kd.int .u8) _ 5 ?hg (N := 40) ?hd (xs := ([(wrap64 (65 + x5_1)) % 256] : List Int)) (inner := [.int .u8 ((wrap64 (65 + x5_1)) % 256)]) (ok := fun _ => True) (okp := fun _ => True) ?hr ?hp (fun _ hk => hk) trivial (Below.refl _ _) (Nat.le_refl _) (by simp) ?_; (case hd => rfl); (case hg => rfl); (case hr => first | (go_simp; done) | (go_simp; rfl)); (case hp => exact (Reps.one (show Kd.M (Kd.int .u8) _ _ _ ((wrap64 (65 + x5_1)) % 256) [.int .u8 ((wrap64 (65 + x5_1)) % 256)] from rfl) (Reps.none _ _))); intro v259 w21 ho22 hb hg_ hnew_; clear hg_ hnew_; (first | rw [← Ny258.out] at ho22 | (simp only [Int.reduceToNat] at ho22; rw [← Ny258.out] at ho22)); have n0_ := Aside0.mk (Kd.R_below (by (with_reducible repeat (first | apply Kd.R_alloc | apply Kd.R_drewN | apply Kd.R_drew)); exact HO_3.out) hb); have n1_ := Aside0.mk (Kd.R_below (by (with_reducible repeat (first | apply Kd.R_alloc | apply Kd.R_drewN | apply Kd.R_drew)); exact HO_4.out) hb); have n2_ := Aside0.mk (Kd.R_elder' (by (with_reducible repeat (first | apply Kd.R_alloc | apply Kd.R_drewN | apply Kd.R_drew)); exact HO257.out) (Kd.R_base ho22) hb); have n3_ := Aside0.mk (Kd.R_lower (Kd.R_new' ho22 (Kd.R_lt (by (with_reducible repeat (first | apply Kd.R_alloc | apply Kd.R_drewN | apply Kd.R_drew)); exact HO257.out))) (below_size (by repeat (first | (with_reducible first | exact HB.out | apply below_alloc | apply pw_below_drewN | apply below_drew1) | exact HB.out)))); have n4_ := Aside0.mk (below_step (by repeat (first | (with_reducible first | exact HB.out | apply below_alloc | apply pw_below_drewN | apply below_drew1) | exact HB.out)) hb); clear HO_3; clear HO_4; clear HO257; clear HB; have HO_3 := n0_; have HO_4 := n1_; have HO257 := n2_; have HO260 := n3_; have HB := n4_; clear n0_ n1_ n2_ n3_ n4_; clear hb ho22; have hcv23 := own_string (P := Try.prog) Try.underlying46 Try.underlying5 Try.underlying9 (Kd.own_of_R HO260.out)) | ((with_reducible refine gate_builtin (b := .append) (xs := #[.tmp 31, .tmp 43]) rfl ?_); at_builtin; refine Kd.R_append k49 (w0 := w) w.heap.size rfl (.tmp 31) (.tmp 43) 22 49 (.agg #[(.string ⟨#[]⟩), (.bool false), (.string ⟨#[]⟩)]) 40 rfl Try.underlying22 info49 rfl (by decide) (by omega) u3 x3_1 (⟨strOfNums y255, false, strOfNums y258⟩ : S49) [.string (strOfNums y255), .bool false, .string (strOfNums y258)] (fun _ => True) (fun _ => False) rfl rfl ?aP (fun _ hk => hk.elim) ?aF ?aO ?aB ?aS ?aL ?_; (case aP => exact k49_mkM _ _ _ (⟨strOfNums y255, false, strOfNums y258⟩ : S49)); (case aB => exact (by repeat (first | (with_reducible first | exact HB.out | apply below_alloc | apply pw_below_drewN | apply below_drew1) | exact HB.out))); (case aF => exact (fun _ _ => trivial)); (case aO => exact (by (with_reducible repeat (first | apply Kd.R_alloc | apply Kd.R_drewN | apply Kd.R_drew)); exact HO_3.out)); (case aS => exact (below_size (by repeat (first | (with_reducible first | exact HB.out | apply below_alloc | apply pw_below_drewN | apply below_drew1) | exact HB.out)))); (case aL => have := LMc15.out; omega); intro v262 w24 ho hb hg hat; rw [← Ny261.out] at ho; have n0_ := Aside0.mk (Kd.R_over' (by (with_reducible repeat (first | apply Kd.R_alloc | apply Kd.R_drewN | apply Kd.R_drew)); exact HO_4.out) (Kd.R_typed (by (with_reducible repeat (first | apply Kd.R_alloc | apply Kd.R_drewN | apply Kd.R_drew)); exact HO_3.out)) (by decide) hg); have n1_ := Aside0.mk (Kd.R_over' (by (with_reducible repeat (first | apply Kd.R_alloc | apply Kd.R_drewN | apply Kd.R_drew)); exact HO257.out) (Kd.R_typed (by (with_reducible repeat (first | apply Kd.R_alloc | apply Kd.R_drewN | apply Kd.R_drew)); exact HO_3.out)) (by decide) hg); have n2_ := Aside0.mk (Kd.R_over' (by (with_reducible repeat (first | apply Kd.R_alloc | apply Kd.R_drewN | apply Kd.R_drew)); exact HO260.out) (Kd.R_typed (by (with_reducible repeat (first | apply Kd.R_alloc | apply Kd.R_drewN | apply Kd.R_drew)); exact HO_3.out)) (by decide) hg); have n3_ := Aside0.mk (hb); have n4_ := Aside0.mk (ho); clear HO_4; clear HO257; clear HO260; clear HB; clear HO_3; have HO_4 := n0_; have HO257 := n1_; have HO260 := n2_; have HB := n3_; have HO263 := n4_; clear n0_ n1_ n2_ n3_ n4_; clear ho hb hg hat)); try go_wp2_with (first | ((with_reducible refine gate_store (t := 3) (p := 30) rfl ?_); (try (rw [drewN_self wr]; generalize hq_ : World.drewN wr _ = wr; have n0_ := Aside0.mk (Kd.R_at hq_ HO_3.out); have n1_ := Aside0.mk (Kd.R_at hq_ HO_4.out); have n2_ := Aside0.mk (below_at hq_ HB.out); clear hq_ HO_3 HO_4 HB; have HO_3 := n0_; have HO_4 := n1_; have HB := n2_; clear n0_ n1_ n2_; (try (have HP16 := Kd.R_putg HO_4.out ((ji11) : Int) (wrap64 (x5_1 + 1)))))); refine store_event (t := 3) (p := 30) (v := ?vo_w17) (w1 := (wr.setCell ⟨gb251, ((ji11) : Int).toNat, none⟩ (.int .i64 (wrap64 (x5_1 + 1))))) ?hg ?ho ?hn ?hr ?_; (case ho => rfl); (case hg => rfl); (case hn => rfl); (case hr => first | (go_simp; done) | (go_simp; rfl)); intro w17 hw; have hg : wr.grownBy w17 (some gb251) := (by rw [hw]; exact HP16.2); have hp_ : Kd.R (Kd.int .i64) 47 w17 w.heap.size (fun _ => True) (.slice (some ⟨gb251, 0, none⟩) 8 8) y254 := (by rw [hw, Ny254.out]; exact HP16.1); clear HP16; have n0_ := Aside0.mk (Kd.R_over' (v := (.slice (some ⟨gb251, 0, none⟩) 8 8)) (by (with_reducible repeat (first | apply Kd.R_alloc | apply Kd.R_drewN | apply Kd.R_drew)); exact HO_3.out) (Kd.R_typed HO_4.out) (by decide) hg); have n1_ := Aside0.mk (hp_); have n2_ := Aside0.mk ((by rw [hw]; exact below_set (HB.out) GB14.out : Below w.heap.size w w17)); clear HO_3; clear HO_4; clear HB; have HO_3 := n0_; have HO_4 := n1_; have HB := n2_; clear n0_ n1_ n2_; clear hg hw hp_) | ((with_reducible refine gate_dst (N := 35) rfl ?_); refine Kd.R_lit (Kd.int .u8) _ 5 ?hg (N := 35) ?hd (xs := ([(wrap64 (97 + (ji11))) % 256] : List Int)) (inner := [.int .u8 ((wrap64 (97 + (ji11))) % 256)]) (ok := fun _ => True) (okp := fun _ => True) ?hr ?hp (fun _ hk => hk) trivial (Below.refl _ _) (Nat.le_refl _) (by simp) ?_; (case hd => rfl); (case hg => rfl); (case hr => first | (go_simp; done) | (go_simp; rfl)); (case hp => exact (Reps.one (show Kd.M (Kd.int .u8) _ _ _ ((wrap64 (97 + (ji11))) % 256) [.int .u8 ((wrap64 (97 + (ji11))) % 256)] from rfl) (Reps.none _ _))); intro v256 w18 ho19 hb hg_ hnew_; clear hg_ hnew_; (first | rw [← Ny255.out] at ho19 | (simp only [Int.reduceToNat] at ho19; rw [← Ny255.out] at ho19)); have n0_ := Aside0.mk (Kd.R_below (by (with_reducible repeat (first | apply Kd.R_alloc | apply Kd.R_drewN | apply Kd.R_drew)); exact HO_3.out) hb); have n1_ := Aside0.mk (Kd.R_below (by (with_reducible repeat (first | apply Kd.R_alloc | apply Kd.R_drewN | apply Kd.R_drew)); exact HO_4.out) hb); have n2_ := Aside0.mk (Kd.R_lower ho19 (below_size (by repeat (first | (with_reducible first | exact HB.out | apply below_alloc | apply pw_below_drewN | apply below_drew1) | exact HB.out)))); have n3_ := Aside0.mk (below_step (by repeat (first | (with_reducible first | exact HB.out | apply below_alloc | apply pw_below_drewN | apply below_drew1) | exact HB.out)) hb); clear HO_3; clear HO_4; clear HB; have HO_3 := n0_; have HO_4 := n1_; have HO257 := n2_; have HB := n3_; clear n0_ n1_ n2_ n3_; clear hb ho19; have hcv20 := own_string (P := Try.prog) Try.underlying46 Try.underlying5 Try.underlying9 (Kd.own_of_R HO257.out)) | ((with_reducible refine gate_dst (N := 40) rfl ?_); refine Kd.R_lit (Kd.int .u8) _ 5 ?hg (N := 40) ?hd (xs := ([(wrap64 (65 + x5_1)) % 256] : List Int)) (inner := [.int .u8 ((wrap64 (65 + x5_1)) % 256)]) (ok := fun _ => True) (okp := fun _ => True) ?hr ?hp (fun _ hk => hk) trivial (Below.refl _ _) (Nat.le_refl _) (by simp) ?_; (case hd => rfl); (case hg => rfl); (case hr => first | (go_simp; done) | (go_simp; rfl)); (case hp => exact (Reps.one (show Kd.M (Kd.int .u8) _ _ _ ((wrap64 (65 + x5_1)) % 256) [.int .u8 ((wrap64 (65 + x5_1)) % 256)] from rfl) (Reps.none _ _))); intro v259 w21 ho22 hb hg_ hnew_; clear hg_ hnew_; (first | rw [← Ny258.out] at ho22 | (simp only [Int.reduceToNat] at ho22; rw [← Ny258.out] at ho22)); have n0_ := Aside0.mk (Kd.R_below (by (with_reducible repeat (first | apply Kd.R_alloc | apply Kd.R_drewN | apply Kd.R_drew)); exact HO_3.out) hb); have n1_ := Aside0.mk (Kd.R_below (by (with_reducible repeat (first | apply Kd.R_alloc | apply Kd.R_drewN | apply Kd.R_drew)); exact HO_4.out) hb); have n2_ := Aside0.mk (Kd.R_elder' (by (with_reducible repeat (first | apply Kd.R_alloc | apply Kd.R_drewN | apply Kd.R_drew)); exact HO257.out) (Kd.R_base ho22) hb); have n3_ := Aside0.mk (Kd.R_lower (Kd.R_new' ho22 (Kd.R_lt (by (with_reducible repeat (first | apply Kd.R_alloc | apply Kd.R_drewN | apply Kd.R_drew)); exact HO257.out))) (below_size (by repeat (first | (with_reducible first | exact HB.out | apply below_alloc | apply pw_below_drewN | apply below_drew1) | exact HB.out)))); have n4_ := Aside0.mk (below_step (by repeat (first | (with_reducible first | exact HB.out | apply below_alloc | apply pw_below_drewN | apply below_drew1) | exact HB.out)) hb); clear HO_3; clear HO_4; clear HO257; clear HB; have HO_3 := n0_; have HO_4 := n1_; have HO257 := n2_; have HO260 := n3_; have HB := n4_; clear n0_ n1_ n2_ n3_ n4_; clear hb ho22; have hcv23 := own_string (P := Try.prog) Try.underlying46 Try.underlying5 Try.underlying9 (Kd.own_of_R HO260.out)) | ((with_reducible refine gate_builtin (b := .append) (xs := #[.tmp 31, .tmp 43]) rfl ?_); at_builtin; refine Kd.R_append k49 (w0 := w) w.heap.size rfl (.tmp 31) (.tmp 43) 22 49 (.agg #[(.string ⟨#[]⟩), (.bool false), (.string ⟨#[]⟩)]) 40 rfl Try.underlying22 info49 rfl (by decide) (by omega) u3 x3_1 (⟨strOfNums y255, false, strOfNums y258⟩ : S49) [.string (strOfNums y255), .bool false, .string (strOfNums y258)] (fun _ => True) (fun _ => False) rfl rfl ?aP (fun _ hk => hk.elim) ?aF ?aO ?aB ?aS ?aL ?_; (case aP => exact k49_mkM _ _ _ (⟨strOfNums y255, false, strOfNums y258⟩ : S49)); (case aB => exact (by repeat (first | (with_reducible first | exact HB.out | apply below_alloc | apply pw_below_drewN | apply below_drew1) | exact HB.out))); (case aF => exact (fun _ _ => trivial)); (case aO => exact (by (with_reducible repeat (first | apply Kd.R_alloc | apply Kd.R_drewN | apply Kd.R_drew)); exact HO_3.out)); (case aS => exact (below_size (by repeat (first | (with_reducible first | exact HB.out | apply below_alloc | apply pw_below_drewN | apply below_drew1) | exact HB.out)))); (case aL => have := LMc15.out; omega); intro v262 w24 ho hb hg hat; rw [← Ny261.out] at ho; have n0_ := Aside0.mk (Kd.R_over' (by (with_reducible repeat (first | apply Kd.R_alloc | apply Kd.R_drewN | apply Kd.R_drew)); exact HO_4.out) (Kd.R_typed (by (with_reducible repeat (first | apply Kd.R_alloc | apply Kd.R_drewN | apply Kd.R_drew)); exact HO_3.out)) (by decide) hg); have n1_ := Aside0.mk (Kd.R_over' (by (with_reducible repeat (first | apply Kd.R_alloc | apply Kd.R_drewN | apply Kd.R_drew)); exact HO257.out) (Kd.R_typed (by (with_reducible repeat (first | apply Kd.R_alloc | apply Kd.R_drewN | apply Kd.R_drew)); exact HO_3.out)) (by decide) hg); have n2_ := Aside0.mk (Kd.R_over' (by (with_reducible repeat (first | apply Kd.R_alloc | apply Kd.R_drewN | apply Kd.R_drew)); exact HO260.out) (Kd.R_typed (by (with_reducible repeat (first | apply Kd.R_alloc | apply Kd.R_drewN | apply Kd.R_drew)); exact HO_3.out)) (by decide) hg); have n3_ := Aside0.mk (hb); have n4_ := Aside0.mk (ho); clear HO_4; clear HO257; clear HO260; clear HB; clear HO_3; have HO_4 := n0_; have HO257 := n1_; have HO260 := n2_; have HB := n3_; have HO263 := n4_; clear n0_ n1_ n2_ n3_ n4_; clear ho hb hg hat)))
                    go_roundg k1
                    case measure => have := HK1.out; omega
                    case rel => exact ⟨(y261), (y254), (wrap64 (x5_1 + 1)), (by first | rfl | (simp; done) | (simp [*]; done)), H', ⟨by have := HK1.out; omega⟩, ⟨by (with_reducible repeat (first | apply Kd.R_alloc | apply Kd.R_drewN | apply Kd.R_drew)); exact HO263.out⟩, ⟨by (with_reducible repeat (first | apply Kd.R_alloc | apply Kd.R_drewN | apply Kd.R_drew)); exact HO_4.out⟩, ⟨by repeat (first | (with_reducible first | exact HB.out | apply below_alloc | apply pw_below_drewN | apply below_drew1) | exact HB.out)⟩⟩
                  · rw [if_neg c15] at H
                    exact absurd H (by simp)
                · rw [if_neg c13] at H
                  exact absurd H (by simp)
              · rw [if_neg c12] at H
                exact absurd H (by simp)
            · rw [if_neg c10] at H
              exact absurd H (by simp)
          · rw [if_neg c9] at H
            have c9b0 : decide (x5_1 < (l0.length : Int)) = false := decide_eq_false c9
            clear c9
            replace H := Option.bind_eq_some_iff.mp H
            obtain ⟨t264, A250, H⟩ := H
            replace H : (ravelinlaw12_BatchNeat.l1 k1 x3_1 x4_1 t264 0 0) = some r := H
            have A25 := Aside0.mk A250
            clear A250
            have H' := Aside0.mk H
            clear H
            obtain ⟨Ao26, co26, eo26⟩ := Kd.R_slice HO_3.out
            subst eo26
            go_wp2_with (first | (go_at_call 18; (with_reducible refine (batch_Neat.calls k1 _ _ x3_1 t264 _ ?side1 ?side2 A25.out).mono ?_); (case side1 => repeat (first | exact (Kd.R_reads' HO_3.out).2.2 | (with_reducible refine Kd.C_alloc ?_ _) | (with_reducible refine Kd.C_drewN ?_ _) | (with_reducible refine Kd.C_drew ?_))); (case side2 => exact (Kd.R_reads' HO_3.out).2.1); rintro e w27 ⟨v265, rfl, ho0, hb⟩; have n0_ := Aside0.mk (Kd.R_elder' (by (with_reducible repeat (first | apply Kd.R_alloc | apply Kd.R_drewN | apply Kd.R_drew)); exact HO_3.out) (Kd.R_base ho0) hb); have n1_ := Aside0.mk (Kd.R_below (by (with_reducible repeat (first | apply Kd.R_alloc | apply Kd.R_drewN | apply Kd.R_drew)); exact HO_4.out) hb); have n2_ := Aside0.mk (Kd.R_lower (Kd.R_new' ho0 (Kd.R_lt (by (with_reducible repeat (first | apply Kd.R_alloc | apply Kd.R_drewN | apply Kd.R_drew)); exact HO_3.out))) (below_size (by repeat (first | (with_reducible first | exact HB.out | apply below_alloc | apply pw_below_drewN | apply below_drew1) | exact HB.out)))); have n3_ := Aside0.mk (below_step (by repeat (first | (with_reducible first | exact HB.out | apply below_alloc | apply pw_below_drewN | apply below_drew1) | exact HB.out)) hb); clear HO_3; clear HO_4; clear HB; have HO_3 := n0_; have HO_4 := n1_; have HO266 := n2_; have HB := n3_; clear n0_ n1_ n2_ n3_; (try clear hb); (try clear hb2); (try clear hk); (try clear hi); (try clear ho0)))
            repeat (go_quiet (first | (go_at_call 18; (with_reducible refine (batch_Neat.calls k1 _ _ x3_1 t264 _ ?side1 ?side2 A25.out).mono ?_); (case side1 => repeat (first | exact (Kd.R_reads' HO_3.out).2.2 | (with_reducible refine Kd.C_alloc ?_ _) | (with_reducible refine Kd.C_drewN ?_ _) | (with_reducible refine Kd.C_drew ?_))); (case side2 => exact (Kd.R_reads' HO_3.out).2.1); rintro e w27 ⟨v265, rfl, ho0, hb⟩; have n0_ := Aside0.mk (Kd.R_elder' (by (with_reducible repeat (first | apply Kd.R_alloc | apply Kd.R_drewN | apply Kd.R_drew)); exact HO_3.out) (Kd.R_base ho0) hb); have n1_ := Aside0.mk (Kd.R_below (by (with_reducible repeat (first | apply Kd.R_alloc | apply Kd.R_drewN | apply Kd.R_drew)); exact HO_4.out) hb); have n2_ := Aside0.mk (Kd.R_lower (Kd.R_new' ho0 (Kd.R_lt (by (with_reducible repeat (first | apply Kd.R_alloc | apply Kd.R_drewN | apply Kd.R_drew)); exact HO_3.out))) (below_size (by repeat (first | (with_reducible first | exact HB.out | apply below_alloc | apply pw_below_drewN | apply below_drew1) | exact HB.out)))); have n3_ := Aside0.mk (below_step (by repeat (first | (with_reducible first | exact HB.out | apply below_alloc | apply pw_below_drewN | apply below_drew1) | exact HB.out)) hb); clear HO_3; clear HO_4; clear HB; have HO_3 := n0_; have HO_4 := n1_; have HO266 := n2_; have HB := n3_; clear n0_ n1_ n2_ n3_; (try clear hb); (try clear hb2); (try clear hk); (try clear hi); (try clear ho0))); try go_wp2_with (first | (go_at_call 18; (with_reducible refine (batch_Neat.calls k1 _ _ x3_1 t264 _ ?side1 ?side2 A25.out).mono ?_); (case side1 => repeat (first | exact (Kd.R_reads' HO_3.out).2.2 | (with_reducible refine Kd.C_alloc ?_ _) | (with_reducible refine Kd.C_drewN ?_ _) | (with_reducible refine Kd.C_drew ?_))); (case side2 => exact (Kd.R_reads' HO_3.out).2.1); rintro e w27 ⟨v265, rfl, ho0, hb⟩; have n0_ := Aside0.mk (Kd.R_elder' (by (with_reducible repeat (first | apply Kd.R_alloc | apply Kd.R_drewN | apply Kd.R_drew)); exact HO_3.out) (Kd.R_base ho0) hb); have n1_ := Aside0.mk (Kd.R_below (by (with_reducible repeat (first | apply Kd.R_alloc | apply Kd.R_drewN | apply Kd.R_drew)); exact HO_4.out) hb); have n2_ := Aside0.mk (Kd.R_lower (Kd.R_new' ho0 (Kd.R_lt (by (with_reducible repeat (first | apply Kd.R_alloc | apply Kd.R_drewN | apply Kd.R_drew)); exact HO_3.out))) (below_size (by repeat (first | (with_reducible first | exact HB.out | apply below_alloc | apply pw_below_drewN | apply below_drew1) | exact HB.out)))); have n3_ := Aside0.mk (below_step (by repeat (first | (with_reducible first | exact HB.out | apply below_alloc | apply pw_below_drewN | apply below_drew1) | exact HB.out)) hb); clear HO_3; clear HO_4; clear HB; have HO_3 := n0_; have HO_4 := n1_; have HO266 := n2_; have HB := n3_; clear n0_ n1_ n2_ n3_; (try clear hb); (try clear hb2); (try clear hk); (try clear hi); (try clear ho0))))
            go_loopg [8, 9] k1 (fun kq v8 v9 w' => ∃ (x8_2 : Int) (x9_2 : Int), v8 = .int .i64 x8_2 ∧ v9 = .int .i64 x9_2 ∧ Aside0 (ravelinlaw12_BatchNeat.l1 kq x3_1 x4_1 t264 x8_2 x9_2 = some r) ∧ Aside0 (kq ≤ k1) ∧ Aside0 (Kd.R k49 49 w' w.heap.size (fun k_ => some k_ ≠ (v265 : Value).ownBlock) (.slice Ao26 x3_1.length co26) x3_1) ∧ Aside0 (Kd.R (Kd.int .i64) 47 w' w.heap.size (fun _ => True) (.slice (some ⟨gb251, 0, none⟩) 8 8) x4_1) ∧ Aside0 (Kd.R k49 49 w' w.heap.size (fun k_ => some k_ ≠ ((.slice Ao26 x3_1.length co26) : Value).ownBlock) v265 t264) ∧ Aside0 (Below w.heap.size w w'))
            case atStart => exact ⟨(0), (0), (by first | rfl | (simp; done) | (simp [*]; done)), (by first | rfl | (simp; done) | (simp [*]; done)), H', ⟨Nat.le_refl _⟩, ⟨by (with_reducible repeat (first | apply Kd.R_alloc | apply Kd.R_drewN | apply Kd.R_drew)); exact Kd.R_mono HO_3.out (fun _ hk => hk.2)⟩, ⟨by (with_reducible repeat (first | apply Kd.R_alloc | apply Kd.R_drewN | apply Kd.R_drew)); exact HO_4.out⟩, ⟨by (with_reducible repeat (first | apply Kd.R_alloc | apply Kd.R_drewN | apply Kd.R_drew)); exact Kd.R_mono HO266.out (fun _ hk => hk.2)⟩, ⟨by repeat (first | (with_reducible first | exact HB.out | apply below_alloc | apply pw_below_drewN | apply below_drew1) | exact HB.out)⟩⟩
            case round =>
              clear H'
              try clear c1
              try clear p1
              try clear q1
              try clear hx1
              try clear hf1
              try clear p2
              try clear q2
              try clear hx2
              try clear hcv2
              try clear c3
              try clear c4
              try clear c4b0
              try clear c4b1
              try clear c5
              try clear p6
              try clear c9
              try clear c9b0
              try clear c10
              try clear c10b0
              try clear c12
              try clear c12b0
              try clear c13
              try clear c13b0
              try clear p14
              try clear q14
              try clear hx14
              try clear hf14
              try clear c15
              try clear hcv20
              try clear hcv23
              try clear p25
              try clear q25
              try clear hx25
              try clear hx14_0
              try clear hx253_0
              try clear p14
              try clear p2
              try clear p253
              try clear q14
              try clear q253
              obtain ⟨x8_2, x9_2, rfl, rfl, HA, HK2, HO_3, HO_4, HO_7, HB⟩ := hrel
              cases gk with
              | zero => exact absurd HA.out (by simp [ravelinlaw12_BatchNeat.l1])
              | succ k2 =>
                have H := HA.out
                clear HA
                simp only [ravelinlaw12_BatchNeat.l1] at H
                by_cases c28 : x9_2 < 8
                · rw [if_pos c28] at H
                  have c28b0 : decide (x9_2 < 8) = true := decide_eq_true c28
                  clear c28
                  by_cases c29 : 0 ≤ x9_2
                  · rw [if_pos c29] at H
                    have c29b0 : decide (0 ≤ x9_2) = true := decide_eq_true c29
                    clear c29
                    by_cases c30 : x9_2 < (x4_1.length : Int)
                    · rw [if_pos c30] at H
                      have c30b0 : decide (x9_2 < (x4_1.length : Int)) = true := decide_eq_true c30
                      clear c30
                      by_cases c31 : (rd x4_1 x9_2) = 0
                      · rw [if_pos c31] at H
                        have c31b0 : ((rd x4_1 x9_2) == 0) = true := beq_iff_eq.mpr c31
                        have c31b1 : ((rd x4_1 x9_2) != 0) = false := bne_eq_false_iff_eq.mpr c31
                        clear c31
                        have H' := Aside0.mk H
                        clear H
                        have p268 : 0 ≤ (x9_2 : Int) := of_decide_eq_true (by first | (with_reducible assumption) | assumption)
                        have q268 : x9_2 < (8 : Int) := of_decide_eq_true (by first | (with_reducible assumption) | assumption)
                        have hx268_0 : World.cell? _ ⟨gb251, ((x9_2 : Int)).toNat, none⟩ = some (.int .i64 (rd x4_1 x9_2)) := (Kd.R_celln 0 HO_4.out x9_2 p268 q268).1
                        replace p268 := eq_true p268
                        replace q268 := eq_true q268
                        go_wp2
                        repeat (go_quiet (fail); try go_wp2)
                        go_roundg k2
                        case measure => have := HK1.out; have := HK2.out; omega
                        case rel => exact ⟨(x8_2), (wrap64 (x9_2 + 1)), (by first | rfl | (simp; done) | (simp [*]; done)), (by first | rfl | (simp; done) | (simp [*]; done)), H', ⟨by have := HK1.out; have := HK2.out; omega⟩, ⟨by (with_reducible repeat (first | apply Kd.R_alloc | apply Kd.R_drewN | apply Kd.R_drew)); exact HO_3.out⟩, ⟨by (with_reducible repeat (first | apply Kd.R_alloc | apply Kd.R_drewN | apply Kd.R_drew)); exact HO_4.out⟩, ⟨by (with_reducible repeat (first | apply Kd.R_alloc | apply Kd.R_drewN | apply Kd.R_drew)); exact HO_7.out⟩, ⟨by repeat (first | (with_reducible first | exact HB.out | apply below_alloc | apply pw_below_drewN | apply below_drew1) | exact HB.out)⟩⟩
                      · rw [if_neg c31] at H
                        have c31b0 : ((rd x4_1 x9_2) == 0) = false := beq_eq_false_iff_ne.mpr c31
                        have c31b1 : ((rd x4_1 x9_2) != 0) = true := bne_iff_ne.mpr c31
                        by_cases c33 : x8_2 ≥ (t264.length : Int)
                        · rw [if_pos c33] at H
                          have c33b0 : decide ((t264.length : Int) ≤ x8_2) = true := decide_eq_true c33
                          clear c33
                          exact absurd ((Option.some.inj H).trans HR_.out) (by decide)
                        · rw [if_neg c33] at H
                          have c33b0 : decide ((t264.length : Int) ≤ x8_2) = false := decide_eq_false c33
                          clear c33
                          by_cases c34 : 0 ≤ x8_2
                          · rw [if_pos c34] at H
                            have c34b0 : decide (0 ≤ x8_2) = true := decide_eq_true c34
                            clear c34
                            by_cases c35 : x8_2 < (t264.length : Int)
                            · rw [if_pos c35] at H
                              have c35b0 : decide (x8_2 < (t264.length : Int)) = true := decide_eq_true c35
                              clear c35
                              obtain ⟨ji36, hji36⟩ : ∃ j_ : Int, (wrap64 ((rd x4_1 x9_2) - 1)) = j_ := ⟨_, rfl⟩
                              replace H : (if 0 ≤ (ji36) then (if (ji36) < (x3_1.length : Int) then (if (!((((rd_T49 t264 x8_2).f0).toList) == (((rd_T49 x3_1 (ji36)).f0).toList)) || (!(((rd_T49 t264 x8_2).f1) == ((rd_T49 x3_1 (ji36)).f1)) || (!((((rd_T49 t264 x8_2).f2).toList) == (((rd_T49 x3_1 (ji36)).f2).toList))))) = true then (some false) else (ravelinlaw12_BatchNeat.l1 k2 x3_1 x4_1 t264 (wrap64 (x8_2 + 1)) (wrap64 (x9_2 + 1)))) else (none)) else (none)) = some r := by first | (rw [hji36] at H; exact H) | (simp only [hji36] at H ⊢; exact H)
                              have hji36w : (IntKind.i64.wrap ((rd x4_1 x9_2) - 1)) = ji36 := (i64_w _).trans hji36
                              by_cases c37 : 0 ≤ (ji36)
                              · rw [if_pos c37] at H
                                have c37b0 : decide (0 ≤ (ji36)) = true := decide_eq_true c37
                                clear c37
                                by_cases c38 : (ji36) < (x3_1.length : Int)
                                · rw [if_pos c38] at H
                                  have c38b0 : decide ((ji36) < (x3_1.length : Int)) = true := decide_eq_true c38
                                  clear c38
                                  by_cases c39 : (!((((rd_T49 t264 x8_2).f0).toList) == (((rd_T49 x3_1 (ji36)).f0).toList)) || (!(((rd_T49 t264 x8_2).f1) == ((rd_T49 x3_1 (ji36)).f1)) || (!((((rd_T49 t264 x8_2).f2).toList) == (((rd_T49 x3_1 (ji36)).f2).toList))))) = true
                                  · rw [if_pos c39] at H
                                    have c39b0 : (!((((rd_T49 t264 x8_2).f0).toList) == (((rd_T49 x3_1 (ji36)).f0).toList)) || (!(((rd_T49 t264 x8_2).f1) == ((rd_T49 x3_1 (ji36)).f1)) || (!((((rd_T49 t264 x8_2).f2).toList) == (((rd_T49 x3_1 (ji36)).f2).toList))))) = true := c39
                                    clear c39
                                    exact absurd ((Option.some.inj H).trans HR_.out) (by decide)
                                  · rw [if_neg c39] at H
                                    have c39b0 : (!((((rd_T49 t264 x8_2).f0).toList) == (((rd_T49 x3_1 (ji36)).f0).toList)) || (!(((rd_T49 t264 x8_2).f1) == ((rd_T49 x3_1 (ji36)).f1)) || (!((((rd_T49 t264 x8_2).f2).toList) == (((rd_T49 x3_1 (ji36)).f2).toList))))) = false := by simpa using c39
                                    clear c39
                                    have H' := Aside0.mk H
                                    clear H
                                    have p268 : 0 ≤ (x9_2 : Int) := of_decide_eq_true (by first | (with_reducible assumption) | assumption)
                                    have q268 : x9_2 < (8 : Int) := of_decide_eq_true (by first | (with_reducible assumption) | assumption)
                                    have hx268_0 : World.cell? _ ⟨gb251, ((x9_2 : Int)).toNat, none⟩ = some (.int .i64 (rd x4_1 x9_2)) := (Kd.R_celln 0 HO_4.out x9_2 p268 q268).1
                                    replace p268 := eq_true p268
                                    replace q268 := eq_true q268
                                    obtain ⟨Ao41, co41, eo41⟩ := Kd.R_slice HO_7.out
                                    subst eo41
                                    have p269 : 0 ≤ (x8_2 : Int) := of_decide_eq_true (by first | (with_reducible assumption) | assumption)
                                    have q269 : x8_2 < (t264.length : Int) := of_decide_eq_true (by first | (with_reducible assumption) | assumption)
                                    obtain ⟨ad269, e269, hx269_0, hx269_1, hx269_2⟩ := at_T49 (Kd.R_reads' HO_7.out).2.2 x8_2 p269 q269
                                    cases e269
                                    replace p269 := eq_true p269
                                    replace q269 := eq_true q269
                                    have p270 : 0 ≤ (x9_2 : Int) := of_decide_eq_true (by first | (with_reducible assumption) | assumption)
                                    have q270 : x9_2 < (8 : Int) := of_decide_eq_true (by first | (with_reducible assumption) | assumption)
                                    have hx270_0 : World.cell? _ ⟨gb251, ((x9_2 : Int)).toNat, none⟩ = some (.int .i64 (rd x4_1 x9_2)) := (Kd.R_celln 0 HO_4.out x9_2 p270 q270).1
                                    replace p270 := eq_true p270
                                    replace q270 := eq_true q270
                                    have p271 : 0 ≤ ((ji36) : Int) := of_decide_eq_true (by first | (with_reducible assumption) | assumption)
                                    have q271 : (ji36) < (x3_1.length : Int) := of_decide_eq_true (by first | (with_reducible assumption) | assumption)
                                    obtain ⟨ad271, e271, hx271_0, hx271_1, hx271_2⟩ := at_T49 (Kd.R_reads' HO_3.out).2.2 (ji36) p271 q271
                                    cases e271
                                    replace p271 := eq_true p271
                                    replace q271 := eq_true q271
                                    go_wp2
                                    repeat (go_quiet (fail); try go_wp2)
                                    go_roundg k2
                                    case measure => have := HK1.out; have := HK2.out; omega
                                    case rel => exact ⟨(wrap64 (x8_2 + 1)), (wrap64 (x9_2 + 1)), (by first | rfl | (simp; done) | (simp [*]; done)), (by first | rfl | (simp; done) | (simp [*]; done)), H', ⟨by have := HK1.out; have := HK2.out; omega⟩, ⟨by (with_reducible repeat (first | apply Kd.R_alloc | apply Kd.R_drewN | apply Kd.R_drew)); exact HO_3.out⟩, ⟨by (with_reducible repeat (first | apply Kd.R_alloc | apply Kd.R_drewN | apply Kd.R_drew)); exact HO_4.out⟩, ⟨by (with_reducible repeat (first | apply Kd.R_alloc | apply Kd.R_drewN | apply Kd.R_drew)); exact HO_7.out⟩, ⟨by repeat (first | (with_reducible first | exact HB.out | apply below_alloc | apply pw_below_drewN | apply below_drew1) | exact HB.out)⟩⟩
                                · rw [if_neg c38] at H
                                  exact absurd H (by simp)
                              · rw [if_neg c37] at H
                                exact absurd H (by simp)
                            · rw [if_neg c35] at H
                              exact absurd H (by simp)
                          · rw [if_neg c34] at H
                            exact absurd H (by simp)
                    · rw [if_neg c30] at H
                      exact absurd H (by simp)
                  · rw [if_neg c29] at H
                    exact absurd H (by simp)
                · rw [if_neg c28] at H
                  have c28b0 : decide (x9_2 < 8) = false := decide_eq_false c28
                  clear c28
                  by_cases c42 : x8_2 = (t264.length : Int)
                  · rw [if_pos c42] at H
                    have c42b0 : (x8_2 == (t264.length : Int)) = true := beq_iff_eq.mpr c42
                    have c42b1 : (x8_2 != (t264.length : Int)) = false := bne_eq_false_iff_eq.mpr c42
                    clear c42
                    replace H := Option.bind_eq_some_iff.mp H
                    obtain ⟨t267, A430, H⟩ := H
                    replace H : (some t267) = some r := H
                    have A43 := Aside0.mk A430
                    clear A430
                    obtain rfl := Option.some.inj H
                    obtain ⟨Ao44, co44, eo44⟩ := Kd.R_slice HO_7.out
                    subst eo44
                    go_wp2_with (first | (go_at_call 15; (with_reducible refine (batch_Is.calls k2 _ _ t264 t267 _ ?side1 ?side2 A43.out).mono ?_); (case side1 => repeat (first | exact (Kd.R_reads' HO_7.out).2.2 | (with_reducible refine Kd.C_alloc ?_ _) | (with_reducible refine Kd.C_drewN ?_ _) | (with_reducible refine Kd.C_drew ?_))); (case side2 => exact (Kd.R_reads' HO_7.out).2.1); rintro e w45 ⟨rfl, hb⟩; have n0_ := Aside0.mk (Kd.R_below (by (with_reducible repeat (first | apply Kd.R_alloc | apply Kd.R_drewN | apply Kd.R_drew)); exact HO_3.out) hb); have n1_ := Aside0.mk (Kd.R_below (by (with_reducible repeat (first | apply Kd.R_alloc | apply Kd.R_drewN | apply Kd.R_drew)); exact HO_4.out) hb); have n2_ := Aside0.mk (Kd.R_below (by (with_reducible repeat (first | apply Kd.R_alloc | apply Kd.R_drewN | apply Kd.R_drew)); exact HO_7.out) hb); have n3_ := Aside0.mk (below_step (by repeat (first | (with_reducible first | exact HB.out | apply below_alloc | apply pw_below_drewN | apply below_drew1) | exact HB.out)) hb); clear HO_3; clear HO_4; clear HO_7; clear HB; have HO_3 := n0_; have HO_4 := n1_; have HO_7 := n2_; have HB := n3_; clear n0_ n1_ n2_ n3_; (try clear hb); (try clear hb2); (try clear hk); (try clear hi)))
                    repeat (go_quiet (first | (go_at_call 15; (with_reducible refine (batch_Is.calls k2 _ _ t264 t267 _ ?side1 ?side2 A43.out).mono ?_); (case side1 => repeat (first | exact (Kd.R_reads' HO_7.out).2.2 | (with_reducible refine Kd.C_alloc ?_ _) | (with_reducible refine Kd.C_drewN ?_ _) | (with_reducible refine Kd.C_drew ?_))); (case side2 => exact (Kd.R_reads' HO_7.out).2.1); rintro e w45 ⟨rfl, hb⟩; have n0_ := Aside0.mk (Kd.R_below (by (with_reducible repeat (first | apply Kd.R_alloc | apply Kd.R_drewN | apply Kd.R_drew)); exact HO_3.out) hb); have n1_ := Aside0.mk (Kd.R_below (by (with_reducible repeat (first | apply Kd.R_alloc | apply Kd.R_drewN | apply Kd.R_drew)); exact HO_4.out) hb); have n2_ := Aside0.mk (Kd.R_below (by (with_reducible repeat (first | apply Kd.R_alloc | apply Kd.R_drewN | apply Kd.R_drew)); exact HO_7.out) hb); have n3_ := Aside0.mk (below_step (by repeat (first | (with_reducible first | exact HB.out | apply below_alloc | apply pw_below_drewN | apply below_drew1) | exact HB.out)) hb); clear HO_3; clear HO_4; clear HO_7; clear HB; have HO_3 := n0_; have HO_4 := n1_; have HO_7 := n2_; have HB := n3_; clear n0_ n1_ n2_ n3_; (try clear hb); (try clear hb2); (try clear hk); (try clear hi))); try go_wp2_with (first | (go_at_call 15; (with_reducible refine (batch_Is.calls k2 _ _ t264 t267 _ ?side1 ?side2 A43.out).mono ?_); (case side1 => repeat (first | exact (Kd.R_reads' HO_7.out).2.2 | (with_reducible refine Kd.C_alloc ?_ _) | (with_reducible refine Kd.C_drewN ?_ _) | (with_reducible refine Kd.C_drew ?_))); (case side2 => exact (Kd.R_reads' HO_7.out).2.1); rintro e w45 ⟨rfl, hb⟩; have n0_ := Aside0.mk (Kd.R_below (by (with_reducible repeat (first | apply Kd.R_alloc | apply Kd.R_drewN | apply Kd.R_drew)); exact HO_3.out) hb); have n1_ := Aside0.mk (Kd.R_below (by (with_reducible repeat (first | apply Kd.R_alloc | apply Kd.R_drewN | apply Kd.R_drew)); exact HO_4.out) hb); have n2_ := Aside0.mk (Kd.R_below (by (with_reducible repeat (first | apply Kd.R_alloc | apply Kd.R_drewN | apply Kd.R_drew)); exact HO_7.out) hb); have n3_ := Aside0.mk (below_step (by repeat (first | (with_reducible first | exact HB.out | apply below_alloc | apply pw_below_drewN | apply below_drew1) | exact HB.out)) hb); clear HO_3; clear HO_4; clear HO_7; clear HB; have HO_3 := n0_; have HO_4 := n1_; have HO_7 := n2_; have HB := n3_; clear n0_ n1_ n2_ n3_; (try clear hb); (try clear hb2); (try clear hk); (try clear hi))))
                    go_ret
                    exact ⟨by first | rfl | (simp [errW_none, errW_some] <;> rfl) | (simp [*, errW_none, errW_some] <;> rfl), by repeat (first | (with_reducible first | exact HB.out | apply below_alloc | apply pw_below_drewN | apply below_drew1) | exact HB.out)⟩
                  · rw [if_neg c42] at H
                    have c42b0 : (x8_2 == (t264.length : Int)) = false := beq_eq_false_iff_ne.mpr c42
                    have c42b1 : (x8_2 != (t264.length : Int)) = true := bne_iff_ne.mpr c42
                    exact absurd ((Option.some.inj H).trans HR_.out) (by decide)
  · replace c3 := Bool.eq_false_iff.mpr c3
    subst c3
    have H1 : (some false) = some r := by rw [if_neg (show ¬ (false = true) by decide)] at H; exact H
    clear H
    have H := H1
    clear H1
    exact absurd ((Option.some.inj H).trans HR_.out) (by decide)

/-- THE ONE PURE STATEMENT of ravelinlaw12_BatchNeat: yours. -/
def ravelinlaw12_BatchNeat.Pure : Prop := ∀ (l0 : List Int), l0.length ≤ maxLen → l0.length * 1 ≤ 140737488351232 → (∀ x ∈ l0, (Lit.int .u8 x).wf = true) → ∃ k, ravelinlaw12_BatchNeat.f k l0 = some true
theorem ravelinlaw12_BatchNeat.walk (P : ravelinlaw12_BatchNeat.Pure) (a0 : Option Addr) (len0 cap0 : Nat) (z0 : List Int) (w : World) (w0 : (a0 = none ∧ len0 = 0 ∧ cap0 = 0 ∧ z0 = []) ∨ ∃ x, a0 = some x ∧ len0 ≤ cap0 ∧ cap0 ≤ maxLen ∧ z0.length = cap0 ∧ (∀ i, i < z0.length → w.cell? (x.add i) = some (.int .u8 (z0.getD i 0))) ∧ ∀ n ∈ z0, (Lit.int .u8 n).wf = true) (y0 : len0 * 1 ≤ 140737488351232) :
    Calls Try.prog 5 #[.slice a0 len0 cap0] w fun e w' => e = .returned (.bool true) ∧ Below w.heap.size w w' := by
  obtain ⟨l0, rfl, hr0, hm0, hw0, hc0⟩ := ReadsInt.ofRowC w0
  obtain ⟨k, h⟩ := P l0 hm0 y0 hw0
  refine (ravelinlaw12_BatchNeat.calls k _ _ l0 true w (Kd.C_of_reads (d := (0 : Int)) (h1 := fun _ => rfl) hr0) hc0 h rfl).mono ?_
  rintro e w' ⟨rfl, hd⟩
  exact ⟨rfl, hd⟩

end Go.Proofs.Ytnjbmcjhhadojaa.P
