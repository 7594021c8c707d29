-- Printed by a changed copy of the kit's printer (wip/tools/ext.py); labels and more
import Derived.Test.YtjcpdbekdimceaaM0
import Derived.Test.YtjcpdbekdimceaaM1
import Derived.Test.YtjcpdbekdimceaaM3
import Derived.Test.YtjcpdbekdimceaaM4
namespace Go.Proofs.Ytjcpdbekdimceaa.P
open Go.RowKit Go.Proofs.YtjcpdbekdimceaaW.PrintWords Go.Proofs.YtjcpdbekdimceaaW.PrintLast Go.Proofs.YtjcpdbekdimceaaW.PrintMore
attribute [local go_sem] max2_int min2_int max_two min_two max_three min_three max_four min_four   -- for this text's walks alone
attribute [local go_sem high] string_leq string_geq string_gtr
set_option linter.unusedVariables false
set_option linter.unusedSimpArgs false

/-! ### merge_Pack: function 16 -/
-- by hand
mutual
def merge_Pack.j0 : Nat → List (S39) → List Int → Bool → Bool → Option ((List (S39)))
  | 0, _, _, _, _ => none
  | k + 1, x0, x1, x2, x22 => if x22 = true then (some ([] : List (S39))) else ((merge_groups.f k x0).bind fun t156 => (merge_Pack.l0 k x1 x2 ([] : List (S39)) t156 (t156.length : Int) 0))
def merge_Pack.l0 : Nat → List Int → Bool → List (S39) → List (List (S39)) → Int → Int → Option ((List (S39)))
  | 0, _, _, _, _, _, _ => none
  | k + 1, x1, x2, x7, x24, x25, x26 => if x26 < x25 then (if 0 ≤ x26 then (if x26 < (x24.length : Int) then (if 0 ≤ (wrap64 (((rd_L4 x24 x26).length : Int) + 1)) then (if (wrap64 (((rd_L4 x24 x26).length : Int) + 1) : Int).toNat ≤ 281474976710656 then ((some (List.replicate (wrap64 (((rd_L4 x24 x26).length : Int) + 1) : Int).toNat false : List Bool)).bind fun y160 => ((merge_newest.f k (rd_L4 x24 x26) 1000000).bind fun t163 => (if 0 ≤ t163 then (if t163 < (y160.length : Int) then (merge_Pack.l1 k x1 x2 x7 (rd_L4 x24 x26) (y160.set (t163 : Int).toNat true) x24 x25 x26 x1 (x1.length : Int) 0) else (none)) else (none)))) else (none)) else (none)) else (none)) else (none)) else (some x7)
def merge_Pack.l1 : Nat → List Int → Bool → List (S39) → List (S39) → List Bool → List (List (S39)) → Int → Int → List Int → Int → Int → Option ((List (S39)))
  | 0, _, _, _, _, _, _, _, _, _, _, _ => none
  | k + 1, x1, x2, x7, x9, x10, x24, x25, x26, x38, x39, x40 => if x40 < x39 then (if 0 ≤ x40 then (if x40 < (x38.length : Int) then ((merge_newest.f k x9 (rd x38 x40)).bind fun t166 => (if 0 ≤ t166 then (if t166 < (x10.length : Int) then (merge_Pack.l1 k x1 x2 x7 x9 (x10.set (t166 : Int).toNat true) x24 x25 x26 x38 x39 (wrap64 (x40 + 1))) else (none)) else (none))) else (none)) else (none)) else (merge_Pack.l2 k x1 x2 x7 x10 (x7.length : Int) x24 x25 x26 x9 (x9.length : Int) 0)
def merge_Pack.l2 : Nat → List Int → Bool → List (S39) → List Bool → Int → List (List (S39)) → Int → Int → List (S39) → Int → Int → Option ((List (S39)))
  | 0, _, _, _, _, _, _, _, _, _, _, _ => none
  | k + 1, x1, x2, x7, x10, x13, x24, x25, x26, x52, x53, x54 => if x54 < x53 then (if 0 ≤ x54 then (if x54 < (x52.length : Int) then (if x54 < (x10.length : Int) then (if rdOf false x10 x54 = true then (if x7.length < 2932031007402 then (merge_Pack.l2 k x1 x2 (x7 ++ [(⟨(rd_T39 x52 x54).f0, (rd_T39 x52 x54).f1, (rd_T39 x52 x54).f2, (rd_T39 x52 x54).f3⟩ : S39)]) x10 x13 x24 x25 x26 x52 x53 (wrap64 (x54 + 1))) else (none)) else (merge_Pack.l2 k x1 x2 x7 x10 x13 x24 x25 x26 x52 x53 (wrap64 (x54 + 1)))) else (none)) else (none)) else (none)) else (merge_Pack.l3 k x1 x2 x7 x13 x24 x25 x26)
def merge_Pack.l3 : Nat → List Int → Bool → List (S39) → Int → List (List (S39)) → Int → Int → Option ((List (S39)))
  | 0, _, _, _, _, _, _, _ => none
  | k + 1, x1, x2, x7, x13, x24, x25, x26 => if x2 = true then (if (x7.length : Int) > x13 then (if 0 ≤ (wrap64 ((x7.length : Int) - 1)) then (if (wrap64 ((x7.length : Int) - 1)) < (x7.length : Int) then (if (rd_T39 x7 (wrap64 ((x7.length : Int) - 1))).f2 = true then (if (wrap64 ((x7.length : Int) - 1)) ≤ (x7.length : Int) then (merge_Pack.l3 k x1 x2 (x7.take ((wrap64 ((x7.length : Int) - 1)) : Int).toNat) x13 x24 x25 x26) else (none)) else (merge_Pack.l0 k x1 x2 x7 x24 x25 (wrap64 (x26 + 1)))) else (none)) else (none)) else (merge_Pack.l0 k x1 x2 x7 x24 x25 (wrap64 (x26 + 1)))) else (merge_Pack.l0 k x1 x2 x7 x24 x25 (wrap64 (x26 + 1)))
end
def merge_Pack.f (k : Nat) (l0 : List (S39)) (l1 : List Int) (a2 : Bool) : Option ((List (S39))) := (entry_Sorted.f k l0).bind fun t154 => (if t154 = true then ((api_Entry_28.f k l0).bind fun t155 => (merge_Pack.j0 k l0 l1 a2 t155)) else (merge_Pack.j0 k l0 l1 a2 true))
theorem merge_Pack.mono_l : ∀ k, (∀ y0 y1 y2 y3, LeO (merge_Pack.j0 k y0 y1 y2 y3) (merge_Pack.j0 (k + 1) y0 y1 y2 y3)) ∧ (∀ y0 y1 y2 y3 y4 y5, LeO (merge_Pack.l0 k y0 y1 y2 y3 y4 y5) (merge_Pack.l0 (k + 1) y0 y1 y2 y3 y4 y5)) ∧ (∀ y0 y1 y2 y3 y4 y5 y6 y7 y8 y9 y10, LeO (merge_Pack.l1 k y0 y1 y2 y3 y4 y5 y6 y7 y8 y9 y10) (merge_Pack.l1 (k + 1) y0 y1 y2 y3 y4 y5 y6 y7 y8 y9 y10)) ∧ (∀ y0 y1 y2 y3 y4 y5 y6 y7 y8 y9 y10, LeO (merge_Pack.l2 k y0 y1 y2 y3 y4 y5 y6 y7 y8 y9 y10) (merge_Pack.l2 (k + 1) y0 y1 y2 y3 y4 y5 y6 y7 y8 y9 y10)) ∧ (∀ y0 y1 y2 y3 y4 y5 y6, LeO (merge_Pack.l3 k y0 y1 y2 y3 y4 y5 y6) (merge_Pack.l3 (k + 1) y0 y1 y2 y3 y4 y5 y6))
  | 0 => ⟨fun _ _ _ _ r h => by simp [merge_Pack.j0] at h, fun _ _ _ _ _ _ r h => by simp [merge_Pack.l0] at h, fun _ _ _ _ _ _ _ _ _ _ _ r h => by simp [merge_Pack.l1] at h, fun _ _ _ _ _ _ _ _ _ _ _ r h => by simp [merge_Pack.l2] at h, fun _ _ _ _ _ _ _ r h => by simp [merge_Pack.l3] at h⟩
  | k + 1 => by
    obtain ⟨ih0, ih1, ih2, ih3, ih4⟩ := merge_Pack.mono_l k
    refine ⟨?_, ?_, ?_, ?_, ?_⟩
    all_goals
      intros
      first | unfold merge_Pack.j0 | unfold merge_Pack.l0 | unfold merge_Pack.l1 | unfold merge_Pack.l2 | unfold merge_Pack.l3
      repeat' first
      | (with_reducible exact ih0 _ _ _ _)
      | (with_reducible exact ih1 _ _ _ _ _ _)
      | (with_reducible exact ih2 _ _ _ _ _ _ _ _ _ _ _)
      | (with_reducible exact ih3 _ _ _ _ _ _ _ _ _ _ _)
      | (with_reducible exact ih4 _ _ _ _ _ _ _)
      | (with_reducible exact api_Entry_28.mono _ _)
      | (with_reducible exact entry_Sorted.mono _ _)
      | (with_reducible exact merge_groups.mono _ _)
      | (with_reducible exact merge_newest.mono _ _ _)
      | (with_reducible exact LeO.refl _)
      | (with_reducible exact LeO.none _)
      | (with_reducible refine LeO.ite ?_ ?_)
      | (with_reducible refine LeO.bind ?_ (fun _ => ?_))
      | exact ih0 _ _ _ _
      | exact ih1 _ _ _ _ _ _
      | exact ih2 _ _ _ _ _ _ _ _ _ _ _
      | exact ih3 _ _ _ _ _ _ _ _ _ _ _
      | exact ih4 _ _ _ _ _ _ _
      | exact api_Entry_28.mono _ _
      | exact entry_Sorted.mono _ _
      | exact merge_groups.mono _ _
      | exact merge_newest.mono _ _ _
      | exact LeO.none _
      | refine LeO.ite ?_ ?_
      | refine LeO.bind ?_ (fun _ => ?_)
theorem merge_Pack.mono : ∀ a0 a1 a2 k, LeO (merge_Pack.f k a0 a1 a2) (merge_Pack.f (k + 1) a0 a1 a2) := by
  intro a0 a1 a2 k
  obtain ⟨ih0, ih1, ih2, ih3, ih4⟩ := merge_Pack.mono_l k
  unfold merge_Pack.f
  repeat' first
      | (with_reducible exact ih0 _ _ _ _)
      | (with_reducible exact ih1 _ _ _ _ _ _)
      | (with_reducible exact ih2 _ _ _ _ _ _ _ _ _ _ _)
      | (with_reducible exact ih3 _ _ _ _ _ _ _ _ _ _ _)
      | (with_reducible exact ih4 _ _ _ _ _ _ _)
      | (with_reducible exact api_Entry_28.mono _ _)
      | (with_reducible exact entry_Sorted.mono _ _)
      | (with_reducible exact merge_groups.mono _ _)
      | (with_reducible exact merge_newest.mono _ _ _)
      | (with_reducible exact LeO.refl _)
      | (with_reducible exact LeO.none _)
      | (with_reducible refine LeO.ite ?_ ?_)
      | (with_reducible refine LeO.bind ?_ (fun _ => ?_))
      | exact ih0 _ _ _ _
      | exact ih1 _ _ _ _ _ _
      | exact ih2 _ _ _ _ _ _ _ _ _ _ _
      | exact ih3 _ _ _ _ _ _ _ _ _ _ _
      | exact ih4 _ _ _ _ _ _ _
      | exact api_Entry_28.mono _ _
      | exact entry_Sorted.mono _ _
      | exact merge_groups.mono _ _
      | exact merge_newest.mono _ _ _
      | exact LeO.none _
      | refine LeO.ite ?_ ?_
      | refine LeO.bind ?_ (fun _ => ?_)
set_option maxHeartbeats 8000000 in
set_option maxRecDepth 100000 in
theorem merge_Pack.calls (k : Nat) (A0 : Option Addr) (c0 : Nat) (l0 : List (S39)) (A1 : Option Addr) (c1 : Nat) (l1 : List Int) (a2 : Bool) (r : List (S39)) (w : World) (hr0 : Kd.C k39 w A0 l0.length l0) (hc0 : l0.length ≤ c0) (hr1 : Kd.C (Kd.int .i64) w A1 l1.length l1) (hc1 : l1.length ≤ c1) (h : merge_Pack.f k l0 l1 a2 = some r) :
    Calls Try.prog 16 #[.slice A0 l0.length c0, .slice A1 l1.length c1, .bool a2] w fun e w' => ∃ v0_ : Value, e = .returned (v0_) ∧ Kd.R k39 39 w' w.heap.size (fun _ => True) v0_ r ∧ Below w.heap.size w w' := by
  have hu39 := Try.underlying39
  have HR0 := Aside0.mk hr0
  have HC0 := Aside0.mk hc0
  clear hr0 hc0
  have HR1 := Aside0.mk hr1
  have HC1 := Aside0.mk hc1
  clear hr1 hc1
  have HB := Aside0.mk (Below.refl w.heap.size w)
  have H : ((entry_Sorted.f k l0).bind fun t154 => (if t154 = true then ((api_Entry_28.f k l0).bind fun t155 => (merge_Pack.j0 k l0 l1 a2 t155)) else (merge_Pack.j0 k l0 l1 a2 true))) = some r := h
  clear h
  have HC4 := Aside0.mk H
  clear H
  go_enter Try.func16, Try.ntmps16
  go_upto_region 1 with (fail)
  go_cut [22] (fun v22 wc => ∃ (kq : Nat) (x22_3 : Bool), v22 = .bool x22_3 ∧ Aside0 (merge_Pack.j0 kq l0 l1 a2 x22_3 = some r) ∧ Aside0 (kq ≤ k) ∧ Aside0 (Below w.heap.size w wc))
  case first =>
    have H := HC4.out
    clear HC4
    replace H := Option.bind_eq_some_iff.mp H
    obtain ⟨t154, A50, H⟩ := H
    replace H : (if t154 = true then ((api_Entry_28.f k l0).bind fun t155 => (merge_Pack.j0 k l0 l1 a2 t155)) else (merge_Pack.j0 k l0 l1 a2 true)) = some r := H
    have A5 := Aside0.mk A50
    clear A50
    by_cases c6 : t154 = true
    rotate_left
    · replace c6 := Bool.eq_false_iff.mpr c6
      subst c6
      have H1 : (merge_Pack.j0 k l0 l1 a2 true) = some r := by rw [if_neg (show ¬ (false = true) by decide)] at H; exact H
      clear H
      have H := H1
      clear H1
      have H' := Aside0.mk H
      clear H
      go_wp2_with (first | ((with_reducible refine gate_callee (f := 22) rfl ?_); refine goesL_ (some 17) rfl rfl Try.func22 (by kernel_rfl) rfl #[.slice A0 l0.length c0] rfl (by (try simp only [List.map_toArray, List.map_cons, List.map_nil]); first | done | rfl | (simp only [List.length_drop, List.length_take]; rfl)) ?_; (with_reducible refine (entry_Sorted.calls k _ _ l0 false _ ?side1 ?side2 A5.out).mono ?_); (case side1 => repeat (first | exact (Kd.C_below HR0.out HB.out) | (with_reducible refine Kd.C_alloc ?_ _) | (with_reducible refine Kd.C_drewN ?_ _) | (with_reducible refine Kd.C_drew ?_))); (case side2 => exact HC0.out); rintro e w10 ⟨rfl, hb⟩; refine ⟨_, rfl, ?_⟩; have n0_ := Aside0.mk (below_step (by repeat (first | (with_reducible first | exact HB.out | apply below_alloc | apply pw_below_drewN | apply below_drew1) | exact HB.out)) hb); clear HB; have HB := n0_; clear n0_; (try clear hb); (try clear hb2); (try clear hk); (try clear hi)))
      go_meet
      case rel => exact ⟨_, (true), (by first | rfl | (simp; done) | (simp [*]; done)), H', ⟨by first | omega | exact Nat.le_refl _⟩, ⟨by repeat (first | (with_reducible first | exact HB.out | apply below_alloc | apply pw_below_drewN | apply below_drew1) | exact HB.out)⟩⟩
    subst c6
    have H1 : ((api_Entry_28.f k l0).bind fun t155 => (merge_Pack.j0 k l0 l1 a2 t155)) = some r := by rw [if_pos rfl] at H; exact H
    clear H
    have H := H1
    clear H1
    replace H := Option.bind_eq_some_iff.mp H
    obtain ⟨t155, A70, H⟩ := H
    replace H : (merge_Pack.j0 k l0 l1 a2 t155) = some r := H
    have A7 := Aside0.mk A70
    clear A70
    have H' := Aside0.mk H
    clear H
    go_wp2_with (first | ((with_reducible refine gate_callee (f := 22) rfl ?_); refine goesL_ (some 17) rfl rfl Try.func22 (by kernel_rfl) rfl #[.slice A0 l0.length c0] rfl (by (try simp only [List.map_toArray, List.map_cons, List.map_nil]); first | done | rfl | (simp only [List.length_drop, List.length_take]; rfl)) ?_; (with_reducible refine (entry_Sorted.calls k _ _ l0 true _ ?side1 ?side2 A5.out).mono ?_); (case side1 => repeat (first | exact (Kd.C_below HR0.out HB.out) | (with_reducible refine Kd.C_alloc ?_ _) | (with_reducible refine Kd.C_drewN ?_ _) | (with_reducible refine Kd.C_drew ?_))); (case side2 => exact HC0.out); rintro e w8 ⟨rfl, hb⟩; refine ⟨_, rfl, ?_⟩; have n0_ := Aside0.mk (below_step (by repeat (first | (with_reducible first | exact HB.out | apply below_alloc | apply pw_below_drewN | apply below_drew1) | exact HB.out)) hb); clear HB; have HB := n0_; clear n0_; (try clear hb); (try clear hb2); (try clear hk); (try clear hi)) | (go_at_call 28; (with_reducible refine (api_Entry_28.calls k _ _ l0 t155 _ ?side1 ?side2 A7.out).mono ?_); (case side1 => repeat (first | exact (Kd.C_below HR0.out HB.out) | (with_reducible refine Kd.C_alloc ?_ _) | (with_reducible refine Kd.C_drewN ?_ _) | (with_reducible refine Kd.C_drew ?_))); (case side2 => exact HC0.out); rintro e w9 ⟨rfl, hb⟩; have n0_ := Aside0.mk (below_step (by repeat (first | (with_reducible first | exact HB.out | apply below_alloc | apply pw_below_drewN | apply below_drew1) | exact HB.out)) hb); clear HB; have HB := n0_; clear n0_; (try clear hb); (try clear hb2); (try clear hk); (try clear hi)))
    go_meet
    case rel => exact ⟨_, (t155), (by first | rfl | (simp; done) | (simp [*]; done)), H', ⟨by first | omega | exact Nat.le_refl _⟩, ⟨by repeat (first | (with_reducible first | exact HB.out | apply below_alloc | apply pw_below_drewN | apply below_drew1) | exact HB.out)⟩⟩
  clear HC4
  try clear c1
  try clear c2
  try clear p2
  try clear c6
  obtain ⟨kq, x22_3, rfl, HA, HJ3, HB⟩ := hcut
  cases kq with
  | zero => exact absurd HA.out (by simp [merge_Pack.j0])
  | succ kj3 => ?_
  have H := HA.out
  clear HA
  simp only [merge_Pack.j0] at H
  by_cases c11 : x22_3 = true
  · subst c11
    have H1 : (some ([] : List (S39))) = some r := by rw [if_pos rfl] at H; exact H
    clear H
    have H := H1
    clear H1
    obtain rfl := Option.some.inj H
    go_wp2
    go_ret
    exact ⟨_, by first | rfl | (simp [errW_none, errW_some] <;> rfl) | (simp [*, errW_none, errW_some] <;> rfl), by first | exact Kd.R_nil _ _ _ _ _ | exact Kd.N_nil _ _ _ _ _ | exact Kd.V_nil _ _ _ _ _ | exact Kd.Q_nil _ _ _ _ _ | exact Kd.S_nil _ _ _ _ _, by repeat (first | (with_reducible first | exact HB.out | apply below_alloc | apply pw_below_drewN | apply below_drew1) | exact HB.out)⟩
  replace c11 := Bool.eq_false_iff.mpr c11
  subst c11
  have H1 : ((merge_groups.f kj3 l0).bind fun t156 => (merge_Pack.l0 kj3 l1 a2 ([] : List (S39)) t156 (t156.length : Int) 0)) = some r := by rw [if_neg (show ¬ (false = true) by decide)] at H; exact H
  clear H
  have H := H1
  clear H1
  replace H := Option.bind_eq_some_iff.mp H
  obtain ⟨t156, A120, H⟩ := H
  replace H : (merge_Pack.l0 kj3 l1 a2 ([] : List (S39)) t156 (t156.length : Int) 0) = some r := H
  have A12 := Aside0.mk A120
  clear A120
  have H' := Aside0.mk H
  clear H
  go_wp2_with (first | ((with_reducible refine gate_callee (f := 26) rfl ?_); refine goesL_ (some 24) rfl rfl Try.func26 (by kernel_rfl) rfl #[.slice A0 l0.length c0] rfl (by (try simp only [List.map_toArray, List.map_cons, List.map_nil]); first | done | rfl | (simp only [List.length_drop, List.length_take]; rfl)) ?_; (with_reducible refine (merge_groups.calls kj3 w _ _ l0 t156 _ ?side0 ?side1 ?side2 A12.out).mono ?_); (case side0 => repeat (first | (with_reducible first | exact HB.out | apply below_alloc | apply pw_below_drewN | apply below_drew1) | exact HB.out)); (case side1 => exact HR0.out); (case side2 => exact HC0.out); rintro e w13 ⟨v157, rfl, ho0, hb⟩; refine ⟨_, rfl, ?_⟩; have n0_ := Aside0.mk (Kd.S_lower (kGL_S ho0) (below_size (by repeat (first | (with_reducible first | exact HB.out | apply below_alloc | apply pw_below_drewN | apply below_drew1) | exact HB.out)))); have n1_ := Aside0.mk (below_step (by repeat (first | (with_reducible first | exact HB.out | apply below_alloc | apply pw_below_drewN | apply below_drew1) | exact HB.out)) hb); clear HB; have HO158 := n0_; have HB := n1_; clear n0_ n1_; (try clear hb); (try clear hb2); (try clear hk); (try clear hi); (try clear ho0); obtain ⟨Ao14, co14, eo14⟩ := Kd.S_slice HO158.out; subst eo14))
  go_loopg [7, 26] kj3 (fun kq v7 v26 w' => ∃ (x7_2 : List (S39)) (x26_2 : Int), v26 = .int .i64 x26_2 ∧ Aside0 (merge_Pack.l0 kq l1 a2 x7_2 t156 (t156.length : Int) x26_2 = some r) ∧ Aside0 (kq ≤ kj3) ∧ Aside0 (Kd.R k39 39 w' w.heap.size (fun _ => True) v7 x7_2) ∧ Aside0 (Kd.S (kGL w) 23 w' w.heap.size (fun k_ => some k_ ≠ (v7 : Value).ownBlock) (.slice Ao14 t156.length co14) t156) ∧ Aside0 (Below w.heap.size w w'))
  case atStart => exact ⟨(([] : List (S39))), (0), (by first | rfl | (simp; done) | (simp [*]; done)), H', ⟨Nat.le_refl _⟩, ⟨by first | exact Kd.R_nil _ _ _ _ _ | exact Kd.N_nil _ _ _ _ _ | exact Kd.V_nil _ _ _ _ _ | exact Kd.Q_nil _ _ _ _ _ | exact Kd.S_nil _ _ _ _ _⟩, ⟨by (with_reducible repeat (first | apply Kd.S_alloc | apply Kd.S_drewN | apply Kd.S_drew)); exact Kd.S_mono HO158.out (fun _ hk => (by simp [Value.ownBlock]))⟩, ⟨by repeat (first | (with_reducible first | exact HB.out | apply below_alloc | apply pw_below_drewN | apply below_drew1) | exact HB.out)⟩⟩
  clear H'
  try clear c1
  try clear c2
  try clear p2
  try clear c6
  try clear c11
  try clear p2
  obtain ⟨x7_2, x26_2, rfl, HA, HK2, HO_7, HO_24, HB⟩ := hrel
  cases gk with
  | zero => exact absurd HA.out (by simp [merge_Pack.l0])
  | succ k2 => ?_
  have H := HA.out
  clear HA
  simp only [merge_Pack.l0] at H
  by_cases c15 : x26_2 < (t156.length : Int)
  rotate_left
  · rw [if_neg c15] at H
    have c15b0 : decide (x26_2 < (t156.length : Int)) = false := decide_eq_false c15
    clear c15
    obtain rfl := Option.some.inj H
    go_wp2
    go_ret
    exact ⟨_, by first | rfl | (simp [errW_none, errW_some] <;> rfl) | (simp [*, errW_none, errW_some] <;> rfl), by (with_reducible repeat (first | apply Kd.R_alloc | apply Kd.R_drewN | apply Kd.R_drew)); exact HO_7.out, by repeat (first | (with_reducible first | exact HB.out | apply below_alloc | apply pw_below_drewN | apply below_drew1) | exact HB.out)⟩
  rw [if_pos c15] at H
  have c15b0 : decide (x26_2 < (t156.length : Int)) = true := decide_eq_true c15
  clear c15
  by_cases c16 : 0 ≤ x26_2
  rotate_left
  · rw [if_neg c16] at H
    exact absurd H (by simp)
  rw [if_pos c16] at H
  have c16b0 : decide (0 ≤ x26_2) = true := decide_eq_true c16
  clear c16
  by_cases c17 : x26_2 < (t156.length : Int)
  rotate_left
  · rw [if_neg c17] at H
    exact absurd H (by simp)
  rw [if_pos c17] at H
  have c17b0 : decide (x26_2 < (t156.length : Int)) = true := decide_eq_true c17
  clear c17
  obtain ⟨ji18, hji18⟩ : ∃ j_ : Int, (wrap64 (((rd_L4 t156 x26_2).length : Int) + 1)) = j_ := ⟨_, rfl⟩
  replace H : (if 0 ≤ (ji18) then (if (ji18 : Int).toNat ≤ 281474976710656 then ((some (List.replicate (ji18 : Int).toNat false : List Bool)).bind fun y160 => ((merge_newest.f k2 (rd_L4 t156 x26_2) 1000000).bind fun t163 => (if 0 ≤ t163 then (if t163 < (y160.length : Int) then (merge_Pack.l1 k2 l1 a2 x7_2 (rd_L4 t156 x26_2) (y160.set (t163 : Int).toNat true) t156 (t156.length : Int) x26_2 l1 (l1.length : Int) 0) else (none)) else (none)))) else (none)) else (none)) = some r := by first | (rw [hji18] at H; exact H) | (simp only [hji18] at H ⊢; exact H)
  have hji18w : (IntKind.i64.wrap (((rd_L4 t156 x26_2).length : Int) + 1)) = ji18 := (i64_w _).trans hji18
  by_cases c19 : 0 ≤ (ji18)
  rotate_left
  · rw [if_neg c19] at H
    exact absurd H (by simp)
  rw [if_pos c19] at H
  have c19b0 := eq_true c19
  have c19b1 : decide (0 ≤ (ji18)) = true := decide_eq_true c19
  clear c19
  by_cases c20 : (ji18 : Int).toNat ≤ 281474976710656
  rotate_left
  · rw [if_neg c20] at H
    exact absurd H (by simp)
  rw [if_pos c20] at H
  have c20b0 := eq_true c20
  have c20b1 : decide ((ji18 : Int).toNat ≤ 281474976710656) = true := decide_eq_true c20
  clear c20
  obtain ⟨y160, hy160⟩ : ∃ y_ : List Bool, y_ = (List.replicate (ji18 : Int).toNat false) := ⟨_, rfl⟩
  replace H : ((merge_newest.f k2 (rd_L4 t156 x26_2) 1000000).bind fun t163 => (if 0 ≤ t163 then (if t163 < (y160.length : Int) then (merge_Pack.l1 k2 l1 a2 x7_2 (rd_L4 t156 x26_2) (y160.set (t163 : Int).toNat true) t156 (t156.length : Int) x26_2 l1 (l1.length : Int) 0) else (none)) else (none))) = some r := by first | (rw [hy160]; with_reducible exact H) | (have H2_ := (Option.bind_some _ _).symm.trans H; rw [hy160]; with_reducible exact H2_) | (have H2_ := (Option.bind_some _ _).symm.trans H; with_reducible exact H2_) | with_reducible exact H | (rw [hy160]; exact H) | exact H
  have Ny160 := Aside0.mk hy160
  clear hy160
  replace H := Option.bind_eq_some_iff.mp H
  obtain ⟨t163, A210, H⟩ := H
  replace H : (if 0 ≤ t163 then (if t163 < (y160.length : Int) then (merge_Pack.l1 k2 l1 a2 x7_2 (rd_L4 t156 x26_2) (y160.set (t163 : Int).toNat true) t156 (t156.length : Int) x26_2 l1 (l1.length : Int) 0) else (none)) else (none)) = some r := H
  have A21 := Aside0.mk A210
  clear A210
  by_cases c22 : 0 ≤ t163
  rotate_left
  · rw [if_neg c22] at H
    exact absurd H (by simp)
  rw [if_pos c22] at H
  have c22b0 : decide (0 ≤ t163) = true := decide_eq_true c22
  clear c22
  by_cases c23 : t163 < (y160.length : Int)
  rotate_left
  · rw [if_neg c23] at H
    exact absurd H (by simp)
  rw [if_pos c23] at H
  have c23b0 : decide (t163 < (y160.length : Int)) = true := decide_eq_true c23
  clear c23
  obtain ⟨y164, hy164⟩ : ∃ y_ : List Bool, y_ = (y160.set (t163 : Int).toNat true) := ⟨_, rfl⟩
  replace H : (merge_Pack.l1 k2 l1 a2 x7_2 (rd_L4 t156 x26_2) y164 t156 (t156.length : Int) x26_2 l1 (l1.length : Int) 0) = some r := by first | (rw [hy164]; with_reducible exact H) | (have H2_ := (Option.bind_some _ _).symm.trans H; rw [hy164]; with_reducible exact H2_) | (have H2_ := (Option.bind_some _ _).symm.trans H; with_reducible exact H2_) | with_reducible exact H | (rw [hy164]; exact H) | exact H
  have Ny164 := Aside0.mk hy164
  clear hy164
  have H' := Aside0.mk H
  clear H
  have p159 : 0 ≤ (x26_2 : Int) := of_decide_eq_true (by first | (with_reducible assumption) | assumption)
  have q159 : x26_2 < (t156.length : Int) := of_decide_eq_true (by first | (with_reducible assumption) | assumption)
  obtain ⟨ad159, A159_0, c159_0, e159, hx159_0, hl159_0, hi159_0, hi159_0w⟩ := at_GLw (Kd.S_reads' HO_24.out).2.2 x26_2 p159 q159 (by repeat (first | (with_reducible first | exact HB.out | apply below_alloc | apply pw_below_drewN | apply below_drew1) | exact HB.out))
  cases e159
  have HR159_0 := Aside0.mk hi159_0
  have HR159_0w := Aside0.mk hi159_0w
  have HC159_0 := Aside0.mk hl159_0
  clear hi159_0 hl159_0 hi159_0w
  replace p159 := eq_true p159
  replace q159 := eq_true q159
  go_wp2_with (first | ((with_reducible refine gate_dst (N := 33) rfl ?_); (try (refine gate_guard (by rfl) ?_; dsimp only)); refine Kd.R_make Kd.bool _ 4 rfl (N := 33) rfl 43 _ _ rfl ji18 (by first | rfl | (simp only [hji18]; rfl)) (by first | rfl | (simp only [hji18]; rfl)) Try.underlying43 (.bool false) 1 info4 rfl (by decide) (by omega) false (ok := fun _ => True) (okp := fun _ => True) rfl (fun _ hk => hk) trivial (of_decide_eq_true (by first | (with_reducible assumption) | assumption)) (Nat.le_trans (Nat.mul_le_mul_right _ (of_decide_eq_true (by first | (with_reducible assumption) | assumption) : ji18.toNat ≤ 281474976710656)) (by omega)) (Below.refl _ _) (Nat.le_refl _) ?_; intro v161 w25 ho26 hb hg_ hnew_; clear hg_ hnew_; (first | rw [← Ny160.out] at ho26 | (simp only [Int.reduceToNat] at ho26; rw [← Ny160.out] at ho26)); have n0_ := Aside0.mk (Kd.R_below (by (with_reducible repeat (first | apply Kd.R_alloc | apply Kd.R_drewN | apply Kd.R_drew)); exact HO_7.out) hb); have n1_ := Aside0.mk (Kd.S_below (by (with_reducible repeat (first | apply Kd.S_alloc | apply Kd.S_drewN | apply Kd.S_drew)); exact HO_24.out) hb); have n3_ := Aside0.mk (Kd.R_lower ho26 (below_size (by repeat (first | (with_reducible first | exact HB.out | apply below_alloc | apply pw_below_drewN | apply below_drew1) | exact HB.out)))); have n4_ := Aside0.mk (Kd.C_below (by repeat (first | (with_reducible exact HR159_0.out) | (with_reducible refine Kd.C_alloc ?_ _) | (with_reducible refine Kd.C_drewN ?_ _) | (with_reducible refine Kd.C_drew ?_) | exact HR159_0.out)) hb); have n5_ := Aside0.mk (below_step (by repeat (first | (with_reducible first | exact HB.out | apply below_alloc | apply pw_below_drewN | apply below_drew1) | exact HB.out)) hb); clear HO_7; clear HO_24; clear HR159_0; clear HB; have HO_7 := n0_; have HO_24 := n1_; have HO162 := n3_; have HR159_0 := n4_; have HB := n5_; clear n0_ n1_ n3_ n4_ n5_; clear hb ho26) | ((with_reducible refine gate_callee (f := 27) rfl ?_); refine goesL_ (some 36) rfl rfl Try.func27 (by kernel_rfl) rfl #[.slice A159_0 (rd_L4 t156 x26_2).length c159_0, .int .i64 1000000] rfl (by (try simp only [List.map_toArray, List.map_cons, List.map_nil]); first | done | rfl | (simp only [List.length_drop, List.length_take]; rfl)) ?_; (with_reducible refine (merge_newest.calls k2 _ _ (rd_L4 t156 x26_2) 1000000 t163 _ ?side1 ?side2 A21.out).mono ?_); (case side1 => repeat (first | exact (by repeat (first | (with_reducible exact HR159_0.out) | (with_reducible refine Kd.C_alloc ?_ _) | (with_reducible refine Kd.C_drewN ?_ _) | (with_reducible refine Kd.C_drew ?_) | exact HR159_0.out)) | (with_reducible refine Kd.C_alloc ?_ _) | (with_reducible refine Kd.C_drewN ?_ _) | (with_reducible refine Kd.C_drew ?_))); (case side2 => exact HC159_0.out); rintro e w27 ⟨rfl, hb⟩; refine ⟨_, rfl, ?_⟩; have n0_ := Aside0.mk (Kd.R_below (by (with_reducible repeat (first | apply Kd.R_alloc | apply Kd.R_drewN | apply Kd.R_drew)); exact HO_7.out) hb); have n1_ := Aside0.mk (Kd.S_below (by (with_reducible repeat (first | apply Kd.S_alloc | apply Kd.S_drewN | apply Kd.S_drew)); exact HO_24.out) hb); have n3_ := Aside0.mk (Kd.R_below (by (with_reducible repeat (first | apply Kd.R_alloc | apply Kd.R_drewN | apply Kd.R_drew)); exact HO162.out) hb); have n4_ := Aside0.mk (Kd.C_below (by repeat (first | (with_reducible exact HR159_0.out) | (with_reducible refine Kd.C_alloc ?_ _) | (with_reducible refine Kd.C_drewN ?_ _) | (with_reducible refine Kd.C_drew ?_) | exact HR159_0.out)) hb); have n5_ := Aside0.mk (below_step (by repeat (first | (with_reducible first | exact HB.out | apply below_alloc | apply pw_below_drewN | apply below_drew1) | exact HB.out)) hb); clear HO_7; clear HO_24; clear HO162; clear HR159_0; clear HB; have HO_7 := n0_; have HO_24 := n1_; have HO162 := n3_; have HR159_0 := n4_; have HB := n5_; clear n0_ n1_ n3_ n4_ n5_; (try clear hb); (try clear hb2); (try clear hk); (try clear hi); have p24 : 0 ≤ (t163 : Int) := of_decide_eq_true (by first | (with_reducible assumption) | assumption); have q24 : (t163 : Int) < ((y160.length : Int) : Int) := of_decide_eq_true (by first | (with_reducible assumption) | assumption); obtain ⟨go24, co24, eo24, gb24, gl24, cl24, HG24⟩ := Kd.R_form HO162.out (by omega); (first | cases eo24 | (injection eo24 with ea_ en_ ec_; (first | subst ea_ | (injection ea_ with ea_; subst ea_)); subst ec_; clear en_)); have GB24 := Aside0.mk gb24; have GG24 := Aside0.mk HG24; clear gb24 gl24 HG24; obtain ⟨hx24_0, hf24_0⟩ := Kd.R_celln false HO162.out (t163 : Int) p24 q24; replace p24 := eq_true p24; replace q24 := eq_true q24; obtain ⟨hy28_, hz28_⟩ := Kd.R_celln false HO162.out (t163 : Int) (of_decide_eq_true (by first | (with_reducible assumption) | assumption)) (of_decide_eq_true (by first | (with_reducible assumption) | assumption)); have HP28 := Kd.R_putg HO162.out (t163 : Int) true) | ((with_reducible refine gate_store (t := 4) (p := 37) rfl ?_); refine store_event (t := 4) (p := 37) (v := ?vo_w29) (w1 := (w27.setCell ⟨go24, (t163 : Int).toNat, none⟩ (.bool true))) ?hg ?ho ?hn ?hr ?_; (case ho => rfl); (case hg => rfl); (case hn => rfl); (case hr => first | (go_simp; done) | (go_simp; rfl)); intro w29 hw; have hg : w27.grownBy w29 (some go24) := (by rw [hw]; exact HP28.2); have hp_ : Kd.R Kd.bool 4 w29 w.heap.size (fun _ => True) (.slice (some ⟨go24, 0, none⟩) y160.length co24) y164 := (by rw [hw, Ny164.out]; exact HP28.1); clear HP28; have n0_ := Aside0.mk (Kd.R_over' (v := (.slice (some ⟨go24, 0, none⟩) y160.length co24)) (by (with_reducible repeat (first | apply Kd.R_alloc | apply Kd.R_drewN | apply Kd.R_drew)); exact HO_7.out) (Kd.R_typed HO162.out) (by decide) hg); have n1_ := Aside0.mk (Kd.S_over' (v := (.slice (some ⟨go24, 0, none⟩) y160.length co24)) (by (with_reducible repeat (first | apply Kd.S_alloc | apply Kd.S_drewN | apply Kd.S_drew)); exact HO_24.out) (Kd.R_typed HO162.out) (show ∀ q, q ∈ 23 :: ([] : List Nat) → q ≠ 4 by decide) hg); have n3_ := Aside0.mk (hp_); have n4_ := Aside0.mk ((by rw [hw]; exact below_set (HB.out) GB24.out : Below w.heap.size w w29)); clear HO_7; clear HO_24; clear HO162; clear HB; have HO_7 := n0_; have HO_24 := n1_; have HO162 := n3_; have HB := n4_; clear n0_ n1_ n3_ n4_; clear hg hw hp_))
  go_loopg [40] k2 (fun kq v40 w' => ∃ (x10_3 : List Bool) (x40_3 : Int), v40 = .int .i64 x40_3 ∧ Aside0 (merge_Pack.l1 kq l1 a2 x7_2 (rd_L4 t156 x26_2) x10_3 t156 (t156.length : Int) x26_2 l1 (l1.length : Int) x40_3 = some r) ∧ Aside0 (kq ≤ k2) ∧ Aside0 (Kd.R k39 39 w' w.heap.size (fun _ => True) u7 x7_2) ∧ Aside0 (Kd.R Kd.bool 4 w' w.heap.size (fun _ => True) (.slice (some ⟨go24, 0, none⟩) y160.length co24) x10_3) ∧ Aside0 (Kd.S (kGL w) 23 w' w.heap.size (fun k_ => some k_ ≠ (u7 : Value).ownBlock) (.slice (some ad159) t156.length co14) t156) ∧ Aside0 (Below w.heap.size w w'))
  case atStart => exact ⟨(y164), (0), (by first | rfl | (simp; done) | (simp [*]; done)), H', ⟨Nat.le_refl _⟩, ⟨by (with_reducible repeat (first | apply Kd.R_alloc | apply Kd.R_drewN | apply Kd.R_drew)); exact HO_7.out⟩, ⟨by (with_reducible repeat (first | apply Kd.R_alloc | apply Kd.R_drewN | apply Kd.R_drew)); exact HO162.out⟩, ⟨by (with_reducible repeat (first | apply Kd.S_alloc | apply Kd.S_drewN | apply Kd.S_drew)); exact HO_24.out⟩, ⟨by repeat (first | (with_reducible first | exact HB.out | apply below_alloc | apply pw_below_drewN | apply below_drew1) | exact HB.out)⟩⟩
  clear H'
  try clear c1
  try clear p1
  try clear q1
  try clear hx1
  try clear c2
  try clear p2
  try clear q2
  try clear hx2
  try clear c6
  try clear p6
  try clear c11
  try clear c15
  try clear c15b0
  try clear p15
  try clear q15
  try clear hx15
  try clear c16
  try clear c16b0
  try clear c17
  try clear c17b0
  try clear c19
  try clear c19b0
  try clear c19b1
  try clear c20
  try clear c20b0
  try clear c20b1
  try clear c22
  try clear c22b0
  try clear c23
  try clear c23b0
  try clear p24
  try clear q24
  try clear hx24
  try clear hf24
  try clear c26
  try clear c27
  try clear hx159_0
  try clear hx24_0
  try clear p159
  try clear p2
  try clear p24
  try clear q159
  try clear q24
  obtain ⟨x10_3, x40_3, rfl, HA, HK3, HO_7, HO_10, HO_24, HB⟩ := hrel
  have hl10_3 := (Kd.R_reads' HO_10.out).1
  rw [hl10_3] at HO_10
  (try simp only [hl10_3])
  (try simp only [hl10_3] at HO_7)
  (try simp only [hl10_3] at HO_24)
  cases gk with
  | zero => exact absurd HA.out (by simp [merge_Pack.l1])
  | succ k3 => ?_
  have H := HA.out
  clear HA
  simp only [merge_Pack.l1] at H
  by_cases c30 : x40_3 < (l1.length : Int)
  · rw [if_pos c30] at H
    have c30b0 : decide (x40_3 < (l1.length : Int)) = true := decide_eq_true c30
    clear c30
    by_cases c31 : 0 ≤ x40_3
    rotate_left
    · rw [if_neg c31] at H
      exact absurd H (by simp)
    rw [if_pos c31] at H
    have c31b0 : decide (0 ≤ x40_3) = true := decide_eq_true c31
    clear c31
    by_cases c32 : x40_3 < (l1.length : Int)
    rotate_left
    · rw [if_neg c32] at H
      exact absurd H (by simp)
    rw [if_pos c32] at H
    have c32b0 : decide (x40_3 < (l1.length : Int)) = true := decide_eq_true c32
    clear c32
    replace H := Option.bind_eq_some_iff.mp H
    obtain ⟨t166, A330, H⟩ := H
    replace H : (if 0 ≤ t166 then (if t166 < (x10_3.length : Int) then (merge_Pack.l1 k3 l1 a2 x7_2 (rd_L4 t156 x26_2) (x10_3.set (t166 : Int).toNat true) t156 (t156.length : Int) x26_2 l1 (l1.length : Int) (wrap64 (x40_3 + 1))) else (none)) else (none)) = some r := H
    have A33 := Aside0.mk A330
    clear A330
    by_cases c34 : 0 ≤ t166
    rotate_left
    · rw [if_neg c34] at H
      exact absurd H (by simp)
    rw [if_pos c34] at H
    have c34b0 : decide (0 ≤ t166) = true := decide_eq_true c34
    clear c34
    by_cases c35 : t166 < (x10_3.length : Int)
    rotate_left
    · rw [if_neg c35] at H
      exact absurd H (by simp)
    rw [if_pos c35] at H
    have c35b0 : decide (t166 < (x10_3.length : Int)) = true := decide_eq_true c35
    clear c35
    obtain ⟨y167, hy167⟩ : ∃ y_ : List Bool, y_ = (x10_3.set (t166 : Int).toNat true) := ⟨_, rfl⟩
    replace H : (merge_Pack.l1 k3 l1 a2 x7_2 (rd_L4 t156 x26_2) y167 t156 (t156.length : Int) x26_2 l1 (l1.length : Int) (wrap64 (x40_3 + 1))) = some r := by first | (rw [hy167]; with_reducible exact H) | (have H2_ := (Option.bind_some _ _).symm.trans H; rw [hy167]; with_reducible exact H2_) | (have H2_ := (Option.bind_some _ _).symm.trans H; with_reducible exact H2_) | with_reducible exact H | (rw [hy167]; exact H) | exact H
    have Ny167 := Aside0.mk hy167
    clear hy167
    have H' := Aside0.mk H
    clear H
    have p165 : 0 ≤ (x40_3 : Int) := of_decide_eq_true (by first | (with_reducible assumption) | assumption)
    have q165 : x40_3 < (l1.length : Int) := of_decide_eq_true (by first | (with_reducible assumption) | assumption)
    obtain ⟨ad165, e165, hx165_0⟩ := Kd.at_int HR1.out x40_3 p165 q165
    cases e165
    replace hx165_0 := (HB.out.cell (World.block_lt_of_cell? w _ hx165_0)).trans hx165_0
    replace p165 := eq_true p165
    replace q165 := eq_true q165
    go_wp2_with (first | ((with_reducible refine gate_callee (f := 27) rfl ?_); refine goesL_ (some 47) rfl rfl Try.func27 (by kernel_rfl) rfl #[.slice A159_0 (rd_L4 t156 x26_2).length c159_0, .int .i64 (rd l1 x40_3)] rfl (by (try simp only [List.map_toArray, List.map_cons, List.map_nil]); first | done | rfl | (simp only [List.length_drop, List.length_take]; rfl)) ?_; (with_reducible refine (merge_newest.calls k3 _ _ (rd_L4 t156 x26_2) (rd l1 x40_3) t166 _ ?side1 ?side2 A33.out).mono ?_); (case side1 => repeat (first | exact (Kd.C_below HR159_0w.out HB.out) | (with_reducible refine Kd.C_alloc ?_ _) | (with_reducible refine Kd.C_drewN ?_ _) | (with_reducible refine Kd.C_drew ?_))); (case side2 => exact HC159_0.out); rintro e w37 ⟨rfl, hb⟩; refine ⟨_, rfl, ?_⟩; have n0_ := Aside0.mk (Kd.R_below (by (with_reducible repeat (first | apply Kd.R_alloc | apply Kd.R_drewN | apply Kd.R_drew)); exact HO_7.out) hb); have n1_ := Aside0.mk (Kd.R_below (by (with_reducible repeat (first | apply Kd.R_alloc | apply Kd.R_drewN | apply Kd.R_drew)); exact HO_10.out) hb); have n2_ := Aside0.mk (Kd.S_below (by (with_reducible repeat (first | apply Kd.S_alloc | apply Kd.S_drewN | apply Kd.S_drew)); exact HO_24.out) hb); have n3_ := Aside0.mk (below_step (by repeat (first | (with_reducible first | exact HB.out | apply below_alloc | apply pw_below_drewN | apply below_drew1) | exact HB.out)) hb); clear HO_7; clear HO_10; clear HO_24; clear HB; have HO_7 := n0_; have HO_10 := n1_; have HO_24 := n2_; have HB := n3_; clear n0_ n1_ n2_ n3_; (try clear hb); (try clear hb2); (try clear hk); (try clear hi); have p36 : 0 ≤ (t166 : Int) := of_decide_eq_true (by first | (with_reducible assumption) | assumption); have q36 : (t166 : Int) < ((x10_3.length : Int) : Int) := of_decide_eq_true (by first | (with_reducible assumption) | assumption); obtain ⟨hx36_0, hf36_0⟩ := Kd.R_celln false HO_10.out (t166 : Int) p36 q36; replace p36 := eq_true p36; replace q36 := eq_true q36; obtain ⟨hy38_, hz38_⟩ := Kd.R_celln false HO_10.out (t166 : Int) (of_decide_eq_true (by first | (with_reducible assumption) | assumption)) (of_decide_eq_true (by first | (with_reducible assumption) | assumption)); have HP38 := Kd.R_putg HO_10.out (t166 : Int) true) | ((with_reducible refine gate_store (t := 4) (p := 48) rfl ?_); refine store_event (t := 4) (p := 48) (v := ?vo_w39) (w1 := (w37.setCell ⟨go24, (t166 : Int).toNat, none⟩ (.bool true))) ?hg ?ho ?hn ?hr ?_; (case ho => rfl); (case hg => rfl); (case hn => rfl); (case hr => first | (go_simp; done) | (go_simp; rfl)); intro w39 hw; have hg : w37.grownBy w39 (some go24) := (by rw [hw]; exact HP38.2); have hp_ : Kd.R Kd.bool 4 w39 w.heap.size (fun _ => True) (.slice (some ⟨go24, 0, none⟩) x10_3.length co24) y167 := (by rw [hw, Ny167.out]; exact HP38.1); clear HP38; have n0_ := Aside0.mk (Kd.R_over' (v := (.slice (some ⟨go24, 0, none⟩) x10_3.length co24)) (by (with_reducible repeat (first | apply Kd.R_alloc | apply Kd.R_drewN | apply Kd.R_drew)); exact HO_7.out) (Kd.R_typed HO_10.out) (by decide) hg); have n1_ := Aside0.mk (hp_); have n2_ := Aside0.mk (Kd.S_over' (v := (.slice (some ⟨go24, 0, none⟩) x10_3.length co24)) (by (with_reducible repeat (first | apply Kd.S_alloc | apply Kd.S_drewN | apply Kd.S_drew)); exact HO_24.out) (Kd.R_typed HO_10.out) (show ∀ q, q ∈ 23 :: ([] : List Nat) → q ≠ 4 by decide) hg); have n3_ := Aside0.mk ((by rw [hw]; exact below_set (HB.out) GB24.out : Below w.heap.size w w39)); clear HO_7; clear HO_10; clear HO_24; clear HB; have HO_7 := n0_; have HO_10 := n1_; have HO_24 := n2_; have HB := n3_; clear n0_ n1_ n2_ n3_; clear hg hw hp_))
    (try simp only [← hl10_3])
    go_roundg k3
    case measure => have := HJ3.out; have := HK2.out; have := HK3.out; omega
    case rel => exact ⟨(y167), (wrap64 (x40_3 + 1)), (by first | rfl | (simp; done) | (simp [*]; done)), H', ⟨by have := HJ3.out; have := HK2.out; have := HK3.out; omega⟩, ⟨by (try simp only [hl10_3]); (with_reducible repeat (first | apply Kd.R_alloc | apply Kd.R_drewN | apply Kd.R_drew)); exact HO_7.out⟩, ⟨by (try simp only [hl10_3]); (with_reducible repeat (first | apply Kd.R_alloc | apply Kd.R_drewN | apply Kd.R_drew)); exact HO_10.out⟩, ⟨by (try simp only [hl10_3]); (with_reducible repeat (first | apply Kd.S_alloc | apply Kd.S_drewN | apply Kd.S_drew)); exact HO_24.out⟩, ⟨by repeat (first | (with_reducible first | exact HB.out | apply below_alloc | apply pw_below_drewN | apply below_drew1) | exact HB.out)⟩⟩
  rw [if_neg c30] at H
  have c30b0 : decide (x40_3 < (l1.length : Int)) = false := decide_eq_false c30
  clear c30
  have H' := Aside0.mk H
  clear H
  obtain ⟨Ao40, co40, eo40⟩ := Kd.R_slice HO_7.out
  subst eo40
  go_wp2
  go_loopg [7, 54] k3 (fun kq v7 v54 w' => ∃ (x7_4 : List (S39)) (x54_4 : Int), v54 = .int .i64 x54_4 ∧ Aside0 (merge_Pack.l2 kq l1 a2 x7_4 x10_3 (x7_2.length : Int) t156 (t156.length : Int) x26_2 (rd_L4 t156 x26_2) ((rd_L4 t156 x26_2).length : Int) x54_4 = some r) ∧ Aside0 (kq ≤ k3) ∧ Aside0 (Kd.R k39 39 w' w.heap.size (fun _ => True) v7 x7_4) ∧ Aside0 (Kd.R Kd.bool 4 w' w.heap.size (fun _ => True) (.slice (some ⟨go24, 0, none⟩) x10_3.length co24) x10_3) ∧ Aside0 (Kd.S (kGL w) 23 w' w.heap.size (fun k_ => some k_ ≠ (v7 : Value).ownBlock) (.slice (some ad159) t156.length co14) t156) ∧ Aside0 (Below w.heap.size w w'))
  case atStart => exact ⟨(x7_2), (0), (by first | rfl | (simp; done) | (simp [*]; done)), H', ⟨Nat.le_refl _⟩, ⟨by (try simp only [hl10_3]); (with_reducible repeat (first | apply Kd.R_alloc | apply Kd.R_drewN | apply Kd.R_drew)); exact HO_7.out⟩, ⟨by (try simp only [hl10_3]); (with_reducible repeat (first | apply Kd.R_alloc | apply Kd.R_drewN | apply Kd.R_drew)); exact HO_10.out⟩, ⟨by (try simp only [hl10_3]); (with_reducible repeat (first | apply Kd.S_alloc | apply Kd.S_drewN | apply Kd.S_drew)); exact HO_24.out⟩, ⟨by repeat (first | (with_reducible first | exact HB.out | apply below_alloc | apply pw_below_drewN | apply below_drew1) | exact HB.out)⟩⟩
  clear H'
  try clear c1
  try clear p1
  try clear q1
  try clear hx1
  try clear c2
  try clear p2
  try clear q2
  try clear hx2
  try clear c3
  try clear p3
  try clear q3
  try clear hx3
  try clear hf3
  try clear c6
  try clear p6
  try clear c11
  try clear c15
  try clear c15b0
  try clear p15
  try clear q15
  try clear hx15
  try clear c16
  try clear c16b0
  try clear p16
  try clear q16
  try clear hx16
  try clear c17
  try clear c17b0
  try clear c19
  try clear c19b0
  try clear c19b1
  try clear c20
  try clear c20b0
  try clear c20b1
  try clear c22
  try clear c22b0
  try clear c23
  try clear c23b0
  try clear p24
  try clear q24
  try clear hx24
  try clear hf24
  try clear c26
  try clear c27
  try clear c30
  try clear c30b0
  try clear c31
  try clear c31b0
  try clear c32
  try clear c32b0
  try clear c34
  try clear c34b0
  try clear c35
  try clear c35b0
  try clear p36
  try clear q36
  try clear hx36
  try clear hf36
  try clear hx159_0
  try clear hx165_0
  try clear hx24_0
  try clear hx36_0
  try clear p1
  try clear p15
  try clear p159
  try clear p165
  try clear p2
  try clear p24
  try clear p36
  try clear p6
  try clear q1
  try clear q15
  try clear q159
  try clear q165
  try clear q2
  try clear q24
  try clear q36
  obtain ⟨x7_4, x54_4, rfl, HA, HK4, HO_7, HO_10, HO_24, HB⟩ := hrel
  cases gk with
  | zero => exact absurd HA.out (by simp [merge_Pack.l2])
  | succ k4 => ?_
  have H := HA.out
  clear HA
  simp only [merge_Pack.l2] at H
  by_cases c41 : x54_4 < ((rd_L4 t156 x26_2).length : Int)
  rotate_left
  · rw [if_neg c41] at H
    have c41b0 : decide (x54_4 < ((rd_L4 t156 x26_2).length : Int)) = false := decide_eq_false c41
    clear c41
    have H' := Aside0.mk H
    clear H
    go_wp2
    go_loopg [7] k4 (fun kq v7 w' => ∃ (x7_5 : List (S39)), Aside0 (merge_Pack.l3 kq l1 a2 x7_5 (x7_2.length : Int) t156 (t156.length : Int) x26_2 = some r) ∧ Aside0 (kq ≤ k4) ∧ Aside0 (Kd.R k39 39 w' w.heap.size (fun _ => True) v7 x7_5) ∧ Aside0 (Kd.S (kGL w) 23 w' w.heap.size (fun k_ => some k_ ≠ (v7 : Value).ownBlock) (.slice (some ad159) t156.length co14) t156) ∧ Aside0 (Below w.heap.size w w'))
    case atStart => exact ⟨(x7_4), H', ⟨Nat.le_refl _⟩, ⟨by (try simp only [hl10_3]); (with_reducible repeat (first | apply Kd.R_alloc | apply Kd.R_drewN | apply Kd.R_drew)); exact HO_7.out⟩, ⟨by (try simp only [hl10_3]); (with_reducible repeat (first | apply Kd.S_alloc | apply Kd.S_drewN | apply Kd.S_drew)); exact HO_24.out⟩, ⟨by repeat (first | (with_reducible first | exact HB.out | apply below_alloc | apply pw_below_drewN | apply below_drew1) | exact HB.out)⟩⟩
    clear H'
    try clear c1
    try clear p1
    try clear q1
    try clear hx1
    try clear c2
    try clear p2
    try clear q2
    try clear hx2
    try clear c3
    try clear p3
    try clear q3
    try clear hx3
    try clear hf3
    try clear c4
    try clear q4
    try clear c6
    try clear p6
    try clear c11
    try clear c15
    try clear c15b0
    try clear p15
    try clear q15
    try clear hx15
    try clear c16
    try clear c16b0
    try clear p16
    try clear q16
    try clear hx16
    try clear c17
    try clear c17b0
    try clear p17
    try clear q17
    try clear hx17
    try clear c19
    try clear c19b0
    try clear c19b1
    try clear c20
    try clear c20b0
    try clear c20b1
    try clear c22
    try clear c22b0
    try clear c23
    try clear c23b0
    try clear p24
    try clear q24
    try clear hx24
    try clear hf24
    try clear c26
    try clear c27
    try clear c30
    try clear c30b0
    try clear c31
    try clear c31b0
    try clear c32
    try clear c32b0
    try clear c34
    try clear c34b0
    try clear c35
    try clear c35b0
    try clear p36
    try clear q36
    try clear hx36
    try clear hf36
    try clear c41
    try clear c41b0
    try clear c42
    try clear c42b0
    try clear c43
    try clear c43b0
    try clear c44
    try clear c44b0
    try clear q45
    try clear c46
    try clear c47
    try clear hcz49_0
    try clear hcz49_1
    try clear hcz49_2
    try clear hcz49_3
    try clear hcz52_0
    try clear hcz52_1
    try clear hcz52_2
    try clear hcz52_3
    try clear hfz49_0
    try clear hfz49_1
    try clear hfz49_2
    try clear hfz49_3
    try clear hfz52_0
    try clear hfz52_1
    try clear hfz52_2
    try clear hfz52_3
    try clear hx159_0
    try clear hx165_0
    try clear hx168_0
    try clear hx168_1
    try clear hx168_2
    try clear hx168_3
    try clear hx170_0
    try clear hx24_0
    try clear hx36_0
    try clear p1
    try clear p15
    try clear p159
    try clear p16
    try clear p165
    try clear p168
    try clear p170
    try clear p2
    try clear p24
    try clear p3
    try clear p36
    try clear p6
    try clear q1
    try clear q15
    try clear q159
    try clear q16
    try clear q165
    try clear q168
    try clear q170
    try clear q2
    try clear q24
    try clear q3
    try clear q36
    obtain ⟨x7_5, HA, HK5, HO_7, HO_24, HB⟩ := hrel
    cases gk with
    | zero => exact absurd HA.out (by simp [merge_Pack.l3])
    | succ k5 => ?_
    have H := HA.out
    clear HA
    simp only [merge_Pack.l3] at H
    by_cases c53 : a2 = true
    rotate_left
    · replace c53 := Bool.eq_false_iff.mpr c53
      subst c53
      have H1 : (merge_Pack.l0 k5 l1 false x7_5 t156 (t156.length : Int) (wrap64 (x26_2 + 1))) = some r := by rw [if_neg (show ¬ (false = true) by decide)] at H; exact H
      clear H
      have H := H1
      clear H1
      have H' := Aside0.mk H
      clear H
      go_wp2
      (try simp only [← hl10_3])
      go_roundg k5
      case measure => have := HJ3.out; have := HK2.out; have := HK3.out; have := HK4.out; have := HK5.out; omega
      case rel => exact ⟨(x7_5), (wrap64 (x26_2 + 1)), (by first | rfl | (simp; done) | (simp [*]; done)), H', ⟨by have := HJ3.out; have := HK2.out; have := HK3.out; have := HK4.out; have := HK5.out; omega⟩, ⟨by (try simp only [hl10_3]); (with_reducible repeat (first | apply Kd.R_alloc | apply Kd.R_drewN | apply Kd.R_drew)); exact HO_7.out⟩, ⟨by (try simp only [hl10_3]); (with_reducible repeat (first | apply Kd.S_alloc | apply Kd.S_drewN | apply Kd.S_drew)); exact HO_24.out⟩, ⟨by repeat (first | (with_reducible first | exact HB.out | apply below_alloc | apply pw_below_drewN | apply below_drew1) | exact HB.out)⟩⟩
    subst c53
    have H1 : (if (x7_5.length : Int) > (x7_2.length : Int) then (if 0 ≤ (wrap64 ((x7_5.length : Int) - 1)) then (if (wrap64 ((x7_5.length : Int) - 1)) < (x7_5.length : Int) then (if (rd_T39 x7_5 (wrap64 ((x7_5.length : Int) - 1))).f2 = true then (if (wrap64 ((x7_5.length : Int) - 1)) ≤ (x7_5.length : Int) then (merge_Pack.l3 k5 l1 true (x7_5.take ((wrap64 ((x7_5.length : Int) - 1)) : Int).toNat) (x7_2.length : Int) t156 (t156.length : Int) x26_2) else (none)) else (merge_Pack.l0 k5 l1 true x7_5 t156 (t156.length : Int) (wrap64 (x26_2 + 1)))) else (none)) else (none)) else (merge_Pack.l0 k5 l1 true x7_5 t156 (t156.length : Int) (wrap64 (x26_2 + 1)))) = some r := by rw [if_pos rfl] at H; exact H
    clear H
    have H := H1
    clear H1
    by_cases c54 : (x7_5.length : Int) > (x7_2.length : Int)
    rotate_left
    · rw [if_neg c54] at H
      have c54b0 : decide ((x7_2.length : Int) < (x7_5.length : Int)) = false := decide_eq_false c54
      have c54b1 : decide (x7_2.length < x7_5.length) = false := decide_eq_false (fun h => c54 (Int.ofNat_lt.mpr h))
      clear c54
      have H' := Aside0.mk H
      clear H
      obtain ⟨Ao64, co64, eo64⟩ := Kd.R_slice HO_7.out
      subst eo64
      go_wp2
      (try simp only [← hl10_3])
      go_roundg k5
      case measure => have := HJ3.out; have := HK2.out; have := HK3.out; have := HK4.out; have := HK5.out; omega
      case rel => exact ⟨(x7_5), (wrap64 (x26_2 + 1)), (by first | rfl | (simp; done) | (simp [*]; done)), H', ⟨by have := HJ3.out; have := HK2.out; have := HK3.out; have := HK4.out; have := HK5.out; omega⟩, ⟨by (try simp only [hl10_3]); (with_reducible repeat (first | apply Kd.R_alloc | apply Kd.R_drewN | apply Kd.R_drew)); exact HO_7.out⟩, ⟨by (try simp only [hl10_3]); (with_reducible repeat (first | apply Kd.S_alloc | apply Kd.S_drewN | apply Kd.S_drew)); exact HO_24.out⟩, ⟨by repeat (first | (with_reducible first | exact HB.out | apply below_alloc | apply pw_below_drewN | apply below_drew1) | exact HB.out)⟩⟩
    rw [if_pos c54] at H
    have c54b0 : decide ((x7_2.length : Int) < (x7_5.length : Int)) = true := decide_eq_true c54
    have c54b1 : decide (x7_2.length < x7_5.length) = true := decide_eq_true (Int.ofNat_lt.mp c54)
    clear c54
    obtain ⟨ji55, hji55⟩ : ∃ j_ : Int, (wrap64 ((x7_5.length : Int) - 1)) = j_ := ⟨_, rfl⟩
    replace H : (if 0 ≤ (ji55) then (if (ji55) < (x7_5.length : Int) then (if (rd_T39 x7_5 (ji55)).f2 = true then (if (ji55) ≤ (x7_5.length : Int) then (merge_Pack.l3 k5 l1 true (x7_5.take ((ji55) : Int).toNat) (x7_2.length : Int) t156 (t156.length : Int) x26_2) else (none)) else (merge_Pack.l0 k5 l1 true x7_5 t156 (t156.length : Int) (wrap64 (x26_2 + 1)))) else (none)) else (none)) = some r := by first | (rw [hji55] at H; exact H) | (simp only [hji55] at H ⊢; exact H)
    have hji55w : (IntKind.i64.wrap ((x7_5.length : Int) - 1)) = ji55 := (i64_w _).trans hji55
    by_cases c56 : 0 ≤ (ji55)
    rotate_left
    · rw [if_neg c56] at H
      exact absurd H (by simp)
    rw [if_pos c56] at H
    have c56b0 : decide (0 ≤ (ji55)) = true := decide_eq_true c56
    clear c56
    by_cases c57 : (ji55) < (x7_5.length : Int)
    rotate_left
    · rw [if_neg c57] at H
      exact absurd H (by simp)
    rw [if_pos c57] at H
    have c57b0 : decide ((ji55) < (x7_5.length : Int)) = true := decide_eq_true c57
    clear c57
    obtain ⟨bq58, hbq58⟩ : ∃ b_ : Bool, b_ = ((rd_T39 x7_5 (ji55)).f2) := ⟨_, rfl⟩
    replace H : (if bq58 = true then (if (ji55) ≤ (x7_5.length : Int) then (merge_Pack.l3 k5 l1 true (x7_5.take ((ji55) : Int).toNat) (x7_2.length : Int) t156 (t156.length : Int) x26_2) else (none)) else (merge_Pack.l0 k5 l1 true x7_5 t156 (t156.length : Int) (wrap64 (x26_2 + 1)))) = some r := by rw [← hbq58] at H; exact H
    have Nbq58 := Aside0.mk hbq58
    clear hbq58
    by_cases c59 : bq58 = true
    rotate_left
    · replace c59 := Bool.eq_false_iff.mpr c59
      subst c59
      have H1 : (merge_Pack.l0 k5 l1 true x7_5 t156 (t156.length : Int) (wrap64 (x26_2 + 1))) = some r := by rw [if_neg (show ¬ (false = true) by decide)] at H; exact H
      clear H
      have H := H1
      clear H1
      have H' := Aside0.mk H
      clear H
      obtain ⟨Ao63, co63, eo63⟩ := Kd.R_slice HO_7.out
      subst eo63
      have p174 : 0 ≤ ((ji55) : Int) := of_decide_eq_true (by first | (with_reducible assumption) | assumption)
      have q174 : (ji55) < (x7_5.length : Int) := of_decide_eq_true (by first | (with_reducible assumption) | assumption)
      obtain ⟨ad174, e174, hx174_0, hx174_1, hx174_2, hx174_3⟩ := at_T39 (Kd.R_reads' HO_7.out).2.2 (ji55) p174 q174
      (try rw [← Nbq58.out] at hx174_2)
      cases e174
      replace p174 := eq_true p174
      replace q174 := eq_true q174
      go_wp2
      (try simp only [← hl10_3])
      go_roundg k5
      case measure => have := HJ3.out; have := HK2.out; have := HK3.out; have := HK4.out; have := HK5.out; omega
      case rel => exact ⟨(x7_5), (wrap64 (x26_2 + 1)), (by first | rfl | (simp; done) | (simp [*]; done)), H', ⟨by have := HJ3.out; have := HK2.out; have := HK3.out; have := HK4.out; have := HK5.out; omega⟩, ⟨by (try simp only [hl10_3]); (with_reducible repeat (first | apply Kd.R_alloc | apply Kd.R_drewN | apply Kd.R_drew)); exact HO_7.out⟩, ⟨by (try simp only [hl10_3]); (with_reducible repeat (first | apply Kd.S_alloc | apply Kd.S_drewN | apply Kd.S_drew)); exact HO_24.out⟩, ⟨by repeat (first | (with_reducible first | exact HB.out | apply below_alloc | apply pw_below_drewN | apply below_drew1) | exact HB.out)⟩⟩
    subst c59
    have H1 : (if (ji55) ≤ (x7_5.length : Int) then (merge_Pack.l3 k5 l1 true (x7_5.take ((ji55) : Int).toNat) (x7_2.length : Int) t156 (t156.length : Int) x26_2) else (none)) = some r := by rw [if_pos rfl] at H; exact H
    clear H
    have H := H1
    clear H1
    by_cases c60 : (ji55) ≤ (x7_5.length : Int)
    rotate_left
    · rw [if_neg c60] at H
      exact absurd H (by simp)
    rw [if_pos c60] at H
    have c60b0 := eq_true c60
    have c60b1 : decide ((ji55) ≤ (x7_5.length : Int)) = true := decide_eq_true c60
    clear c60
    obtain ⟨y175, hy175⟩ : ∃ y_ : List (S39), y_ = (x7_5.take ((ji55) : Int).toNat) := ⟨_, rfl⟩
    replace H : (merge_Pack.l3 k5 l1 true y175 (x7_2.length : Int) t156 (t156.length : Int) x26_2) = some r := by first | (rw [hy175]; with_reducible exact H) | (have H2_ := (Option.bind_some _ _).symm.trans H; rw [hy175]; with_reducible exact H2_) | (have H2_ := (Option.bind_some _ _).symm.trans H; with_reducible exact H2_) | with_reducible exact H | (rw [hy175]; exact H) | exact H
    have Ny175 := Aside0.mk hy175
    clear hy175
    have H' := Aside0.mk H
    clear H
    obtain ⟨Ao61, co61, eo61⟩ := Kd.R_slice HO_7.out
    subst eo61
    have p174 : 0 ≤ ((ji55) : Int) := of_decide_eq_true (by first | (with_reducible assumption) | assumption)
    have q174 : (ji55) < (x7_5.length : Int) := of_decide_eq_true (by first | (with_reducible assumption) | assumption)
    obtain ⟨ad174, e174, hx174_0, hx174_1, hx174_2, hx174_3⟩ := at_T39 (Kd.R_reads' HO_7.out).2.2 (ji55) p174 q174
    (try rw [← Nbq58.out] at hx174_2)
    cases e174
    replace p174 := eq_true p174
    replace q174 := eq_true q174
    have q62 : ((ji55) : Int) ≤ ((x7_5.length : Int) : Int) := of_decide_eq_true (by first | (with_reducible assumption) | assumption)
    obtain ⟨i062, hi062, _, hsz62, _⟩ := info_parts info39
    have hcut62 := cut_to (P := Try.prog) 23 39 .i64 Try.underlying23 hi062 (some ad174) x7_5.length co61 (ji55) (of_decide_eq_true (by first | (with_reducible assumption) | assumption)) q62 (Kd.R_reads' HO_7.out).2.1
    have hr62 := Kd.R_take (m := ((ji55) : Int).toNat) HO_7.out (by omega)
    have hy62 : y175.length = ((ji55) : Int).toNat := (by rw [Ny175.out, List.length_take]; omega)
    rw [← Ny175.out] at hr62
    rw [← hy62] at hr62 hcut62
    clear hy62 hi062 hsz62 HO_7
    have HO177 := Aside0.mk hr62
    clear hr62
    replace q62 := eq_true q62
    go_wp2
    go_roundg k5
    case measure => have := HJ3.out; have := HK2.out; have := HK3.out; have := HK4.out; have := HK5.out; omega
    case rel => exact ⟨(y175), H', ⟨by have := HJ3.out; have := HK2.out; have := HK3.out; have := HK4.out; have := HK5.out; omega⟩, ⟨by (try simp only [hl10_3]); (with_reducible repeat (first | apply Kd.R_alloc | apply Kd.R_drewN | apply Kd.R_drew)); exact HO177.out⟩, ⟨by (try simp only [hl10_3]); (with_reducible repeat (first | apply Kd.S_alloc | apply Kd.S_drewN | apply Kd.S_drew)); exact HO_24.out⟩, ⟨by repeat (first | (with_reducible first | exact HB.out | apply below_alloc | apply pw_below_drewN | apply below_drew1) | exact HB.out)⟩⟩
  rw [if_pos c41] at H
  have c41b0 : decide (x54_4 < ((rd_L4 t156 x26_2).length : Int)) = true := decide_eq_true c41
  clear c41
  by_cases c42 : 0 ≤ x54_4
  rotate_left
  · rw [if_neg c42] at H
    exact absurd H (by simp)
  rw [if_pos c42] at H
  have c42b0 : decide (0 ≤ x54_4) = true := decide_eq_true c42
  clear c42
  by_cases c43 : x54_4 < ((rd_L4 t156 x26_2).length : Int)
  rotate_left
  · rw [if_neg c43] at H
    exact absurd H (by simp)
  rw [if_pos c43] at H
  have c43b0 : decide (x54_4 < ((rd_L4 t156 x26_2).length : Int)) = true := decide_eq_true c43
  clear c43
  by_cases c44 : x54_4 < (x10_3.length : Int)
  rotate_left
  · rw [if_neg c44] at H
    exact absurd H (by simp)
  rw [if_pos c44] at H
  have c44b0 : decide (x54_4 < (x10_3.length : Int)) = true := decide_eq_true c44
  clear c44
  obtain ⟨bq45, hbq45⟩ : ∃ b_ : Bool, b_ = (rdOf false x10_3 x54_4) := ⟨_, rfl⟩
  replace H : (if bq45 = true then (if x7_4.length < 2932031007402 then (merge_Pack.l2 k4 l1 a2 (x7_4 ++ [(⟨(rd_T39 (rd_L4 t156 x26_2) x54_4).f0, (rd_T39 (rd_L4 t156 x26_2) x54_4).f1, (rd_T39 (rd_L4 t156 x26_2) x54_4).f2, (rd_T39 (rd_L4 t156 x26_2) x54_4).f3⟩ : S39)]) x10_3 (x7_2.length : Int) t156 (t156.length : Int) x26_2 (rd_L4 t156 x26_2) ((rd_L4 t156 x26_2).length : Int) (wrap64 (x54_4 + 1))) else (none)) else (merge_Pack.l2 k4 l1 a2 x7_4 x10_3 (x7_2.length : Int) t156 (t156.length : Int) x26_2 (rd_L4 t156 x26_2) ((rd_L4 t156 x26_2).length : Int) (wrap64 (x54_4 + 1)))) = some r := by rw [← hbq45] at H; exact H
  have Nbq45 := Aside0.mk hbq45
  clear hbq45
  by_cases c46 : bq45 = true
  rotate_left
  · replace c46 := Bool.eq_false_iff.mpr c46
    subst c46
    have H1 : (merge_Pack.l2 k4 l1 a2 x7_4 x10_3 (x7_2.length : Int) t156 (t156.length : Int) x26_2 (rd_L4 t156 x26_2) ((rd_L4 t156 x26_2).length : Int) (wrap64 (x54_4 + 1))) = some r := by rw [if_neg (show ¬ (false = true) by decide)] at H; exact H
    clear H
    have H := H1
    clear H1
    have H' := Aside0.mk H
    clear H
    have p168 : 0 ≤ (x54_4 : Int) := of_decide_eq_true (by first | (with_reducible assumption) | assumption)
    have q168 : x54_4 < ((rd_L4 t156 x26_2).length : Int) := of_decide_eq_true (by first | (with_reducible assumption) | assumption)
    obtain ⟨ad168, e168, hx168_0, hx168_1, hx168_2, hx168_3⟩ := at_T39 HR159_0w.out x54_4 p168 q168
    (try rw [← Nbq45.out] at hx168_2)
    cases e168
    replace hx168_0 := (HB.out.cell (World.block_lt_of_cell? w _ hx168_0)).trans hx168_0
    replace hx168_1 := (HB.out.cell (World.block_lt_of_cell? w _ hx168_1)).trans hx168_1
    replace hx168_2 := (HB.out.cell (World.block_lt_of_cell? w _ hx168_2)).trans hx168_2
    replace hx168_3 := (HB.out.cell (World.block_lt_of_cell? w _ hx168_3)).trans hx168_3
    replace p168 := eq_true p168
    replace q168 := eq_true q168
    go_wp2_with (first | ((with_reducible refine gate_dst (N := 15) rfl ?_); (try (refine gate_guard (by rfl) ?_; dsimp only)); refine box_event ?hg (N := 15) ?hd (cs := #[.string (⟨#[]⟩ : ByteArray), .int .i64 0, .bool false, .string (⟨#[]⟩ : ByteArray)]) (t := 39) ?hr ?_; (case hd => rfl); (case hg => rfl); (case hr => first | (go_simp; done) | (go_simp; rfl)); intro gb169 hg w51 hbox hb; have n0_ := Aside0.mk (Kd.R_below (Kd.R_elderB (by (with_reducible repeat (first | apply Kd.R_alloc | apply Kd.R_drewN | apply Kd.R_drew)); exact HO_7.out) gb169 (Nat.le_of_eq hg.symm)) hb); have n1_ := Aside0.mk (Kd.R_below (by (with_reducible repeat (first | apply Kd.R_alloc | apply Kd.R_drewN | apply Kd.R_drew)); exact HO_10.out) hb); have n2_ := Aside0.mk (Kd.S_below (Kd.S_elderB (by (with_reducible repeat (first | apply Kd.S_alloc | apply Kd.S_drewN | apply Kd.S_drew)); exact HO_24.out) gb169 (Nat.le_of_eq hg.symm)) hb); have n3_ := Aside0.mk (below_step (by repeat (first | (with_reducible first | exact HB.out | apply below_alloc | apply pw_below_drewN | apply below_drew1) | exact HB.out)) hb); have n4_ := Aside0.mk (hbox); have n5_ := Aside0.mk ((by rw [hg]; exact (below_size (by repeat (first | (with_reducible first | exact HB.out | apply below_alloc | apply pw_below_drewN | apply below_drew1) | exact HB.out))) : w.heap.size ≤ gb169)); have n6_ := Aside0.mk ((by rw [hg]; exact (below_size (by repeat (first | (with_reducible first | exact HB.out | apply below_alloc | apply pw_below_drewN | apply below_drew1) | exact HB.out))) : w.heap.size ≤ gb169)); clear HO_7; clear HO_10; clear HO_24; clear HB; have HO_7 := n0_; have HO_10 := n1_; have HO_24 := n2_; have HB := n3_; have BK169 := n4_; have GW169 := n5_; have GE169 := n6_; clear n0_ n1_ n2_ n3_ n4_ n5_ n6_; clear hb hbox hg; have hcz52_0 : w51.cell? ⟨gb169, 0, none⟩ = some (.string (⟨#[]⟩ : ByteArray)) := (blk_cell BK169.out 0).trans rfl; have hcz52_1 : w51.cell? ⟨gb169, 1, none⟩ = some (.int .i64 0) := (blk_cell BK169.out 1).trans rfl; have hcz52_2 : w51.cell? ⟨gb169, 2, none⟩ = some (.bool false) := (blk_cell BK169.out 2).trans rfl; have hcz52_3 : w51.cell? ⟨gb169, 3, none⟩ = some (.string (⟨#[]⟩ : ByteArray)) := (blk_cell BK169.out 3).trans rfl; have hfz52_0 := blk_frozen BK169.out 0; have hfz52_1 := blk_frozen BK169.out 1; have hfz52_2 := blk_frozen BK169.out 2; have hfz52_3 := blk_frozen BK169.out 3; have p170 : 0 ≤ (x54_4 : Int) := of_decide_eq_true (by first | (with_reducible assumption) | assumption); have q170 : x54_4 < (x10_3.length : Int) := of_decide_eq_true (by first | (with_reducible assumption) | assumption); obtain ⟨ad170, e170, hx170_0⟩ := Kd.at_bool (Kd.R_reads' HO_10.out).2.2 x54_4 p170 q170; (try rw [← Nbq45.out] at hx170_0); obtain rfl : (⟨go24, 0, none⟩ : Addr) = ad170 := (by injection e170); (first | simp only [add_plain] at hx170_0 | simp only [add_at] at hx170_0 | simp only [Addr.add, Nat.zero_add] at hx170_0 | skip); have hn170_0 : (⟨go24, 0, none⟩ : Addr).block ≠ gb169 := Kd.own_blk (Kd.R_ne HO_10.out BK169.out (by decide)); have hn170_1 : (⟨go24, 0, none⟩ : Addr).block ≠ gb169 := Kd.own_blk (Kd.R_ne HO_10.out BK169.out (by decide)); have hn170_2 : (⟨go24, 0, none⟩ : Addr).block ≠ gb169 := Kd.own_blk (Kd.R_ne HO_10.out BK169.out (by decide)); have hn170_3 : (⟨go24, 0, none⟩ : Addr).block ≠ gb169 := Kd.own_blk (Kd.R_ne HO_10.out BK169.out (by decide)); replace hx170_0 := (cell_far (p := ⟨gb169, 0, none⟩) (by first | (rw [add_block]; exact hn170_0) | (show (Addr.add _ _).block ≠ _; rw [add_block]; exact hn170_0) | exact hn170_0) (.string ((rd_T39 (rd_L4 t156 x26_2) x54_4).f0))).trans hx170_0; replace hx170_0 := (cell_far (p := ⟨gb169, 1, none⟩) (by first | (rw [add_block]; exact hn170_1) | (show (Addr.add _ _).block ≠ _; rw [add_block]; exact hn170_1) | exact hn170_1) (.int .i64 ((rd_T39 (rd_L4 t156 x26_2) x54_4).f1))).trans hx170_0; replace hx170_0 := (cell_far (p := ⟨gb169, 2, none⟩) (by first | (rw [add_block]; exact hn170_2) | (show (Addr.add _ _).block ≠ _; rw [add_block]; exact hn170_2) | exact hn170_2) (.bool ((rd_T39 (rd_L4 t156 x26_2) x54_4).f2))).trans hx170_0; replace hx170_0 := (cell_far (p := ⟨gb169, 3, none⟩) (by first | (rw [add_block]; exact hn170_3) | (show (Addr.add _ _).block ≠ _; rw [add_block]; exact hn170_3) | exact hn170_3) (.string ((rd_T39 (rd_L4 t156 x26_2) x54_4).f3))).trans hx170_0; clear hn170_0; clear hn170_1; clear hn170_2; clear hn170_3; replace p170 := eq_true p170; replace q170 := eq_true q170))
    go_roundg k4
    case measure => have := HJ3.out; have := HK2.out; have := HK3.out; have := HK4.out; omega
    case rel => exact ⟨(x7_4), (wrap64 (x54_4 + 1)), (by first | rfl | (simp; done) | (simp [*]; done)), H', ⟨by have := HJ3.out; have := HK2.out; have := HK3.out; have := HK4.out; omega⟩, ⟨by (try simp only [hl10_3]); (with_reducible repeat (first | apply Kd.R_alloc | apply Kd.R_drewN | apply Kd.R_drew)); exact Kd.R_mono (Kd.R_far (p := ⟨gb169, 3, none⟩) (Kd.R_far (p := ⟨gb169, 2, none⟩) (Kd.R_far (p := ⟨gb169, 1, none⟩) (Kd.R_far (p := ⟨gb169, 0, none⟩) (Kd.R_mono HO_7.out (fun k_ hk => (⟨hk, hk.2⟩ : _ ∧ k_ ≠ gb169))) (fun _ hk => hk.2) (.string ((rd_T39 (rd_L4 t156 x26_2) x54_4).f0))) (fun _ hk => hk.2) (.int .i64 ((rd_T39 (rd_L4 t156 x26_2) x54_4).f1))) (fun _ hk => hk.2) (.bool ((rd_T39 (rd_L4 t156 x26_2) x54_4).f2))) (fun _ hk => hk.2) (.string ((rd_T39 (rd_L4 t156 x26_2) x54_4).f3))) (fun _ hk => trivial)⟩, ⟨by (try simp only [hl10_3]); (with_reducible repeat (first | apply Kd.R_alloc | apply Kd.R_drewN | apply Kd.R_drew)); exact Kd.R_mono (Kd.R_far (p := ⟨gb169, 3, none⟩) (Kd.R_far (p := ⟨gb169, 2, none⟩) (Kd.R_far (p := ⟨gb169, 1, none⟩) (Kd.R_far (p := ⟨gb169, 0, none⟩) (Kd.R_types HO_10.out BK169.out (by decide)) (fun _ hk => hk.2) (.string ((rd_T39 (rd_L4 t156 x26_2) x54_4).f0))) (fun _ hk => hk.2) (.int .i64 ((rd_T39 (rd_L4 t156 x26_2) x54_4).f1))) (fun _ hk => hk.2) (.bool ((rd_T39 (rd_L4 t156 x26_2) x54_4).f2))) (fun _ hk => hk.2) (.string ((rd_T39 (rd_L4 t156 x26_2) x54_4).f3))) (fun _ hk => trivial)⟩, ⟨by (try simp only [hl10_3]); (with_reducible repeat (first | apply Kd.S_alloc | apply Kd.S_drewN | apply Kd.S_drew)); exact Kd.S_mono (Kd.S_far (p := ⟨gb169, 3, none⟩) (Kd.S_far (p := ⟨gb169, 2, none⟩) (Kd.S_far (p := ⟨gb169, 1, none⟩) (Kd.S_far (p := ⟨gb169, 0, none⟩) (Kd.S_mono HO_24.out (fun k_ hk => (⟨hk, hk.2⟩ : _ ∧ k_ ≠ gb169))) (fun _ hk => hk.2) (.string ((rd_T39 (rd_L4 t156 x26_2) x54_4).f0))) (fun _ hk => hk.2) (.int .i64 ((rd_T39 (rd_L4 t156 x26_2) x54_4).f1))) (fun _ hk => hk.2) (.bool ((rd_T39 (rd_L4 t156 x26_2) x54_4).f2))) (fun _ hk => hk.2) (.string ((rd_T39 (rd_L4 t156 x26_2) x54_4).f3))) (fun _ hk => hk.1.1)⟩, ⟨by repeat (first | (with_reducible first | exact HB.out | apply below_alloc | apply pw_below_drewN | apply below_drew1 | refine below_set ?_ GE169.out) | exact HB.out)⟩⟩
  subst c46
  have H1 : (if x7_4.length < 2932031007402 then (merge_Pack.l2 k4 l1 a2 (x7_4 ++ [(⟨(rd_T39 (rd_L4 t156 x26_2) x54_4).f0, (rd_T39 (rd_L4 t156 x26_2) x54_4).f1, (rd_T39 (rd_L4 t156 x26_2) x54_4).f2, (rd_T39 (rd_L4 t156 x26_2) x54_4).f3⟩ : S39)]) x10_3 (x7_2.length : Int) t156 (t156.length : Int) x26_2 (rd_L4 t156 x26_2) ((rd_L4 t156 x26_2).length : Int) (wrap64 (x54_4 + 1))) else (none)) = some r := by rw [if_pos rfl] at H; exact H
  clear H
  have H := H1
  clear H1
  by_cases c47 : x7_4.length < 2932031007402
  rotate_left
  · rw [if_neg c47] at H
    exact absurd H (by simp)
  rw [if_pos c47] at H
  have LMc47 := Aside0.mk c47
  clear c47
  obtain ⟨y171, hy171⟩ : ∃ y_ : List (S39), y_ = (x7_4 ++ [(⟨(rd_T39 (rd_L4 t156 x26_2) x54_4).f0, (rd_T39 (rd_L4 t156 x26_2) x54_4).f1, (rd_T39 (rd_L4 t156 x26_2) x54_4).f2, (rd_T39 (rd_L4 t156 x26_2) x54_4).f3⟩ : S39)]) := ⟨_, rfl⟩
  replace H : (merge_Pack.l2 k4 l1 a2 y171 x10_3 (x7_2.length : Int) t156 (t156.length : Int) x26_2 (rd_L4 t156 x26_2) ((rd_L4 t156 x26_2).length : Int) (wrap64 (x54_4 + 1))) = some r := by first | (rw [hy171]; with_reducible exact H) | (have H2_ := (Option.bind_some _ _).symm.trans H; rw [hy171]; with_reducible exact H2_) | (have H2_ := (Option.bind_some _ _).symm.trans H; with_reducible exact H2_) | with_reducible exact H | (rw [hy171]; exact H) | exact H
  have Ny171 := Aside0.mk hy171
  clear hy171
  have H' := Aside0.mk H
  clear H
  have p168 : 0 ≤ (x54_4 : Int) := of_decide_eq_true (by first | (with_reducible assumption) | assumption)
  have q168 : x54_4 < ((rd_L4 t156 x26_2).length : Int) := of_decide_eq_true (by first | (with_reducible assumption) | assumption)
  obtain ⟨ad168, e168, hx168_0, hx168_1, hx168_2, hx168_3⟩ := at_T39 HR159_0w.out x54_4 p168 q168
  (try rw [← Nbq45.out] at hx168_2)
  cases e168
  replace hx168_0 := (HB.out.cell (World.block_lt_of_cell? w _ hx168_0)).trans hx168_0
  replace hx168_1 := (HB.out.cell (World.block_lt_of_cell? w _ hx168_1)).trans hx168_1
  replace hx168_2 := (HB.out.cell (World.block_lt_of_cell? w _ hx168_2)).trans hx168_2
  replace hx168_3 := (HB.out.cell (World.block_lt_of_cell? w _ hx168_3)).trans hx168_3
  replace p168 := eq_true p168
  replace q168 := eq_true q168
  go_wp2_with (first | ((with_reducible refine gate_dst (N := 15) rfl ?_); (try (refine gate_guard (by rfl) ?_; dsimp only)); refine box_event ?hg (N := 15) ?hd (cs := #[.string (⟨#[]⟩ : ByteArray), .int .i64 0, .bool false, .string (⟨#[]⟩ : ByteArray)]) (t := 39) ?hr ?_; (case hd => rfl); (case hg => rfl); (case hr => first | (go_simp; done) | (go_simp; rfl)); intro gb169 hg w48 hbox hb; have n0_ := Aside0.mk (Kd.R_below (Kd.R_elderB (by (with_reducible repeat (first | apply Kd.R_alloc | apply Kd.R_drewN | apply Kd.R_drew)); exact HO_7.out) gb169 (Nat.le_of_eq hg.symm)) hb); have n1_ := Aside0.mk (Kd.R_below (by (with_reducible repeat (first | apply Kd.R_alloc | apply Kd.R_drewN | apply Kd.R_drew)); exact HO_10.out) hb); have n2_ := Aside0.mk (Kd.S_below (Kd.S_elderB (by (with_reducible repeat (first | apply Kd.S_alloc | apply Kd.S_drewN | apply Kd.S_drew)); exact HO_24.out) gb169 (Nat.le_of_eq hg.symm)) hb); have n3_ := Aside0.mk (below_step (by repeat (first | (with_reducible first | exact HB.out | apply below_alloc | apply pw_below_drewN | apply below_drew1) | exact HB.out)) hb); have n4_ := Aside0.mk (hbox); have n5_ := Aside0.mk ((by rw [hg]; exact (below_size (by repeat (first | (with_reducible first | exact HB.out | apply below_alloc | apply pw_below_drewN | apply below_drew1) | exact HB.out))) : w.heap.size ≤ gb169)); have n6_ := Aside0.mk ((by rw [hg]; exact (below_size (by repeat (first | (with_reducible first | exact HB.out | apply below_alloc | apply pw_below_drewN | apply below_drew1) | exact HB.out))) : w.heap.size ≤ gb169)); clear HO_7; clear HO_10; clear HO_24; clear HB; have HO_7 := n0_; have HO_10 := n1_; have HO_24 := n2_; have HB := n3_; have BK169 := n4_; have GW169 := n5_; have GE169 := n6_; clear n0_ n1_ n2_ n3_ n4_ n5_ n6_; clear hb hbox hg; have hcz49_0 : w48.cell? ⟨gb169, 0, none⟩ = some (.string (⟨#[]⟩ : ByteArray)) := (blk_cell BK169.out 0).trans rfl; have hcz49_1 : w48.cell? ⟨gb169, 1, none⟩ = some (.int .i64 0) := (blk_cell BK169.out 1).trans rfl; have hcz49_2 : w48.cell? ⟨gb169, 2, none⟩ = some (.bool false) := (blk_cell BK169.out 2).trans rfl; have hcz49_3 : w48.cell? ⟨gb169, 3, none⟩ = some (.string (⟨#[]⟩ : ByteArray)) := (blk_cell BK169.out 3).trans rfl; have hfz49_0 := blk_frozen BK169.out 0; have hfz49_1 := blk_frozen BK169.out 1; have hfz49_2 := blk_frozen BK169.out 2; have hfz49_3 := blk_frozen BK169.out 3; have p170 : 0 ≤ (x54_4 : Int) := of_decide_eq_true (by first | (with_reducible assumption) | assumption); have q170 : x54_4 < (x10_3.length : Int) := of_decide_eq_true (by first | (with_reducible assumption) | assumption); obtain ⟨ad170, e170, hx170_0⟩ := Kd.at_bool (Kd.R_reads' HO_10.out).2.2 x54_4 p170 q170; (try rw [← Nbq45.out] at hx170_0); obtain rfl : (⟨go24, 0, none⟩ : Addr) = ad170 := (by injection e170); (first | simp only [add_plain] at hx170_0 | simp only [add_at] at hx170_0 | simp only [Addr.add, Nat.zero_add] at hx170_0 | skip); have hn170_0 : (⟨go24, 0, none⟩ : Addr).block ≠ gb169 := Kd.own_blk (Kd.R_ne HO_10.out BK169.out (by decide)); have hn170_1 : (⟨go24, 0, none⟩ : Addr).block ≠ gb169 := Kd.own_blk (Kd.R_ne HO_10.out BK169.out (by decide)); have hn170_2 : (⟨go24, 0, none⟩ : Addr).block ≠ gb169 := Kd.own_blk (Kd.R_ne HO_10.out BK169.out (by decide)); have hn170_3 : (⟨go24, 0, none⟩ : Addr).block ≠ gb169 := Kd.own_blk (Kd.R_ne HO_10.out BK169.out (by decide)); replace hx170_0 := (cell_far (p := ⟨gb169, 0, none⟩) (by first | (rw [add_block]; exact hn170_0) | (show (Addr.add _ _).block ≠ _; rw [add_block]; exact hn170_0) | exact hn170_0) (.string ((rd_T39 (rd_L4 t156 x26_2) x54_4).f0))).trans hx170_0; replace hx170_0 := (cell_far (p := ⟨gb169, 1, none⟩) (by first | (rw [add_block]; exact hn170_1) | (show (Addr.add _ _).block ≠ _; rw [add_block]; exact hn170_1) | exact hn170_1) (.int .i64 ((rd_T39 (rd_L4 t156 x26_2) x54_4).f1))).trans hx170_0; replace hx170_0 := (cell_far (p := ⟨gb169, 2, none⟩) (by first | (rw [add_block]; exact hn170_2) | (show (Addr.add _ _).block ≠ _; rw [add_block]; exact hn170_2) | exact hn170_2) (.bool ((rd_T39 (rd_L4 t156 x26_2) x54_4).f2))).trans hx170_0; replace hx170_0 := (cell_far (p := ⟨gb169, 3, none⟩) (by first | (rw [add_block]; exact hn170_3) | (show (Addr.add _ _).block ≠ _; rw [add_block]; exact hn170_3) | exact hn170_3) (.string ((rd_T39 (rd_L4 t156 x26_2) x54_4).f3))).trans hx170_0; clear hn170_0; clear hn170_1; clear hn170_2; clear hn170_3; replace p170 := eq_true p170; replace q170 := eq_true q170) | ((with_reducible refine gate_builtin (b := .append) (xs := #[.tmp 63, .tmp 65]) rfl ?_); (try (refine gate_guard (by rfl) ?_; dsimp only)); at_builtin; refine Kd.R_append k39 (w0 := w) w.heap.size rfl (.tmp 63) (.tmp 65) 23 39 (.agg #[(.string ⟨#[]⟩), (.int .i64 0), (.bool false), (.string ⟨#[]⟩)]) 48 rfl Try.underlying23 info39 rfl (by decide) (by omega) u7 x7_4 (⟨(rd_T39 (rd_L4 t156 x26_2) x54_4).f0, (rd_T39 (rd_L4 t156 x26_2) x54_4).f1, (rd_T39 (rd_L4 t156 x26_2) x54_4).f2, (rd_T39 (rd_L4 t156 x26_2) x54_4).f3⟩ : S39) [.string ((rd_T39 (rd_L4 t156 x26_2) x54_4).f0), .int .i64 ((rd_T39 (rd_L4 t156 x26_2) x54_4).f1), .bool ((rd_T39 (rd_L4 t156 x26_2) x54_4).f2), .string ((rd_T39 (rd_L4 t156 x26_2) x54_4).f3)] (fun k_ => k_ ≠ gb169) (fun _ => False) rfl (by first | (go_simp; done) | (go_simp; rfl)) ?aP (fun _ hk => hk.elim) ?aF ?aO ?aB ?aS ?aL ?_; (case aP => exact k39_mkM _ _ _ (⟨(rd_T39 (rd_L4 t156 x26_2) x54_4).f0, (rd_T39 (rd_L4 t156 x26_2) x54_4).f1, (rd_T39 (rd_L4 t156 x26_2) x54_4).f2, (rd_T39 (rd_L4 t156 x26_2) x54_4).f3⟩ : S39)); (case aB => exact (by repeat (first | (with_reducible first | exact HB.out | apply below_alloc | apply pw_below_drewN | apply below_drew1 | refine below_set ?_ GE169.out) | exact HB.out))); (case aF => exact (fun k_ hk => Kd.freshB (g := gb169) (o := .cells #[.string ((rd_T39 (rd_L4 t156 x26_2) x54_4).f0), .int .i64 ((rd_T39 (rd_L4 t156 x26_2) x54_4).f1), .bool ((rd_T39 (rd_L4 t156 x26_2) x54_4).f2), .string ((rd_T39 (rd_L4 t156 x26_2) x54_4).f3)] 39 (0, 0)) (by (with_reducible repeat (first | refine blk_drewN ?_ _ | refine blk_drew ?_ | refine blk_alloc ?_ _)); refine blk_put (cs := #[.string ((rd_T39 (rd_L4 t156 x26_2) x54_4).f0), .int .i64 ((rd_T39 (rd_L4 t156 x26_2) x54_4).f1), .bool ((rd_T39 (rd_L4 t156 x26_2) x54_4).f2), .string (⟨#[]⟩ : ByteArray)]) ?_ 3 _ rfl; (with_reducible repeat (first | refine blk_drewN ?_ _ | refine blk_drew ?_ | refine blk_alloc ?_ _)); refine blk_put (cs := #[.string ((rd_T39 (rd_L4 t156 x26_2) x54_4).f0), .int .i64 ((rd_T39 (rd_L4 t156 x26_2) x54_4).f1), .bool false, .string (⟨#[]⟩ : ByteArray)]) ?_ 2 _ rfl; (with_reducible repeat (first | refine blk_drewN ?_ _ | refine blk_drew ?_ | refine blk_alloc ?_ _)); refine blk_put (cs := #[.string ((rd_T39 (rd_L4 t156 x26_2) x54_4).f0), .int .i64 0, .bool false, .string (⟨#[]⟩ : ByteArray)]) ?_ 1 _ rfl; (with_reducible repeat (first | refine blk_drewN ?_ _ | refine blk_drew ?_ | refine blk_alloc ?_ _)); refine blk_put (cs := #[.string (⟨#[]⟩ : ByteArray), .int .i64 0, .bool false, .string (⟨#[]⟩ : ByteArray)]) ?_ 0 _ rfl; (with_reducible repeat (first | refine blk_drewN ?_ _ | refine blk_drew ?_ | refine blk_alloc ?_ _)); exact BK169.out) k_ hk)); (case aO => exact (by (with_reducible repeat (first | apply Kd.R_alloc | apply Kd.R_drewN | apply Kd.R_drew)); exact Kd.R_mono (Kd.R_far (p := ⟨gb169, 3, none⟩) (Kd.R_far (p := ⟨gb169, 2, none⟩) (Kd.R_far (p := ⟨gb169, 1, none⟩) (Kd.R_far (p := ⟨gb169, 0, none⟩) (Kd.R_mono HO_7.out (fun k_ hk => (⟨hk, hk.2⟩ : _ ∧ k_ ≠ gb169))) (fun _ hk => hk.2) (.string ((rd_T39 (rd_L4 t156 x26_2) x54_4).f0))) (fun _ hk => hk.2) (.int .i64 ((rd_T39 (rd_L4 t156 x26_2) x54_4).f1))) (fun _ hk => hk.2) (.bool ((rd_T39 (rd_L4 t156 x26_2) x54_4).f2))) (fun _ hk => hk.2) (.string ((rd_T39 (rd_L4 t156 x26_2) x54_4).f3))) (fun _ hk => hk.1.2))); (case aS => exact (below_size (by repeat (first | (with_reducible first | exact HB.out | apply below_alloc | apply pw_below_drewN | apply below_drew1 | refine below_set ?_ GE169.out) | exact HB.out)))); (case aL => have := LMc47.out; omega); intro v172 w50 ho hb hg hat; rw [← Ny171.out] at ho; have n0_ := Aside0.mk (Kd.R_over' (by (with_reducible repeat (first | apply Kd.R_alloc | apply Kd.R_drewN | apply Kd.R_drew)); exact (Kd.R_mono (Kd.R_far (p := ⟨gb169, 3, none⟩) (Kd.R_far (p := ⟨gb169, 2, none⟩) (Kd.R_far (p := ⟨gb169, 1, none⟩) (Kd.R_far (p := ⟨gb169, 0, none⟩) (Kd.R_types HO_10.out BK169.out (by decide)) (fun _ hk => hk.2) (.string ((rd_T39 (rd_L4 t156 x26_2) x54_4).f0))) (fun _ hk => hk.2) (.int .i64 ((rd_T39 (rd_L4 t156 x26_2) x54_4).f1))) (fun _ hk => hk.2) (.bool ((rd_T39 (rd_L4 t156 x26_2) x54_4).f2))) (fun _ hk => hk.2) (.string ((rd_T39 (rd_L4 t156 x26_2) x54_4).f3))) (fun _ h_ => h_.1))) (Kd.R_typed (by (with_reducible repeat (first | apply Kd.R_alloc | apply Kd.R_drewN | apply Kd.R_drew)); exact (Kd.R_mono (Kd.R_far (p := ⟨gb169, 3, none⟩) (Kd.R_far (p := ⟨gb169, 2, none⟩) (Kd.R_far (p := ⟨gb169, 1, none⟩) (Kd.R_far (p := ⟨gb169, 0, none⟩) (Kd.R_mono HO_7.out (fun k_ hk => (⟨hk, hk.2⟩ : _ ∧ k_ ≠ gb169))) (fun _ hk => hk.2) (.string ((rd_T39 (rd_L4 t156 x26_2) x54_4).f0))) (fun _ hk => hk.2) (.int .i64 ((rd_T39 (rd_L4 t156 x26_2) x54_4).f1))) (fun _ hk => hk.2) (.bool ((rd_T39 (rd_L4 t156 x26_2) x54_4).f2))) (fun _ hk => hk.2) (.string ((rd_T39 (rd_L4 t156 x26_2) x54_4).f3))) (fun _ h_ => h_.1)))) (by decide) hg); have n1_ := Aside0.mk (Kd.S_after (ok := (fun k_ => k_ ≠ gb169)) (by (with_reducible repeat (first | apply Kd.S_alloc | apply Kd.S_drewN | apply Kd.S_drew)); exact Kd.S_mono (Kd.S_far (p := ⟨gb169, 3, none⟩) (Kd.S_far (p := ⟨gb169, 2, none⟩) (Kd.S_far (p := ⟨gb169, 1, none⟩) (Kd.S_far (p := ⟨gb169, 0, none⟩) (Kd.S_mono HO_24.out (fun k_ hk => (⟨hk, hk.2⟩ : _ ∧ k_ ≠ gb169))) (fun _ hk => hk.2) (.string ((rd_T39 (rd_L4 t156 x26_2) x54_4).f0))) (fun _ hk => hk.2) (.int .i64 ((rd_T39 (rd_L4 t156 x26_2) x54_4).f1))) (fun _ hk => hk.2) (.bool ((rd_T39 (rd_L4 t156 x26_2) x54_4).f2))) (fun _ hk => hk.2) (.string ((rd_T39 (rd_L4 t156 x26_2) x54_4).f3))) (fun _ hk => ⟨hk.1.2, hk.1.1⟩)) hg hat); have n2_ := Aside0.mk (blk_grown (g := gb169) (o := .cells #[.string ((rd_T39 (rd_L4 t156 x26_2) x54_4).f0), .int .i64 ((rd_T39 (rd_L4 t156 x26_2) x54_4).f1), .bool ((rd_T39 (rd_L4 t156 x26_2) x54_4).f2), .string ((rd_T39 (rd_L4 t156 x26_2) x54_4).f3)] 39 (0, 0)) (by (with_reducible repeat (first | refine blk_drewN ?_ _ | refine blk_drew ?_ | refine blk_alloc ?_ _)); refine blk_put (cs := #[.string ((rd_T39 (rd_L4 t156 x26_2) x54_4).f0), .int .i64 ((rd_T39 (rd_L4 t156 x26_2) x54_4).f1), .bool ((rd_T39 (rd_L4 t156 x26_2) x54_4).f2), .string (⟨#[]⟩ : ByteArray)]) ?_ 3 _ rfl; (with_reducible repeat (first | refine blk_drewN ?_ _ | refine blk_drew ?_ | refine blk_alloc ?_ _)); refine blk_put (cs := #[.string ((rd_T39 (rd_L4 t156 x26_2) x54_4).f0), .int .i64 ((rd_T39 (rd_L4 t156 x26_2) x54_4).f1), .bool false, .string (⟨#[]⟩ : ByteArray)]) ?_ 2 _ rfl; (with_reducible repeat (first | refine blk_drewN ?_ _ | refine blk_drew ?_ | refine blk_alloc ?_ _)); refine blk_put (cs := #[.string ((rd_T39 (rd_L4 t156 x26_2) x54_4).f0), .int .i64 0, .bool false, .string (⟨#[]⟩ : ByteArray)]) ?_ 1 _ rfl; (with_reducible repeat (first | refine blk_drewN ?_ _ | refine blk_drew ?_ | refine blk_alloc ?_ _)); refine blk_put (cs := #[.string (⟨#[]⟩ : ByteArray), .int .i64 0, .bool false, .string (⟨#[]⟩ : ByteArray)]) ?_ 0 _ rfl; (with_reducible repeat (first | refine blk_drewN ?_ _ | refine blk_drew ?_ | refine blk_alloc ?_ _)); exact BK169.out) hg (Kd.R_away HO_7.out (fun _ hk => hk.2))); have n3_ := Aside0.mk (hb); have n4_ := Aside0.mk (ho); clear HO_10; clear HO_24; clear BK169; clear HB; clear HO_7; have HO_10 := n0_; have HO_24 := n1_; have BK169 := n2_; have HB := n3_; have HO173 := n4_; clear n0_ n1_ n2_ n3_ n4_; clear ho hb hg hat))
  go_roundg k4
  case measure => have := HJ3.out; have := HK2.out; have := HK3.out; have := HK4.out; omega
  case rel => exact ⟨(y171), (wrap64 (x54_4 + 1)), (by first | rfl | (simp; done) | (simp [*]; done)), H', ⟨by have := HJ3.out; have := HK2.out; have := HK3.out; have := HK4.out; omega⟩, ⟨by (try simp only [hl10_3]); (with_reducible repeat (first | apply Kd.R_alloc | apply Kd.R_drewN | apply Kd.R_drew)); exact Kd.R_mono HO173.out (fun _ hk => trivial)⟩, ⟨by (try simp only [hl10_3]); (with_reducible repeat (first | apply Kd.R_alloc | apply Kd.R_drewN | apply Kd.R_drew)); exact HO_10.out⟩, ⟨by (try simp only [hl10_3]); (with_reducible repeat (first | apply Kd.S_alloc | apply Kd.S_drewN | apply Kd.S_drew)); exact Kd.S_mono HO_24.out (fun _ hk => hk.2)⟩, ⟨by repeat (first | (with_reducible first | exact HB.out | apply below_alloc | apply pw_below_drewN | apply below_drew1 | refine below_set ?_ GE169.out) | exact HB.out)⟩⟩

end Go.Proofs.Ytjcpdbekdimceaa.P
