-- Printed by a changed copy of the kit's printer (wip/tools/ext.py); labels and more
import Derived.Test.YtjcpdbekdimceaaM0
import Derived.Test.YtjcpdbekdimceaaM2
import Derived.Test.YtjcpdbekdimceaaM3
import Derived.Test.YtjcpdbekdimceaaM5
import Derived.Test.YtjcpdbekdimceaaM6
import Derived.Test.YtjcpdbekdimceaaM7
import Derived.Test.YtjcpdbekdimceaaM9
import Derived.Test.YtjcpdbekdimceaaM10
import Derived.Test.YtjcpdbekdimceaaM11
namespace Go.Proofs.Ytjcpdbekdimceaa.P
open Go.RowKit Go.Proofs.YtjcpdbekdimceaaW.PrintWords Go.Proofs.YtjcpdbekdimceaaW.PrintLast Go.Proofs.YtjcpdbekdimceaaW.PrintMore
attribute [local go_sem] max2_int min2_int max_two min_two max_three min_three max_four min_four   -- for this text's walks alone
attribute [local go_sem high] string_leq string_geq string_gtr
set_option linter.unusedVariables false
set_option linter.unusedSimpArgs false

/-! ### ravelinlaw11_MergeTells: function 3 -/
def ravelinlaw11_MergeTells.j0 : Nat → List (List (S39)) → List (S39) → Int → List Int → Bool → Bool → Option (Bool)
 | 0, _, _, _, _, _, _ => none
 | k + 1, x0, x1, x2, x3, x4, x29 => if x29 = true then (some true) else ((merge_Rows.f k x0).bind fun bt271 => ((ravelinref6_Rows.f k x0).bind fun bt275 => ((ravelinref6_Same.f k bt271.1 bt275.1).bind fun t279 => (if t279 = true then (if ((bt271.2 == 0) == bt275.2) = true then (if bt271.2 = 0 then ((merge_Visible.f k x1 x2).bind fun t280 => ((ravelinref6_Visible.f k x1 x2).bind fun t283 => ((ravelinref6_Same.f k t280 t283).bind fun t286 => (if t286 = true then ((merge_Pack.f k x1 x3 x4).bind fun t287 => ((ravelinref6_Pack.f k x1 x3 x4).bind fun t290 => ((ravelinref6_Same.f k t287 t290).bind fun t293 => (some t293)))) else (some false))))) else (if bt271.2 = 16 then ((merge_Visible.f k x1 x2).bind fun t294 => ((ravelinref6_Visible.f k x1 x2).bind fun t297 => ((ravelinref6_Same.f k t294 t297).bind fun t300 => (if t300 = true then ((merge_Pack.f k x1 x3 x4).bind fun t301 => ((ravelinref6_Pack.f k x1 x3 x4).bind fun t304 => ((ravelinref6_Same.f k t301 t304).bind fun t307 => (some t307)))) else (some false))))) else (some false))) else (some false)) else (some false)))))
def ravelinlaw11_MergeTells.f (k : Nat) (l0 : List (List (S39))) (l1 : List (S39)) (a2 : Int) (l3 : List Int) (a4 : Bool) : Option (Bool) := (ravelinlaw11_known.f k).bind fun t268 => (if t268 = true then ((ravelinlaw11_fewRows.f k l0).bind fun t269 => (if t269 = true then ((ravelinlaw11_few.f k l1).bind fun t270 => (if t270 = true then (ravelinlaw11_MergeTells.j0 k l0 l1 a2 l3 a4 (decide ((l3.length : Int) > 10))) else (ravelinlaw11_MergeTells.j0 k l0 l1 a2 l3 a4 true))) else (ravelinlaw11_MergeTells.j0 k l0 l1 a2 l3 a4 true))) else (some false))
theorem ravelinlaw11_MergeTells.mono_l : ∀ k, (∀ y0 y1 y2 y3 y4 y5, LeO (ravelinlaw11_MergeTells.j0 k y0 y1 y2 y3 y4 y5) (ravelinlaw11_MergeTells.j0 (k + 1) y0 y1 y2 y3 y4 y5))
 | 0 => fun _ _ _ _ _ _ r h => by simp [ravelinlaw11_MergeTells.j0] at h
 | k + 1 => by
  have ih0 := ravelinlaw11_MergeTells.mono_l k
  ·intro y0 y1 y2 y3 y4 y5
   unfold ravelinlaw11_MergeTells.j0
   repeat' first
   | (with_reducible exact ih0 _ _ _ _ _ _)
   | (with_reducible exact merge_Pack.mono _ _ _ _)
   | (with_reducible exact merge_Rows.mono _ _)
   | (with_reducible exact merge_Visible.mono _ _ _)
   | (with_reducible exact ravelinlaw11_few.mono _ _)
   | (with_reducible exact ravelinlaw11_fewRows.mono _ _)
   | (with_reducible exact ravelinlaw11_known.mono _)
   | (with_reducible exact ravelinref6_Pack.mono _ _ _ _)
   | (with_reducible exact ravelinref6_Rows.mono _ _)
   | (with_reducible exact ravelinref6_Same.mono _ _ _)
   | (with_reducible exact ravelinref6_Visible.mono _ _ _)
   | (with_reducible exact LeO.refl _)
   | (with_reducible exact LeO.none _)
   | (with_reducible refine LeO.ite ?_ ?_)
   | (with_reducible refine LeO.bind ?_ (fun _ => ?_))
   | exact ih0 _ _ _ _ _ _
   | exact merge_Pack.mono _ _ _ _
   | exact merge_Rows.mono _ _
   | exact merge_Visible.mono _ _ _
   | exact ravelinlaw11_few.mono _ _
   | exact ravelinlaw11_fewRows.mono _ _
   | exact ravelinlaw11_known.mono _
   | exact ravelinref6_Pack.mono _ _ _ _
   | exact ravelinref6_Rows.mono _ _
   | exact ravelinref6_Same.mono _ _ _
   | exact ravelinref6_Visible.mono _ _ _
   | exact LeO.none _
   | refine LeO.ite ?_ ?_
   | refine LeO.bind ?_ (fun _ => ?_)
theorem ravelinlaw11_MergeTells.mono : ∀ a0 a1 a2 a3 a4 k, LeO (ravelinlaw11_MergeTells.f k a0 a1 a2 a3 a4) (ravelinlaw11_MergeTells.f (k + 1) a0 a1 a2 a3 a4) := by
 intro a0 a1 a2 a3 a4 k
 have ih0 := ravelinlaw11_MergeTells.mono_l k
 unfold ravelinlaw11_MergeTells.f
 repeat' first
   | (with_reducible exact ih0 _ _ _ _ _ _)
   | (with_reducible exact merge_Pack.mono _ _ _ _)
   | (with_reducible exact merge_Rows.mono _ _)
   | (with_reducible exact merge_Visible.mono _ _ _)
   | (with_reducible exact ravelinlaw11_few.mono _ _)
   | (with_reducible exact ravelinlaw11_fewRows.mono _ _)
   | (with_reducible exact ravelinlaw11_known.mono _)
   | (with_reducible exact ravelinref6_Pack.mono _ _ _ _)
   | (with_reducible exact ravelinref6_Rows.mono _ _)
   | (with_reducible exact ravelinref6_Same.mono _ _ _)
   | (with_reducible exact ravelinref6_Visible.mono _ _ _)
   | (with_reducible exact LeO.refl _)
   | (with_reducible exact LeO.none _)
   | (with_reducible refine LeO.ite ?_ ?_)
   | (with_reducible refine LeO.bind ?_ (fun _ => ?_))
   | exact ih0 _ _ _ _ _ _
   | exact merge_Pack.mono _ _ _ _
   | exact merge_Rows.mono _ _
   | exact merge_Visible.mono _ _ _
   | exact ravelinlaw11_few.mono _ _
   | exact ravelinlaw11_fewRows.mono _ _
   | exact ravelinlaw11_known.mono _
   | exact ravelinref6_Pack.mono _ _ _ _
   | exact ravelinref6_Rows.mono _ _
   | exact ravelinref6_Same.mono _ _ _
   | exact ravelinref6_Visible.mono _ _ _
   | exact LeO.none _
   | refine LeO.ite ?_ ?_
   | refine LeO.bind ?_ (fun _ => ?_)
set_option maxHeartbeats 8000000 in
set_option maxRecDepth 100000 in
theorem ravelinlaw11_MergeTells.calls (k : Nat) (A0 : Option Addr) (c0 : Nat) (l0 : List (List (S39))) (A1 : Option Addr) (c1 : Nat) (l1 : List (S39)) (a2 : Int) (A3 : Option Addr) (c3 : Nat) (l3 : List Int) (a4 : Bool) (r : Bool) (w : World) (hr0 : Kd.C (Kd.slice 39 k39) w A0 l0.length l0) (hc0 : l0.length ≤ c0) (hr1 : Kd.C k39 w A1 l1.length l1) (hc1 : l1.length ≤ c1) (hr3 : Kd.C (Kd.int .i64) w A3 l3.length l3) (hc3 : l3.length ≤ c3) (h : ravelinlaw11_MergeTells.f k l0 l1 a2 l3 a4 = some r) (hr_ : r = true) :
  Calls Try.prog 3 #[.slice A0 l0.length c0, .slice A1 l1.length c1, .int .i64 a2, .slice A3 l3.length c3, .bool a4] w fun e w' => e = .returned (.bool r) ∧ Below w.heap.size w w' := by
 have HR0 := Aside0.mk hr0
 have HC0 := Aside0.mk hc0
 clear hr0 hc0
 have HR1 := Aside0.mk hr1
 have HC1 := Aside0.mk hc1
 clear hr1 hc1
 have HR3 := Aside0.mk hr3
 have HC3 := Aside0.mk hc3
 clear hr3 hc3
 have HB := Aside0.mk (Below.refl w.heap.size w)
 have H : ((ravelinlaw11_known.f k).bind fun t268 => (if t268 = true then ((ravelinlaw11_fewRows.f k l0).bind fun t269 => (if t269 = true then ((ravelinlaw11_few.f k l1).bind fun t270 => (if t270 = true then (ravelinlaw11_MergeTells.j0 k l0 l1 a2 l3 a4 (decide ((l3.length : Int) > 10))) else (ravelinlaw11_MergeTells.j0 k l0 l1 a2 l3 a4 true))) else (ravelinlaw11_MergeTells.j0 k l0 l1 a2 l3 a4 true))) else (some false))) = some r := h
 clear h
 have HR_ := Aside0.mk hr_
 clear hr_
 replace H := Option.bind_eq_some_iff.mp H
 obtain ⟨t268, A60, H⟩ := H
 replace H : (if t268 = true then ((ravelinlaw11_fewRows.f k l0).bind fun t269 => (if t269 = true then ((ravelinlaw11_few.f k l1).bind fun t270 => (if t270 = true then (ravelinlaw11_MergeTells.j0 k l0 l1 a2 l3 a4 (decide ((l3.length : Int) > 10))) else (ravelinlaw11_MergeTells.j0 k l0 l1 a2 l3 a4 true))) else (ravelinlaw11_MergeTells.j0 k l0 l1 a2 l3 a4 true))) else (some false)) = some r := H
 have A6 := Aside0.mk A60
 clear A60
 by_cases c7 : t268 = true
 rotate_left
 ·replace c7 := Bool.eq_false_iff.mpr c7
  subst c7
  have H1 : (some false) = some r := by rw [if_neg (show ¬ (false = true) by decide)] at H; exact H
  clear H
  have H := H1
  clear H1
  exact absurd ((Option.some.inj H).trans HR_.out) (by decide)
 subst c7
 have H1 : ((ravelinlaw11_fewRows.f k l0).bind fun t269 => (if t269 = true then ((ravelinlaw11_few.f k l1).bind fun t270 => (if t270 = true then (ravelinlaw11_MergeTells.j0 k l0 l1 a2 l3 a4 (decide ((l3.length : Int) > 10))) else (ravelinlaw11_MergeTells.j0 k l0 l1 a2 l3 a4 true))) else (ravelinlaw11_MergeTells.j0 k l0 l1 a2 l3 a4 true))) = some r := by rw [if_pos rfl] at H; exact H
 clear H
 have H := H1
 clear H1
 have HC8 := Aside0.mk H
 clear H
 go_enter Try.func3, Try.ntmps3
 go_upto_region 3 with (first | ((with_reducible refine gate_callee (f := 8) rfl ?_); refine goesL_ (some 15) rfl rfl Try.func8 (by kernel_rfl) rfl #[] rfl (by (try simp only [List.map_toArray, List.map_cons, List.map_nil]); first | done | rfl | (simp only [List.length_drop, List.length_take]; rfl)) ?_; (with_reducible refine (ravelinlaw11_known.calls k  true _ A6.out (by first | rfl | assumption | exact of_decide_eq_true (by assumption))).mono ?_); rintro e w9 ⟨rfl, hb⟩; refine ⟨_, rfl, ?_⟩; have n0_ := Aside0.mk (below_step (by repeat (first | (with_reducible first | exact HB.out | apply below_alloc | apply pw_below_drewN | apply below_drew1) | exact HB.out)) hb); clear HB; have HB := n0_; clear n0_; (try clear hb); (try clear hb2); (try clear hk); (try clear hi)))
 (try simp only [Act.put, List.setIfInBounds_toArray, List.set_cons_zero, List.set_cons_succ])
 go_cut [29] (fun v29 wc => ∃ (kq : Nat) (x29_7 : Bool), v29 = .bool x29_7 ∧ Aside0 (ravelinlaw11_MergeTells.j0 kq l0 l1 a2 l3 a4 x29_7 = some r) ∧ Aside0 (kq ≤ k) ∧ Aside0 (Below w.heap.size w wc))
 case first =>
  have H := HC8.out
  clear HC8
  replace H := Option.bind_eq_some_iff.mp H
  obtain ⟨t269, A100, H⟩ := H
  replace H : (if t269 = true then ((ravelinlaw11_few.f k l1).bind fun t270 => (if t270 = true then (ravelinlaw11_MergeTells.j0 k l0 l1 a2 l3 a4 (decide ((l3.length : Int) > 10))) else (ravelinlaw11_MergeTells.j0 k l0 l1 a2 l3 a4 true))) else (ravelinlaw11_MergeTells.j0 k l0 l1 a2 l3 a4 true)) = some r := H
  have A10 := Aside0.mk A100
  clear A100
  by_cases c11 : t269 = true
  rotate_left
  ·replace c11 := Bool.eq_false_iff.mpr c11
   subst c11
   have H1 : (ravelinlaw11_MergeTells.j0 k l0 l1 a2 l3 a4 true) = some r := by rw [if_neg (show ¬ (false = true) by decide)] at H; exact H
   clear H
   have H := H1
   clear H1
   have H' := Aside0.mk H
   clear H
   go_wp2_with (first | ((with_reducible refine gate_callee (f := 9) rfl ?_); refine goesL_ (some 18) rfl rfl Try.func9 (by kernel_rfl) rfl #[.slice A0 l0.length c0] rfl (by (try simp only [List.map_toArray, List.map_cons, List.map_nil]); first | done | rfl | (simp only [List.length_drop, List.length_take]; rfl)) ?_; (with_reducible refine (ravelinlaw11_fewRows.calls k _ _ l0 false _ ?side1 ?side2 A10.out).mono ?_); (case side1 => repeat (first | exact (Kd.C_below HR0.out HB.out) | (with_reducible refine Kd.C_alloc ?_ _) | (with_reducible refine Kd.C_drewN ?_ _) | (with_reducible refine Kd.C_drew ?_))); (case side2 => exact HC0.out); rintro e w' ⟨rfl, ⟨nd, rfl⟩⟩; refine ⟨_, rfl, ?_⟩))
   go_meet
   case rel => exact ⟨_, (true), (by first | rfl | (simp; done) | (simp [*]; done)), H', ⟨by first | omega | exact Nat.le_refl _⟩, ⟨by repeat (first | (with_reducible first | exact HB.out | apply below_alloc | apply pw_below_drewN | apply below_drew1) | exact HB.out)⟩⟩
  subst c11
  have H1 : ((ravelinlaw11_few.f k l1).bind fun t270 => (if t270 = true then (ravelinlaw11_MergeTells.j0 k l0 l1 a2 l3 a4 (decide ((l3.length : Int) > 10))) else (ravelinlaw11_MergeTells.j0 k l0 l1 a2 l3 a4 true))) = some r := by rw [if_pos rfl] at H; exact H
  clear H
  have H := H1
  clear H1
  replace H := Option.bind_eq_some_iff.mp H
  obtain ⟨t270, A120, H⟩ := H
  replace H : (if t270 = true then (ravelinlaw11_MergeTells.j0 k l0 l1 a2 l3 a4 (decide ((l3.length : Int) > 10))) else (ravelinlaw11_MergeTells.j0 k l0 l1 a2 l3 a4 true)) = some r := H
  have A12 := Aside0.mk A120
  clear A120
  by_cases c13 : t270 = true
  ·subst c13
   have H1 : (ravelinlaw11_MergeTells.j0 k l0 l1 a2 l3 a4 (decide ((l3.length : Int) > 10))) = some r := by rw [if_pos rfl] at H; exact H
   clear H
   have H := H1
   clear H1
   have H' := Aside0.mk H
   clear H
   go_wp2_with (first | ((with_reducible refine gate_callee (f := 9) rfl ?_); refine goesL_ (some 18) rfl rfl Try.func9 (by kernel_rfl) rfl #[.slice A0 l0.length c0] rfl (by (try simp only [List.map_toArray, List.map_cons, List.map_nil]); first | done | rfl | (simp only [List.length_drop, List.length_take]; rfl)) ?_; (with_reducible refine (ravelinlaw11_fewRows.calls k _ _ l0 true _ ?side1 ?side2 A10.out).mono ?_); (case side1 => repeat (first | exact (Kd.C_below HR0.out HB.out) | (with_reducible refine Kd.C_alloc ?_ _) | (with_reducible refine Kd.C_drewN ?_ _) | (with_reducible refine Kd.C_drew ?_))); (case side2 => exact HC0.out); rintro e w' ⟨rfl, ⟨nd, rfl⟩⟩; refine ⟨_, rfl, ?_⟩) | (go_at_call 10; (with_reducible refine (ravelinlaw11_few.calls k _ _ l1 true _ ?side1 ?side2 A12.out).mono ?_); (case side1 => repeat (first | exact (Kd.C_below HR1.out (by repeat (first | (with_reducible first | exact HB.out | apply below_alloc | apply pw_below_drewN | apply below_drew1) | exact HB.out))) | (with_reducible refine Kd.C_alloc ?_ _) | (with_reducible refine Kd.C_drewN ?_ _) | (with_reducible refine Kd.C_drew ?_))); (case side2 => exact HC1.out); rintro e w' ⟨rfl, ⟨nd, rfl⟩⟩))
   go_meet
   case rel => exact ⟨_, (decide ((l3.length : Int) > 10)), (by first | rfl | (simp; done) | (simp [*]; done)), H', ⟨by first | omega | exact Nat.le_refl _⟩, ⟨by repeat (first | (with_reducible first | exact HB.out | apply below_alloc | apply pw_below_drewN | apply below_drew1) | exact HB.out)⟩⟩
  replace c13 := Bool.eq_false_iff.mpr c13
  subst c13
  have H1 : (ravelinlaw11_MergeTells.j0 k l0 l1 a2 l3 a4 true) = some r := by rw [if_neg (show ¬ (false = true) by decide)] at H; exact H
  clear H
  have H := H1
  clear H1
  have H' := Aside0.mk H
  clear H
  go_wp2_with (first | ((with_reducible refine gate_callee (f := 9) rfl ?_); refine goesL_ (some 18) rfl rfl Try.func9 (by kernel_rfl) rfl #[.slice A0 l0.length c0] rfl (by (try simp only [List.map_toArray, List.map_cons, List.map_nil]); first | done | rfl | (simp only [List.length_drop, List.length_take]; rfl)) ?_; (with_reducible refine (ravelinlaw11_fewRows.calls k _ _ l0 true _ ?side1 ?side2 A10.out).mono ?_); (case side1 => repeat (first | exact (Kd.C_below HR0.out HB.out) | (with_reducible refine Kd.C_alloc ?_ _) | (with_reducible refine Kd.C_drewN ?_ _) | (with_reducible refine Kd.C_drew ?_))); (case side2 => exact HC0.out); rintro e w' ⟨rfl, ⟨nd, rfl⟩⟩; refine ⟨_, rfl, ?_⟩) | (go_at_call 10; (with_reducible refine (ravelinlaw11_few.calls k _ _ l1 false _ ?side1 ?side2 A12.out).mono ?_); (case side1 => repeat (first | exact (Kd.C_below HR1.out (by repeat (first | (with_reducible first | exact HB.out | apply below_alloc | apply pw_below_drewN | apply below_drew1) | exact HB.out))) | (with_reducible refine Kd.C_alloc ?_ _) | (with_reducible refine Kd.C_drewN ?_ _) | (with_reducible refine Kd.C_drew ?_))); (case side2 => exact HC1.out); rintro e w' ⟨rfl, ⟨nd, rfl⟩⟩))
  go_meet
  case rel => exact ⟨_, (true), (by first | rfl | (simp; done) | (simp [*]; done)), H', ⟨by first | omega | exact Nat.le_refl _⟩, ⟨by repeat (first | (with_reducible first | exact HB.out | apply below_alloc | apply pw_below_drewN | apply below_drew1) | exact HB.out)⟩⟩
 clear HC8
 try clear c1
 try clear p2
 try clear c3
 try clear c7
 try clear c8
 try clear c9
 try clear c11
 try clear c13
 obtain ⟨kq, x29_7, rfl, HA, HJ7, HB⟩ := hcut
 cases kq with
 | zero => exact absurd HA.out (by simp [ravelinlaw11_MergeTells.j0])
 | succ kj7 => ?_
 have H := HA.out
 clear HA
 simp only [ravelinlaw11_MergeTells.j0] at H
 by_cases c14 : x29_7 = true
 ·subst c14
  have H1 : (some true) = some r := by rw [if_pos rfl] at H; exact H
  clear H
  have H := H1
  clear H1
  obtain rfl := Option.some.inj H
  go_wp2
  go_ret
  exact ⟨by first | rfl | (simp [errW_none, errW_some] <;> rfl) | (simp [*, errW_none, errW_some] <;> rfl), by repeat (first | (with_reducible first | exact HB.out | apply below_alloc | apply pw_below_drewN | apply below_drew1) | exact HB.out)⟩
 replace c14 := Bool.eq_false_iff.mpr c14
 subst c14
 have H1 : ((merge_Rows.f kj7 l0).bind fun bt271 => ((ravelinref6_Rows.f kj7 l0).bind fun bt275 => ((ravelinref6_Same.f kj7 bt271.1 bt275.1).bind fun t279 => (if t279 = true then (if ((bt271.2 == 0) == bt275.2) = true then (if bt271.2 = 0 then ((merge_Visible.f kj7 l1 a2).bind fun t280 => ((ravelinref6_Visible.f kj7 l1 a2).bind fun t283 => ((ravelinref6_Same.f kj7 t280 t283).bind fun t286 => (if t286 = true then ((merge_Pack.f kj7 l1 l3 a4).bind fun t287 => ((ravelinref6_Pack.f kj7 l1 l3 a4).bind fun t290 => ((ravelinref6_Same.f kj7 t287 t290).bind fun t293 => (some t293)))) else (some false))))) else (if bt271.2 = 16 then ((merge_Visible.f kj7 l1 a2).bind fun t294 => ((ravelinref6_Visible.f kj7 l1 a2).bind fun t297 => ((ravelinref6_Same.f kj7 t294 t297).bind fun t300 => (if t300 = true then ((merge_Pack.f kj7 l1 l3 a4).bind fun t301 => ((ravelinref6_Pack.f kj7 l1 l3 a4).bind fun t304 => ((ravelinref6_Same.f kj7 t301 t304).bind fun t307 => (some t307)))) else (some false))))) else (some false))) else (some false)) else (some false))))) = some r := by rw [if_neg (show ¬ (false = true) by decide)] at H; exact H
 clear H
 have H := H1
 clear H1
 replace H := Option.bind_eq_some_iff.mp H
 obtain ⟨⟨t271, t272⟩, A150, H⟩ := H
 replace H : ((ravelinref6_Rows.f kj7 l0).bind fun bt275 => ((ravelinref6_Same.f kj7 t271 bt275.1).bind fun t279 => (if t279 = true then (if ((t272 == 0) == bt275.2) = true then (if t272 = 0 then ((merge_Visible.f kj7 l1 a2).bind fun t280 => ((ravelinref6_Visible.f kj7 l1 a2).bind fun t283 => ((ravelinref6_Same.f kj7 t280 t283).bind fun t286 => (if t286 = true then ((merge_Pack.f kj7 l1 l3 a4).bind fun t287 => ((ravelinref6_Pack.f kj7 l1 l3 a4).bind fun t290 => ((ravelinref6_Same.f kj7 t287 t290).bind fun t293 => (some t293)))) else (some false))))) else (if t272 = 16 then ((merge_Visible.f kj7 l1 a2).bind fun t294 => ((ravelinref6_Visible.f kj7 l1 a2).bind fun t297 => ((ravelinref6_Same.f kj7 t294 t297).bind fun t300 => (if t300 = true then ((merge_Pack.f kj7 l1 l3 a4).bind fun t301 => ((ravelinref6_Pack.f kj7 l1 l3 a4).bind fun t304 => ((ravelinref6_Same.f kj7 t301 t304).bind fun t307 => (some t307)))) else (some false))))) else (some false))) else (some false)) else (some false)))) = some r := H
 have A15 := Aside0.mk A150
 clear A150
 replace H := Option.bind_eq_some_iff.mp H
 obtain ⟨⟨t275, t276⟩, A160, H⟩ := H
 replace H : ((ravelinref6_Same.f kj7 t271 t275).bind fun t279 => (if t279 = true then (if ((t272 == 0) == t276) = true then (if t272 = 0 then ((merge_Visible.f kj7 l1 a2).bind fun t280 => ((ravelinref6_Visible.f kj7 l1 a2).bind fun t283 => ((ravelinref6_Same.f kj7 t280 t283).bind fun t286 => (if t286 = true then ((merge_Pack.f kj7 l1 l3 a4).bind fun t287 => ((ravelinref6_Pack.f kj7 l1 l3 a4).bind fun t290 => ((ravelinref6_Same.f kj7 t287 t290).bind fun t293 => (some t293)))) else (some false))))) else (if t272 = 16 then ((merge_Visible.f kj7 l1 a2).bind fun t294 => ((ravelinref6_Visible.f kj7 l1 a2).bind fun t297 => ((ravelinref6_Same.f kj7 t294 t297).bind fun t300 => (if t300 = true then ((merge_Pack.f kj7 l1 l3 a4).bind fun t301 => ((ravelinref6_Pack.f kj7 l1 l3 a4).bind fun t304 => ((ravelinref6_Same.f kj7 t301 t304).bind fun t307 => (some t307)))) else (some false))))) else (some false))) else (some false)) else (some false))) = some r := H
 have A16 := Aside0.mk A160
 clear A160
 replace H := Option.bind_eq_some_iff.mp H
 obtain ⟨t279, A170, H⟩ := H
 replace H : (if t279 = true then (if ((t272 == 0) == t276) = true then (if t272 = 0 then ((merge_Visible.f kj7 l1 a2).bind fun t280 => ((ravelinref6_Visible.f kj7 l1 a2).bind fun t283 => ((ravelinref6_Same.f kj7 t280 t283).bind fun t286 => (if t286 = true then ((merge_Pack.f kj7 l1 l3 a4).bind fun t287 => ((ravelinref6_Pack.f kj7 l1 l3 a4).bind fun t290 => ((ravelinref6_Same.f kj7 t287 t290).bind fun t293 => (some t293)))) else (some false))))) else (if t272 = 16 then ((merge_Visible.f kj7 l1 a2).bind fun t294 => ((ravelinref6_Visible.f kj7 l1 a2).bind fun t297 => ((ravelinref6_Same.f kj7 t294 t297).bind fun t300 => (if t300 = true then ((merge_Pack.f kj7 l1 l3 a4).bind fun t301 => ((ravelinref6_Pack.f kj7 l1 l3 a4).bind fun t304 => ((ravelinref6_Same.f kj7 t301 t304).bind fun t307 => (some t307)))) else (some false))))) else (some false))) else (some false)) else (some false)) = some r := H
 have A17 := Aside0.mk A170
 clear A170
 by_cases c18 : t279 = true
 rotate_left
 ·replace c18 := Bool.eq_false_iff.mpr c18
  subst c18
  have H1 : (some false) = some r := by rw [if_neg (show ¬ (false = true) by decide)] at H; exact H
  clear H
  have H := H1
  clear H1
  exact absurd ((Option.some.inj H).trans HR_.out) (by decide)
 subst c18
 have H1 : (if ((t272 == 0) == t276) = true then (if t272 = 0 then ((merge_Visible.f kj7 l1 a2).bind fun t280 => ((ravelinref6_Visible.f kj7 l1 a2).bind fun t283 => ((ravelinref6_Same.f kj7 t280 t283).bind fun t286 => (if t286 = true then ((merge_Pack.f kj7 l1 l3 a4).bind fun t287 => ((ravelinref6_Pack.f kj7 l1 l3 a4).bind fun t290 => ((ravelinref6_Same.f kj7 t287 t290).bind fun t293 => (some t293)))) else (some false))))) else (if t272 = 16 then ((merge_Visible.f kj7 l1 a2).bind fun t294 => ((ravelinref6_Visible.f kj7 l1 a2).bind fun t297 => ((ravelinref6_Same.f kj7 t294 t297).bind fun t300 => (if t300 = true then ((merge_Pack.f kj7 l1 l3 a4).bind fun t301 => ((ravelinref6_Pack.f kj7 l1 l3 a4).bind fun t304 => ((ravelinref6_Same.f kj7 t301 t304).bind fun t307 => (some t307)))) else (some false))))) else (some false))) else (some false)) = some r := by rw [if_pos rfl] at H; exact H
 clear H
 have H := H1
 clear H1
 by_cases c19 : ((t272 == 0) == t276) = true
 rotate_left
 ·rw [if_neg c19] at H
  have c19b0 : ((t272 == 0) == t276) = false := by simpa using c19
  (try (have c19b1 : decide ((t272 == 0) = t276) = false := by simpa using c19))
  (try (have c19b2 : ((t272 == 0) == t276) = false := by simpa using c19))
  (try (have c19b3 : ¬ ((t272 == 0) = t276) := by simpa using c19))
  (try (have c19b4 : (t276) = !(t272 == 0) := by have h_ := c19; revert h_; generalize (t272 == 0) = u_; generalize t276 = v_; cases u_ <;> cases v_ <;> simp))
  clear c19
  exact absurd ((Option.some.inj H).trans HR_.out) (by decide)
 rw [if_pos c19] at H
 have c19b0 : ((t272 == 0) == t276) = true := c19
 (try (have c19b1 : decide ((t272 == 0) = t276) = true := by simpa using c19))
 (try (have c19b2 : ((t272 == 0) == t276) = true := by simpa using c19))
 (try (have c19b3 : (t276) = (t272 == 0) := by have h_ := c19; revert h_; generalize (t272 == 0) = u_; generalize t276 = v_; cases u_ <;> cases v_ <;> simp))
 clear c19
 by_cases c20 : t272 = 0
 ·rw [if_pos c20] at H
  have c20b0 : (t272 == 0) = true := beq_iff_eq.mpr c20
  have c20b1 : (t272 != 0) = false := bne_eq_false_iff_eq.mpr c20
  clear c20
  replace H := Option.bind_eq_some_iff.mp H
  obtain ⟨t280, A210, H⟩ := H
  replace H : ((ravelinref6_Visible.f kj7 l1 a2).bind fun t283 => ((ravelinref6_Same.f kj7 t280 t283).bind fun t286 => (if t286 = true then ((merge_Pack.f kj7 l1 l3 a4).bind fun t287 => ((ravelinref6_Pack.f kj7 l1 l3 a4).bind fun t290 => ((ravelinref6_Same.f kj7 t287 t290).bind fun t293 => (some t293)))) else (some false)))) = some r := H
  have A21 := Aside0.mk A210
  clear A210
  replace H := Option.bind_eq_some_iff.mp H
  obtain ⟨t283, A220, H⟩ := H
  replace H : ((ravelinref6_Same.f kj7 t280 t283).bind fun t286 => (if t286 = true then ((merge_Pack.f kj7 l1 l3 a4).bind fun t287 => ((ravelinref6_Pack.f kj7 l1 l3 a4).bind fun t290 => ((ravelinref6_Same.f kj7 t287 t290).bind fun t293 => (some t293)))) else (some false))) = some r := H
  have A22 := Aside0.mk A220
  clear A220
  replace H := Option.bind_eq_some_iff.mp H
  obtain ⟨t286, A230, H⟩ := H
  replace H : (if t286 = true then ((merge_Pack.f kj7 l1 l3 a4).bind fun t287 => ((ravelinref6_Pack.f kj7 l1 l3 a4).bind fun t290 => ((ravelinref6_Same.f kj7 t287 t290).bind fun t293 => (some t293)))) else (some false)) = some r := H
  have A23 := Aside0.mk A230
  clear A230
  by_cases c24 : t286 = true
  rotate_left
  ·replace c24 := Bool.eq_false_iff.mpr c24
   subst c24
   have H1 : (some false) = some r := by rw [if_neg (show ¬ (false = true) by decide)] at H; exact H
   clear H
   have H := H1
   clear H1
   exact absurd ((Option.some.inj H).trans HR_.out) (by decide)
  subst c24
  have H1 : ((merge_Pack.f kj7 l1 l3 a4).bind fun t287 => ((ravelinref6_Pack.f kj7 l1 l3 a4).bind fun t290 => ((ravelinref6_Same.f kj7 t287 t290).bind fun t293 => (some t293)))) = some r := by rw [if_pos rfl] at H; exact H
  clear H
  have H := H1
  clear H1
  replace H := Option.bind_eq_some_iff.mp H
  obtain ⟨t287, A250, H⟩ := H
  replace H : ((ravelinref6_Pack.f kj7 l1 l3 a4).bind fun t290 => ((ravelinref6_Same.f kj7 t287 t290).bind fun t293 => (some t293))) = some r := H
  have A25 := Aside0.mk A250
  clear A250
  replace H := Option.bind_eq_some_iff.mp H
  obtain ⟨t290, A260, H⟩ := H
  replace H : ((ravelinref6_Same.f kj7 t287 t290).bind fun t293 => (some t293)) = some r := H
  have A26 := Aside0.mk A260
  clear A260
  replace H := Option.bind_eq_some_iff.mp H
  obtain ⟨t293, A270, H⟩ := H
  replace H : (some t293) = some r := H
  have A27 := Aside0.mk A270
  clear A270
  obtain rfl := Option.some.inj H
  go_wp2_with (first | ((with_reducible refine gate_callee (f := 11) rfl ?_); refine goesL_ (some 32) rfl rfl Try.func11 (by kernel_rfl) rfl #[.slice A0 l0.length c0] rfl (by (try simp only [List.map_toArray, List.map_cons, List.map_nil]); first | done | rfl | (simp only [List.length_drop, List.length_take]; rfl)) ?_; (with_reducible refine (merge_Rows.calls kj7 _ _ l0 t271 t272 _ ?side1 ?side2 A15.out).mono ?_); (case side1 => repeat (first | exact (Kd.C_below HR0.out HB.out) | (with_reducible refine Kd.C_alloc ?_ _) | (with_reducible refine Kd.C_drewN ?_ _) | (with_reducible refine Kd.C_drew ?_))); (case side2 => exact HC0.out); rintro e w28 ⟨v273, rfl, ho0, hb⟩; refine ⟨_, rfl, ?_⟩; have n0_ := Aside0.mk (Kd.R_lower ho0 (below_size (by repeat (first | (with_reducible first | exact HB.out | apply below_alloc | apply pw_below_drewN | apply below_drew1) | exact HB.out)))); have n1_ := Aside0.mk (below_step (by repeat (first | (with_reducible first | exact HB.out | apply below_alloc | apply pw_below_drewN | apply below_drew1) | exact HB.out)) hb); clear HB; have HO274 := n0_; have HB := n1_; clear n0_ n1_; (try clear hb); (try clear hb2); (try clear hk); (try clear hi); (try clear ho0)) | ((with_reducible refine gate_callee (f := 12) rfl ?_); refine goesL_ (some 37) rfl rfl Try.func12 (by kernel_rfl) rfl #[.slice A0 l0.length c0] rfl (by (try simp only [List.map_toArray, List.map_cons, List.map_nil]); first | done | rfl | (simp only [List.length_drop, List.length_take]; rfl)) ?_; (with_reducible refine (ravelinref6_Rows.calls kj7 _ _ l0 t275 t276 _ ?side1 ?side2 A16.out).mono ?_); (case side1 => repeat (first | exact (Kd.C_below HR0.out HB.out) | (with_reducible refine Kd.C_alloc ?_ _) | (with_reducible refine Kd.C_drewN ?_ _) | (with_reducible refine Kd.C_drew ?_))); (case side2 => exact HC0.out); rintro e w29 ⟨v277, rfl, ho0, hb⟩; refine ⟨_, rfl, ?_⟩; have n0_ := Aside0.mk (Kd.R_elder' (by (with_reducible repeat (first | apply Kd.R_alloc | apply Kd.R_drewN | apply Kd.R_drew)); exact HO274.out) (Kd.R_base ho0) hb); have n1_ := Aside0.mk (Kd.R_lower (Kd.R_new' ho0 (Kd.R_lt (by (with_reducible repeat (first | apply Kd.R_alloc | apply Kd.R_drewN | apply Kd.R_drew)); exact HO274.out))) (below_size (by repeat (first | (with_reducible first | exact HB.out | apply below_alloc | apply pw_below_drewN | apply below_drew1) | exact HB.out)))); have n2_ := Aside0.mk (below_step (by repeat (first | (with_reducible first | exact HB.out | apply below_alloc | apply pw_below_drewN | apply below_drew1) | exact HB.out)) hb); clear HO274; clear HB; have HO274 := n0_; have HO278 := n1_; have HB := n2_; clear n0_ n1_ n2_; (try clear hb); (try clear hb2); (try clear hk); (try clear hi); (try clear ho0); obtain ⟨Ao30, co30, eo30⟩ := Kd.R_slice HO274.out; subst eo30; obtain ⟨Ao31, co31, eo31⟩ := Kd.R_slice HO278.out; subst eo31) | ((with_reducible refine gate_callee (f := 13) rfl ?_); refine goesL_ (some 42) rfl rfl Try.func13 (by kernel_rfl) rfl #[.slice Ao30 t271.length co30, .slice Ao31 t275.length co31] rfl (by (try simp only [List.map_toArray, List.map_cons, List.map_nil]); first | done | rfl | (simp only [List.length_drop, List.length_take]; rfl)) ?_; (with_reducible refine (ravelinref6_Same.calls kj7 _ _ t271 _ _ t275 true _ ?side1 ?side2 ?side3 ?side4 A17.out).mono ?_); (case side1 => repeat (first | exact (Kd.R_reads' HO274.out).2.2 | (with_reducible refine Kd.C_alloc ?_ _) | (with_reducible refine Kd.C_drewN ?_ _) | (with_reducible refine Kd.C_drew ?_))); (case side2 => exact (Kd.R_reads' HO274.out).2.1); (case side3 => repeat (first | exact (Kd.R_reads' HO278.out).2.2 | (with_reducible refine Kd.C_alloc ?_ _) | (with_reducible refine Kd.C_drewN ?_ _) | (with_reducible refine Kd.C_drew ?_))); (case side4 => exact (Kd.R_reads' HO278.out).2.1); rintro e w' ⟨rfl, ⟨nd, rfl⟩⟩; refine ⟨_, rfl, ?_⟩) | (go_at_call 14; (with_reducible refine (merge_Visible.calls kj7 _ _ l1 a2 t280 _ ?side1 ?side2 A21.out).mono ?_); (case side1 => repeat (first | exact (Kd.C_below HR1.out (by repeat (first | (with_reducible first | exact HB.out | apply below_alloc | apply pw_below_drewN | apply below_drew1) | exact HB.out))) | (with_reducible refine Kd.C_alloc ?_ _) | (with_reducible refine Kd.C_drewN ?_ _) | (with_reducible refine Kd.C_drew ?_))); (case side2 => exact HC1.out); rintro e w32 ⟨v281, rfl, ho0, hb⟩; have n0_ := Aside0.mk (Kd.R_elder' (by (with_reducible repeat (first | apply Kd.R_alloc | apply Kd.R_drewN | apply Kd.R_drew)); exact HO274.out) (Kd.R_base ho0) hb); have n1_ := Aside0.mk (Kd.R_elder' (by (with_reducible repeat (first | apply Kd.R_alloc | apply Kd.R_drewN | apply Kd.R_drew)); exact HO278.out) (Kd.R_base ho0) hb); have n2_ := Aside0.mk (Kd.R_lower (Kd.R_new' (Kd.R_new' ho0 (Kd.R_lt (by (with_reducible repeat (first | apply Kd.R_alloc | apply Kd.R_drewN | apply Kd.R_drew)); exact HO274.out))) (Kd.R_lt (by (with_reducible repeat (first | apply Kd.R_alloc | apply Kd.R_drewN | apply Kd.R_drew)); exact HO278.out))) (below_size (by repeat (first | (with_reducible first | exact HB.out | apply below_alloc | apply pw_below_drewN | apply below_drew1) | exact HB.out)))); have n3_ := Aside0.mk (below_step (by repeat (first | (with_reducible first | exact HB.out | apply below_alloc | apply pw_below_drewN | apply below_drew1) | exact HB.out)) hb); clear HO274; clear HO278; clear HB; have HO274 := n0_; have HO278 := n1_; have HO282 := n2_; have HB := n3_; clear n0_ n1_ n2_ n3_; (try clear hb); (try clear hb2); (try clear hk); (try clear hi); (try clear ho0)) | (go_at_call 15; (with_reducible refine (ravelinref6_Visible.calls kj7 _ _ l1 a2 t283 _ ?side1 ?side2 A22.out).mono ?_); (case side1 => repeat (first | exact (Kd.C_below HR1.out HB.out) | (with_reducible refine Kd.C_alloc ?_ _) | (with_reducible refine Kd.C_drewN ?_ _) | (with_reducible refine Kd.C_drew ?_))); (case side2 => exact HC1.out); rintro e w33 ⟨v284, rfl, ho0, hb⟩; have n0_ := Aside0.mk (Kd.R_elder' (by (with_reducible repeat (first | apply Kd.R_alloc | apply Kd.R_drewN | apply Kd.R_drew)); exact HO274.out) (Kd.R_base ho0) hb); have n1_ := Aside0.mk (Kd.R_elder' (by (with_reducible repeat (first | apply Kd.R_alloc | apply Kd.R_drewN | apply Kd.R_drew)); exact HO278.out) (Kd.R_base ho0) hb); have n2_ := Aside0.mk (Kd.R_elder' (by (with_reducible repeat (first | apply Kd.R_alloc | apply Kd.R_drewN | apply Kd.R_drew)); exact HO282.out) (Kd.R_base ho0) hb); have n3_ := Aside0.mk (Kd.R_lower (Kd.R_new' (Kd.R_new' (Kd.R_new' ho0 (Kd.R_lt (by (with_reducible repeat (first | apply Kd.R_alloc | apply Kd.R_drewN | apply Kd.R_drew)); exact HO274.out))) (Kd.R_lt (by (with_reducible repeat (first | apply Kd.R_alloc | apply Kd.R_drewN | apply Kd.R_drew)); exact HO278.out))) (Kd.R_lt (by (with_reducible repeat (first | apply Kd.R_alloc | apply Kd.R_drewN | apply Kd.R_drew)); exact HO282.out))) (below_size (by repeat (first | (with_reducible first | exact HB.out | apply below_alloc | apply pw_below_drewN | apply below_drew1) | exact HB.out)))); have n4_ := Aside0.mk (below_step (by repeat (first | (with_reducible first | exact HB.out | apply below_alloc | apply pw_below_drewN | apply below_drew1) | exact HB.out)) hb); clear HO274; clear HO278; clear HO282; clear HB; have HO274 := n0_; have HO278 := n1_; have HO282 := n2_; have HO285 := n3_; have HB := n4_; clear n0_ n1_ n2_ n3_ n4_; (try clear hb); (try clear hb2); (try clear hk); (try clear hi); (try clear ho0); obtain ⟨Ao34, co34, eo34⟩ := Kd.R_slice HO282.out; subst eo34; obtain ⟨Ao35, co35, eo35⟩ := Kd.R_slice HO285.out; subst eo35) | (go_at_call 13; (with_reducible refine (ravelinref6_Same.calls kj7 _ _ t280 _ _ t283 true _ ?side1 ?side2 ?side3 ?side4 A23.out).mono ?_); (case side1 => repeat (first | exact (Kd.R_reads' HO282.out).2.2 | (with_reducible refine Kd.C_alloc ?_ _) | (with_reducible refine Kd.C_drewN ?_ _) | (with_reducible refine Kd.C_drew ?_))); (case side2 => exact (Kd.R_reads' HO282.out).2.1); (case side3 => repeat (first | exact (Kd.R_reads' HO285.out).2.2 | (with_reducible refine Kd.C_alloc ?_ _) | (with_reducible refine Kd.C_drewN ?_ _) | (with_reducible refine Kd.C_drew ?_))); (case side4 => exact (Kd.R_reads' HO285.out).2.1); rintro e w' ⟨rfl, ⟨nd, rfl⟩⟩) | (go_at_call 16; (with_reducible refine (merge_Pack.calls kj7 _ _ l1 _ _ l3 a4 t287 _ ?side1 ?side2 ?side3 ?side4 A25.out).mono ?_); (case side1 => repeat (first | exact (Kd.C_below HR1.out (by repeat (first | (with_reducible first | exact HB.out | apply below_alloc | apply pw_below_drewN | apply below_drew1) | exact HB.out))) | (with_reducible refine Kd.C_alloc ?_ _) | (with_reducible refine Kd.C_drewN ?_ _) | (with_reducible refine Kd.C_drew ?_))); (case side2 => exact HC1.out); (case side3 => repeat (first | exact (Kd.C_below HR3.out (by repeat (first | (with_reducible first | exact HB.out | apply below_alloc | apply pw_below_drewN | apply below_drew1) | exact HB.out))) | (with_reducible refine Kd.C_alloc ?_ _) | (with_reducible refine Kd.C_drewN ?_ _) | (with_reducible refine Kd.C_drew ?_))); (case side4 => exact HC3.out); rintro e w36 ⟨v288, rfl, ho0, hb⟩; have n0_ := Aside0.mk (Kd.R_elder' (by (with_reducible repeat (first | apply Kd.R_alloc | apply Kd.R_drewN | apply Kd.R_drew)); exact HO274.out) (Kd.R_base ho0) hb); have n1_ := Aside0.mk (Kd.R_elder' (by (with_reducible repeat (first | apply Kd.R_alloc | apply Kd.R_drewN | apply Kd.R_drew)); exact HO278.out) (Kd.R_base ho0) hb); have n2_ := Aside0.mk (Kd.R_elder' (by (with_reducible repeat (first | apply Kd.R_alloc | apply Kd.R_drewN | apply Kd.R_drew)); exact HO282.out) (Kd.R_base ho0) hb); have n3_ := Aside0.mk (Kd.R_elder' (by (with_reducible repeat (first | apply Kd.R_alloc | apply Kd.R_drewN | apply Kd.R_drew)); exact HO285.out) (Kd.R_base ho0) hb); have n4_ := Aside0.mk (Kd.R_lower (Kd.R_new' (Kd.R_new' (Kd.R_new' (Kd.R_new' ho0 (Kd.R_lt (by (with_reducible repeat (first | apply Kd.R_alloc | apply Kd.R_drewN | apply Kd.R_drew)); exact HO274.out))) (Kd.R_lt (by (with_reducible repeat (first | apply Kd.R_alloc | apply Kd.R_drewN | apply Kd.R_drew)); exact HO278.out))) (Kd.R_lt (by (with_reducible repeat (first | apply Kd.R_alloc | apply Kd.R_drewN | apply Kd.R_drew)); exact HO282.out))) (Kd.R_lt (by (with_reducible repeat (first | apply Kd.R_alloc | apply Kd.R_drewN | apply Kd.R_drew)); exact HO285.out))) (below_size (by repeat (first | (with_reducible first | exact HB.out | apply below_alloc | apply pw_below_drewN | apply below_drew1) | exact HB.out)))); have n5_ := Aside0.mk (below_step (by repeat (first | (with_reducible first | exact HB.out | apply below_alloc | apply pw_below_drewN | apply below_drew1) | exact HB.out)) hb); clear HO274; clear HO278; clear HO282; clear HO285; clear HB; have HO274 := n0_; have HO278 := n1_; have HO282 := n2_; have HO285 := n3_; have HO289 := n4_; have HB := n5_; clear n0_ n1_ n2_ n3_ n4_ n5_; (try clear hb); (try clear hb2); (try clear hk); (try clear hi); (try clear ho0)) | (go_at_call 17; (with_reducible refine (ravelinref6_Pack.calls kj7 _ _ l1 _ _ l3 a4 t290 _ ?side1 ?side2 ?side3 ?side4 A26.out).mono ?_); (case side1 => repeat (first | exact (Kd.C_below HR1.out HB.out) | (with_reducible refine Kd.C_alloc ?_ _) | (with_reducible refine Kd.C_drewN ?_ _) | (with_reducible refine Kd.C_drew ?_))); (case side2 => exact HC1.out); (case side3 => repeat (first | exact (Kd.C_below HR3.out HB.out) | (with_reducible refine Kd.C_alloc ?_ _) | (with_reducible refine Kd.C_drewN ?_ _) | (with_reducible refine Kd.C_drew ?_))); (case side4 => exact HC3.out); rintro e w37 ⟨v291, rfl, ho0, hb⟩; have n0_ := Aside0.mk (Kd.R_elder' (by (with_reducible repeat (first | apply Kd.R_alloc | apply Kd.R_drewN | apply Kd.R_drew)); exact HO274.out) (Kd.R_base ho0) hb); have n1_ := Aside0.mk (Kd.R_elder' (by (with_reducible repeat (first | apply Kd.R_alloc | apply Kd.R_drewN | apply Kd.R_drew)); exact HO278.out) (Kd.R_base ho0) hb); have n2_ := Aside0.mk (Kd.R_elder' (by (with_reducible repeat (first | apply Kd.R_alloc | apply Kd.R_drewN | apply Kd.R_drew)); exact HO282.out) (Kd.R_base ho0) hb); have n3_ := Aside0.mk (Kd.R_elder' (by (with_reducible repeat (first | apply Kd.R_alloc | apply Kd.R_drewN | apply Kd.R_drew)); exact HO285.out) (Kd.R_base ho0) hb); have n4_ := Aside0.mk (Kd.R_elder' (by (with_reducible repeat (first | apply Kd.R_alloc | apply Kd.R_drewN | apply Kd.R_drew)); exact HO289.out) (Kd.R_base ho0) hb); have n5_ := Aside0.mk (Kd.R_lower (Kd.R_new' (Kd.R_new' (Kd.R_new' (Kd.R_new' (Kd.R_new' ho0 (Kd.R_lt (by (with_reducible repeat (first | apply Kd.R_alloc | apply Kd.R_drewN | apply Kd.R_drew)); exact HO274.out))) (Kd.R_lt (by (with_reducible repeat (first | apply Kd.R_alloc | apply Kd.R_drewN | apply Kd.R_drew)); exact HO278.out))) (Kd.R_lt (by (with_reducible repeat (first | apply Kd.R_alloc | apply Kd.R_drewN | apply Kd.R_drew)); exact HO282.out))) (Kd.R_lt (by (with_reducible repeat (first | apply Kd.R_alloc | apply Kd.R_drewN | apply Kd.R_drew)); exact HO285.out))) (Kd.R_lt (by (with_reducible repeat (first | apply Kd.R_alloc | apply Kd.R_drewN | apply Kd.R_drew)); exact HO289.out))) (below_size (by repeat (first | (with_reducible first | exact HB.out | apply below_alloc | apply pw_below_drewN | apply below_drew1) | exact HB.out)))); have n6_ := Aside0.mk (below_step (by repeat (first | (with_reducible first | exact HB.out | apply below_alloc | apply pw_below_drewN | apply below_drew1) | exact HB.out)) hb); clear HO274; clear HO278; clear HO282; clear HO285; clear HO289; clear HB; have HO274 := n0_; have HO278 := n1_; have HO282 := n2_; have HO285 := n3_; have HO289 := n4_; have HO292 := n5_; have HB := n6_; clear n0_ n1_ n2_ n3_ n4_ n5_ n6_; (try clear hb); (try clear hb2); (try clear hk); (try clear hi); (try clear ho0); obtain ⟨Ao38, co38, eo38⟩ := Kd.R_slice HO289.out; subst eo38; obtain ⟨Ao39, co39, eo39⟩ := Kd.R_slice HO292.out; subst eo39) | (go_at_call 13; (with_reducible refine (ravelinref6_Same.calls kj7 _ _ t287 _ _ t290 t293 _ ?side1 ?side2 ?side3 ?side4 A27.out).mono ?_); (case side1 => repeat (first | exact (Kd.R_reads' HO289.out).2.2 | (with_reducible refine Kd.C_alloc ?_ _) | (with_reducible refine Kd.C_drewN ?_ _) | (with_reducible refine Kd.C_drew ?_))); (case side2 => exact (Kd.R_reads' HO289.out).2.1); (case side3 => repeat (first | exact (Kd.R_reads' HO292.out).2.2 | (with_reducible refine Kd.C_alloc ?_ _) | (with_reducible refine Kd.C_drewN ?_ _) | (with_reducible refine Kd.C_drew ?_))); (case side4 => exact (Kd.R_reads' HO292.out).2.1); rintro e w' ⟨rfl, ⟨nd, rfl⟩⟩))
  go_ret
  exact ⟨by first | rfl | (simp [errW_none, errW_some] <;> rfl) | (simp [*, errW_none, errW_some] <;> rfl), by repeat (first | (with_reducible first | exact HB.out | apply below_alloc | apply pw_below_drewN | apply below_drew1) | exact HB.out)⟩
 rw [if_neg c20] at H
 have c20b0 : (t272 == 0) = false := beq_eq_false_iff_ne.mpr c20
 have c20b1 : (t272 != 0) = true := bne_iff_ne.mpr c20
 by_cases c40 : t272 = 16
 rotate_left
 ·rw [if_neg c40] at H
  have c40b0 : (t272 == 16) = false := beq_eq_false_iff_ne.mpr c40
  have c40b1 : (t272 != 16) = true := bne_iff_ne.mpr c40
  exact absurd ((Option.some.inj H).trans HR_.out) (by decide)
 rw [if_pos c40] at H
 have c40b0 : (t272 == 16) = true := beq_iff_eq.mpr c40
 have c40b1 : (t272 != 16) = false := bne_eq_false_iff_eq.mpr c40
 clear c40
 replace H := Option.bind_eq_some_iff.mp H
 obtain ⟨t294, A410, H⟩ := H
 replace H : ((ravelinref6_Visible.f kj7 l1 a2).bind fun t297 => ((ravelinref6_Same.f kj7 t294 t297).bind fun t300 => (if t300 = true then ((merge_Pack.f kj7 l1 l3 a4).bind fun t301 => ((ravelinref6_Pack.f kj7 l1 l3 a4).bind fun t304 => ((ravelinref6_Same.f kj7 t301 t304).bind fun t307 => (some t307)))) else (some false)))) = some r := H
 have A41 := Aside0.mk A410
 clear A410
 replace H := Option.bind_eq_some_iff.mp H
 obtain ⟨t297, A420, H⟩ := H
 replace H : ((ravelinref6_Same.f kj7 t294 t297).bind fun t300 => (if t300 = true then ((merge_Pack.f kj7 l1 l3 a4).bind fun t301 => ((ravelinref6_Pack.f kj7 l1 l3 a4).bind fun t304 => ((ravelinref6_Same.f kj7 t301 t304).bind fun t307 => (some t307)))) else (some false))) = some r := H
 have A42 := Aside0.mk A420
 clear A420
 replace H := Option.bind_eq_some_iff.mp H
 obtain ⟨t300, A430, H⟩ := H
 replace H : (if t300 = true then ((merge_Pack.f kj7 l1 l3 a4).bind fun t301 => ((ravelinref6_Pack.f kj7 l1 l3 a4).bind fun t304 => ((ravelinref6_Same.f kj7 t301 t304).bind fun t307 => (some t307)))) else (some false)) = some r := H
 have A43 := Aside0.mk A430
 clear A430
 by_cases c44 : t300 = true
 rotate_left
 ·replace c44 := Bool.eq_false_iff.mpr c44
  subst c44
  have H1 : (some false) = some r := by rw [if_neg (show ¬ (false = true) by decide)] at H; exact H
  clear H
  have H := H1
  clear H1
  exact absurd ((Option.some.inj H).trans HR_.out) (by decide)
 subst c44
 have H1 : ((merge_Pack.f kj7 l1 l3 a4).bind fun t301 => ((ravelinref6_Pack.f kj7 l1 l3 a4).bind fun t304 => ((ravelinref6_Same.f kj7 t301 t304).bind fun t307 => (some t307)))) = some r := by rw [if_pos rfl] at H; exact H
 clear H
 have H := H1
 clear H1
 replace H := Option.bind_eq_some_iff.mp H
 obtain ⟨t301, A450, H⟩ := H
 replace H : ((ravelinref6_Pack.f kj7 l1 l3 a4).bind fun t304 => ((ravelinref6_Same.f kj7 t301 t304).bind fun t307 => (some t307))) = some r := H
 have A45 := Aside0.mk A450
 clear A450
 replace H := Option.bind_eq_some_iff.mp H
 obtain ⟨t304, A460, H⟩ := H
 replace H : ((ravelinref6_Same.f kj7 t301 t304).bind fun t307 => (some t307)) = some r := H
 have A46 := Aside0.mk A460
 clear A460
 replace H := Option.bind_eq_some_iff.mp H
 obtain ⟨t307, A470, H⟩ := H
 replace H : (some t307) = some r := H
 have A47 := Aside0.mk A470
 clear A470
 obtain rfl := Option.some.inj H
 go_wp2_with (first | ((with_reducible refine gate_callee (f := 11) rfl ?_); refine goesL_ (some 32) rfl rfl Try.func11 (by kernel_rfl) rfl #[.slice A0 l0.length c0] rfl (by (try simp only [List.map_toArray, List.map_cons, List.map_nil]); first | done | rfl | (simp only [List.length_drop, List.length_take]; rfl)) ?_; (with_reducible refine (merge_Rows.calls kj7 _ _ l0 t271 t272 _ ?side1 ?side2 A15.out).mono ?_); (case side1 => repeat (first | exact (Kd.C_below HR0.out HB.out) | (with_reducible refine Kd.C_alloc ?_ _) | (with_reducible refine Kd.C_drewN ?_ _) | (with_reducible refine Kd.C_drew ?_))); (case side2 => exact HC0.out); rintro e w48 ⟨v273, rfl, ho0, hb⟩; refine ⟨_, rfl, ?_⟩; have n0_ := Aside0.mk (Kd.R_lower ho0 (below_size (by repeat (first | (with_reducible first | exact HB.out | apply below_alloc | apply pw_below_drewN | apply below_drew1) | exact HB.out)))); have n1_ := Aside0.mk (below_step (by repeat (first | (with_reducible first | exact HB.out | apply below_alloc | apply pw_below_drewN | apply below_drew1) | exact HB.out)) hb); clear HB; have HO274 := n0_; have HB := n1_; clear n0_ n1_; (try clear hb); (try clear hb2); (try clear hk); (try clear hi); (try clear ho0)) | ((with_reducible refine gate_callee (f := 12) rfl ?_); refine goesL_ (some 37) rfl rfl Try.func12 (by kernel_rfl) rfl #[.slice A0 l0.length c0] rfl (by (try simp only [List.map_toArray, List.map_cons, List.map_nil]); first | done | rfl | (simp only [List.length_drop, List.length_take]; rfl)) ?_; (with_reducible refine (ravelinref6_Rows.calls kj7 _ _ l0 t275 t276 _ ?side1 ?side2 A16.out).mono ?_); (case side1 => repeat (first | exact (Kd.C_below HR0.out HB.out) | (with_reducible refine Kd.C_alloc ?_ _) | (with_reducible refine Kd.C_drewN ?_ _) | (with_reducible refine Kd.C_drew ?_))); (case side2 => exact HC0.out); rintro e w49 ⟨v277, rfl, ho0, hb⟩; refine ⟨_, rfl, ?_⟩; have n0_ := Aside0.mk (Kd.R_elder' (by (with_reducible repeat (first | apply Kd.R_alloc | apply Kd.R_drewN | apply Kd.R_drew)); exact HO274.out) (Kd.R_base ho0) hb); have n1_ := Aside0.mk (Kd.R_lower (Kd.R_new' ho0 (Kd.R_lt (by (with_reducible repeat (first | apply Kd.R_alloc | apply Kd.R_drewN | apply Kd.R_drew)); exact HO274.out))) (below_size (by repeat (first | (with_reducible first | exact HB.out | apply below_alloc | apply pw_below_drewN | apply below_drew1) | exact HB.out)))); have n2_ := Aside0.mk (below_step (by repeat (first | (with_reducible first | exact HB.out | apply below_alloc | apply pw_below_drewN | apply below_drew1) | exact HB.out)) hb); clear HO274; clear HB; have HO274 := n0_; have HO278 := n1_; have HB := n2_; clear n0_ n1_ n2_; (try clear hb); (try clear hb2); (try clear hk); (try clear hi); (try clear ho0); obtain ⟨Ao50, co50, eo50⟩ := Kd.R_slice HO274.out; subst eo50; obtain ⟨Ao51, co51, eo51⟩ := Kd.R_slice HO278.out; subst eo51) | ((with_reducible refine gate_callee (f := 13) rfl ?_); refine goesL_ (some 42) rfl rfl Try.func13 (by kernel_rfl) rfl #[.slice Ao50 t271.length co50, .slice Ao51 t275.length co51] rfl (by (try simp only [List.map_toArray, List.map_cons, List.map_nil]); first | done | rfl | (simp only [List.length_drop, List.length_take]; rfl)) ?_; (with_reducible refine (ravelinref6_Same.calls kj7 _ _ t271 _ _ t275 true _ ?side1 ?side2 ?side3 ?side4 A17.out).mono ?_); (case side1 => repeat (first | exact (Kd.R_reads' HO274.out).2.2 | (with_reducible refine Kd.C_alloc ?_ _) | (with_reducible refine Kd.C_drewN ?_ _) | (with_reducible refine Kd.C_drew ?_))); (case side2 => exact (Kd.R_reads' HO274.out).2.1); (case side3 => repeat (first | exact (Kd.R_reads' HO278.out).2.2 | (with_reducible refine Kd.C_alloc ?_ _) | (with_reducible refine Kd.C_drewN ?_ _) | (with_reducible refine Kd.C_drew ?_))); (case side4 => exact (Kd.R_reads' HO278.out).2.1); rintro e w' ⟨rfl, ⟨nd, rfl⟩⟩; refine ⟨_, rfl, ?_⟩) | (go_at_call 14; (with_reducible refine (merge_Visible.calls kj7 _ _ l1 a2 t294 _ ?side1 ?side2 A41.out).mono ?_); (case side1 => repeat (first | exact (Kd.C_below HR1.out (by repeat (first | (with_reducible first | exact HB.out | apply below_alloc | apply pw_below_drewN | apply below_drew1) | exact HB.out))) | (with_reducible refine Kd.C_alloc ?_ _) | (with_reducible refine Kd.C_drewN ?_ _) | (with_reducible refine Kd.C_drew ?_))); (case side2 => exact HC1.out); rintro e w52 ⟨v295, rfl, ho0, hb⟩; have n0_ := Aside0.mk (Kd.R_elder' (by (with_reducible repeat (first | apply Kd.R_alloc | apply Kd.R_drewN | apply Kd.R_drew)); exact HO274.out) (Kd.R_base ho0) hb); have n1_ := Aside0.mk (Kd.R_elder' (by (with_reducible repeat (first | apply Kd.R_alloc | apply Kd.R_drewN | apply Kd.R_drew)); exact HO278.out) (Kd.R_base ho0) hb); have n2_ := Aside0.mk (Kd.R_lower (Kd.R_new' (Kd.R_new' ho0 (Kd.R_lt (by (with_reducible repeat (first | apply Kd.R_alloc | apply Kd.R_drewN | apply Kd.R_drew)); exact HO274.out))) (Kd.R_lt (by (with_reducible repeat (first | apply Kd.R_alloc | apply Kd.R_drewN | apply Kd.R_drew)); exact HO278.out))) (below_size (by repeat (first | (with_reducible first | exact HB.out | apply below_alloc | apply pw_below_drewN | apply below_drew1) | exact HB.out)))); have n3_ := Aside0.mk (below_step (by repeat (first | (with_reducible first | exact HB.out | apply below_alloc | apply pw_below_drewN | apply below_drew1) | exact HB.out)) hb); clear HO274; clear HO278; clear HB; have HO274 := n0_; have HO278 := n1_; have HO296 := n2_; have HB := n3_; clear n0_ n1_ n2_ n3_; (try clear hb); (try clear hb2); (try clear hk); (try clear hi); (try clear ho0)) | (go_at_call 15; (with_reducible refine (ravelinref6_Visible.calls kj7 _ _ l1 a2 t297 _ ?side1 ?side2 A42.out).mono ?_); (case side1 => repeat (first | exact (Kd.C_below HR1.out HB.out) | (with_reducible refine Kd.C_alloc ?_ _) | (with_reducible refine Kd.C_drewN ?_ _) | (with_reducible refine Kd.C_drew ?_))); (case side2 => exact HC1.out); rintro e w53 ⟨v298, rfl, ho0, hb⟩; have n0_ := Aside0.mk (Kd.R_elder' (by (with_reducible repeat (first | apply Kd.R_alloc | apply Kd.R_drewN | apply Kd.R_drew)); exact HO274.out) (Kd.R_base ho0) hb); have n1_ := Aside0.mk (Kd.R_elder' (by (with_reducible repeat (first | apply Kd.R_alloc | apply Kd.R_drewN | apply Kd.R_drew)); exact HO278.out) (Kd.R_base ho0) hb); have n2_ := Aside0.mk (Kd.R_elder' (by (with_reducible repeat (first | apply Kd.R_alloc | apply Kd.R_drewN | apply Kd.R_drew)); exact HO296.out) (Kd.R_base ho0) hb); have n3_ := Aside0.mk (Kd.R_lower (Kd.R_new' (Kd.R_new' (Kd.R_new' ho0 (Kd.R_lt (by (with_reducible repeat (first | apply Kd.R_alloc | apply Kd.R_drewN | apply Kd.R_drew)); exact HO274.out))) (Kd.R_lt (by (with_reducible repeat (first | apply Kd.R_alloc | apply Kd.R_drewN | apply Kd.R_drew)); exact HO278.out))) (Kd.R_lt (by (with_reducible repeat (first | apply Kd.R_alloc | apply Kd.R_drewN | apply Kd.R_drew)); exact HO296.out))) (below_size (by repeat (first | (with_reducible first | exact HB.out | apply below_alloc | apply pw_below_drewN | apply below_drew1) | exact HB.out)))); have n4_ := Aside0.mk (below_step (by repeat (first | (with_reducible first | exact HB.out | apply below_alloc | apply pw_below_drewN | apply below_drew1) | exact HB.out)) hb); clear HO274; clear HO278; clear HO296; clear HB; have HO274 := n0_; have HO278 := n1_; have HO296 := n2_; have HO299 := n3_; have HB := n4_; clear n0_ n1_ n2_ n3_ n4_; (try clear hb); (try clear hb2); (try clear hk); (try clear hi); (try clear ho0); obtain ⟨Ao54, co54, eo54⟩ := Kd.R_slice HO296.out; subst eo54; obtain ⟨Ao55, co55, eo55⟩ := Kd.R_slice HO299.out; subst eo55) | (go_at_call 13; (with_reducible refine (ravelinref6_Same.calls kj7 _ _ t294 _ _ t297 true _ ?side1 ?side2 ?side3 ?side4 A43.out).mono ?_); (case side1 => repeat (first | exact (Kd.R_reads' HO296.out).2.2 | (with_reducible refine Kd.C_alloc ?_ _) | (with_reducible refine Kd.C_drewN ?_ _) | (with_reducible refine Kd.C_drew ?_))); (case side2 => exact (Kd.R_reads' HO296.out).2.1); (case side3 => repeat (first | exact (Kd.R_reads' HO299.out).2.2 | (with_reducible refine Kd.C_alloc ?_ _) | (with_reducible refine Kd.C_drewN ?_ _) | (with_reducible refine Kd.C_drew ?_))); (case side4 => exact (Kd.R_reads' HO299.out).2.1); rintro e w' ⟨rfl, ⟨nd, rfl⟩⟩) | (go_at_call 16; (with_reducible refine (merge_Pack.calls kj7 _ _ l1 _ _ l3 a4 t301 _ ?side1 ?side2 ?side3 ?side4 A45.out).mono ?_); (case side1 => repeat (first | exact (Kd.C_below HR1.out (by repeat (first | (with_reducible first | exact HB.out | apply below_alloc | apply pw_below_drewN | apply below_drew1) | exact HB.out))) | (with_reducible refine Kd.C_alloc ?_ _) | (with_reducible refine Kd.C_drewN ?_ _) | (with_reducible refine Kd.C_drew ?_))); (case side2 => exact HC1.out); (case side3 => repeat (first | exact (Kd.C_below HR3.out (by repeat (first | (with_reducible first | exact HB.out | apply below_alloc | apply pw_below_drewN | apply below_drew1) | exact HB.out))) | (with_reducible refine Kd.C_alloc ?_ _) | (with_reducible refine Kd.C_drewN ?_ _) | (with_reducible refine Kd.C_drew ?_))); (case side4 => exact HC3.out); rintro e w56 ⟨v302, rfl, ho0, hb⟩; have n0_ := Aside0.mk (Kd.R_elder' (by (with_reducible repeat (first | apply Kd.R_alloc | apply Kd.R_drewN | apply Kd.R_drew)); exact HO274.out) (Kd.R_base ho0) hb); have n1_ := Aside0.mk (Kd.R_elder' (by (with_reducible repeat (first | apply Kd.R_alloc | apply Kd.R_drewN | apply Kd.R_drew)); exact HO278.out) (Kd.R_base ho0) hb); have n2_ := Aside0.mk (Kd.R_elder' (by (with_reducible repeat (first | apply Kd.R_alloc | apply Kd.R_drewN | apply Kd.R_drew)); exact HO296.out) (Kd.R_base ho0) hb); have n3_ := Aside0.mk (Kd.R_elder' (by (with_reducible repeat (first | apply Kd.R_alloc | apply Kd.R_drewN | apply Kd.R_drew)); exact HO299.out) (Kd.R_base ho0) hb); have n4_ := Aside0.mk (Kd.R_lower (Kd.R_new' (Kd.R_new' (Kd.R_new' (Kd.R_new' ho0 (Kd.R_lt (by (with_reducible repeat (first | apply Kd.R_alloc | apply Kd.R_drewN | apply Kd.R_drew)); exact HO274.out))) (Kd.R_lt (by (with_reducible repeat (first | apply Kd.R_alloc | apply Kd.R_drewN | apply Kd.R_drew)); exact HO278.out))) (Kd.R_lt (by (with_reducible repeat (first | apply Kd.R_alloc | apply Kd.R_drewN | apply Kd.R_drew)); exact HO296.out))) (Kd.R_lt (by (with_reducible repeat (first | apply Kd.R_alloc | apply Kd.R_drewN | apply Kd.R_drew)); exact HO299.out))) (below_size (by repeat (first | (with_reducible first | exact HB.out | apply below_alloc | apply pw_below_drewN | apply below_drew1) | exact HB.out)))); have n5_ := Aside0.mk (below_step (by repeat (first | (with_reducible first | exact HB.out | apply below_alloc | apply pw_below_drewN | apply below_drew1) | exact HB.out)) hb); clear HO274; clear HO278; clear HO296; clear HO299; clear HB; have HO274 := n0_; have HO278 := n1_; have HO296 := n2_; have HO299 := n3_; have HO303 := n4_; have HB := n5_; clear n0_ n1_ n2_ n3_ n4_ n5_; (try clear hb); (try clear hb2); (try clear hk); (try clear hi); (try clear ho0)) | (go_at_call 17; (with_reducible refine (ravelinref6_Pack.calls kj7 _ _ l1 _ _ l3 a4 t304 _ ?side1 ?side2 ?side3 ?side4 A46.out).mono ?_); (case side1 => repeat (first | exact (Kd.C_below HR1.out HB.out) | (with_reducible refine Kd.C_alloc ?_ _) | (with_reducible refine Kd.C_drewN ?_ _) | (with_reducible refine Kd.C_drew ?_))); (case side2 => exact HC1.out); (case side3 => repeat (first | exact (Kd.C_below HR3.out HB.out) | (with_reducible refine Kd.C_alloc ?_ _) | (with_reducible refine Kd.C_drewN ?_ _) | (with_reducible refine Kd.C_drew ?_))); (case side4 => exact HC3.out); rintro e w57 ⟨v305, rfl, ho0, hb⟩; have n0_ := Aside0.mk (Kd.R_elder' (by (with_reducible repeat (first | apply Kd.R_alloc | apply Kd.R_drewN | apply Kd.R_drew)); exact HO274.out) (Kd.R_base ho0) hb); have n1_ := Aside0.mk (Kd.R_elder' (by (with_reducible repeat (first | apply Kd.R_alloc | apply Kd.R_drewN | apply Kd.R_drew)); exact HO278.out) (Kd.R_base ho0) hb); have n2_ := Aside0.mk (Kd.R_elder' (by (with_reducible repeat (first | apply Kd.R_alloc | apply Kd.R_drewN | apply Kd.R_drew)); exact HO296.out) (Kd.R_base ho0) hb); have n3_ := Aside0.mk (Kd.R_elder' (by (with_reducible repeat (first | apply Kd.R_alloc | apply Kd.R_drewN | apply Kd.R_drew)); exact HO299.out) (Kd.R_base ho0) hb); have n4_ := Aside0.mk (Kd.R_elder' (by (with_reducible repeat (first | apply Kd.R_alloc | apply Kd.R_drewN | apply Kd.R_drew)); exact HO303.out) (Kd.R_base ho0) hb); have n5_ := Aside0.mk (Kd.R_lower (Kd.R_new' (Kd.R_new' (Kd.R_new' (Kd.R_new' (Kd.R_new' ho0 (Kd.R_lt (by (with_reducible repeat (first | apply Kd.R_alloc | apply Kd.R_drewN | apply Kd.R_drew)); exact HO274.out))) (Kd.R_lt (by (with_reducible repeat (first | apply Kd.R_alloc | apply Kd.R_drewN | apply Kd.R_drew)); exact HO278.out))) (Kd.R_lt (by (with_reducible repeat (first | apply Kd.R_alloc | apply Kd.R_drewN | apply Kd.R_drew)); exact HO296.out))) (Kd.R_lt (by (with_reducible repeat (first | apply Kd.R_alloc | apply Kd.R_drewN | apply Kd.R_drew)); exact HO299.out))) (Kd.R_lt (by (with_reducible repeat (first | apply Kd.R_alloc | apply Kd.R_drewN | apply Kd.R_drew)); exact HO303.out))) (below_size (by repeat (first | (with_reducible first | exact HB.out | apply below_alloc | apply pw_below_drewN | apply below_drew1) | exact HB.out)))); have n6_ := Aside0.mk (below_step (by repeat (first | (with_reducible first | exact HB.out | apply below_alloc | apply pw_below_drewN | apply below_drew1) | exact HB.out)) hb); clear HO274; clear HO278; clear HO296; clear HO299; clear HO303; clear HB; have HO274 := n0_; have HO278 := n1_; have HO296 := n2_; have HO299 := n3_; have HO303 := n4_; have HO306 := n5_; have HB := n6_; clear n0_ n1_ n2_ n3_ n4_ n5_ n6_; (try clear hb); (try clear hb2); (try clear hk); (try clear hi); (try clear ho0); obtain ⟨Ao58, co58, eo58⟩ := Kd.R_slice HO303.out; subst eo58; obtain ⟨Ao59, co59, eo59⟩ := Kd.R_slice HO306.out; subst eo59) | (go_at_call 13; (with_reducible refine (ravelinref6_Same.calls kj7 _ _ t301 _ _ t304 t307 _ ?side1 ?side2 ?side3 ?side4 A47.out).mono ?_); (case side1 => repeat (first | exact (Kd.R_reads' HO303.out).2.2 | (with_reducible refine Kd.C_alloc ?_ _) | (with_reducible refine Kd.C_drewN ?_ _) | (with_reducible refine Kd.C_drew ?_))); (case side2 => exact (Kd.R_reads' HO303.out).2.1); (case side3 => repeat (first | exact (Kd.R_reads' HO306.out).2.2 | (with_reducible refine Kd.C_alloc ?_ _) | (with_reducible refine Kd.C_drewN ?_ _) | (with_reducible refine Kd.C_drew ?_))); (case side4 => exact (Kd.R_reads' HO306.out).2.1); rintro e w' ⟨rfl, ⟨nd, rfl⟩⟩))
 go_ret
 exact ⟨by first | rfl | (simp [errW_none, errW_some] <;> rfl) | (simp [*, errW_none, errW_some] <;> rfl), by repeat (first | (with_reducible first | exact HB.out | apply below_alloc | apply pw_below_drewN | apply below_drew1) | exact HB.out)⟩
def ravelinlaw11_MergeTells.Pure : Prop := ∀ (l0 : List (List (S39))) (l1 : List (S39)) (a2 : Int) (l3 : List Int) (a4 : Bool), l0.length ≤ 9223372036854775807 → (∀ y_ ∈ l0, (y_.length ≤ 9223372036854775807 ∧ ∀ yy_ ∈ y_, (yy_.f0.size ≤ 9223372036854775807 ∧ (Lit.int .i64 yy_.f1).wf = true ∧ True ∧ yy_.f3.size ≤ 9223372036854775807))) → l1.length ≤ 9223372036854775807 → (∀ y_ ∈ l1, (y_.f0.size ≤ 9223372036854775807 ∧ (Lit.int .i64 y_.f1).wf = true ∧ True ∧ y_.f3.size ≤ 9223372036854775807)) → (Lit.int .i64 a2).wf = true → l3.length ≤ 9223372036854775807 → (∀ y_ ∈ l3, (Lit.int .i64 y_).wf = true) → ∃ k, ravelinlaw11_MergeTells.f k l0 l1 a2 l3 a4 = some true
end Go.Proofs.Ytjcpdbekdimceaa.P
