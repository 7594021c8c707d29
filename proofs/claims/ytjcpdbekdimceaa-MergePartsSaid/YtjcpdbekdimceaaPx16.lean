-- Printed by a changed copy of the kit's printer (wip/tools/ext.py); labels and more
import Derived.Test.YtjcpdbekdimceaaM0
import Derived.Test.YtjcpdbekdimceaaM2
import Derived.Test.YtjcpdbekdimceaaM6
import Derived.Test.YtjcpdbekdimceaaM7
import Derived.Test.YtjcpdbekdimceaaM9
namespace Go.Proofs.Ytjcpdbekdimceaa.P
open Go.RowKit Go.Proofs.YtjcpdbekdimceaaW.PrintWords Go.Proofs.YtjcpdbekdimceaaW.PrintLast Go.Proofs.YtjcpdbekdimceaaW.PrintMore
attribute [local go_sem] max2_int min2_int max_two min_two max_three min_three max_four min_four   -- for this text's walks alone
attribute [local go_sem high] string_leq string_geq string_gtr
set_option linter.unusedVariables false
set_option linter.unusedSimpArgs false

/-! ### ravelinlaw11_MergeParts: function 5 -/
mutual
def ravelinlaw11_MergeParts.j0 : Nat → List (S39) → List Bool → Bool → Option (Bool)
 | 0, _, _, _ => none
 | k + 1, x0, x1, x26 => if x26 = true then (some true) else (ravelinlaw11_MergeParts.l0 k x0 x1 ([] : List (S39)) ([] : List (S39)) 0)
def ravelinlaw11_MergeParts.l0 : Nat → List (S39) → List Bool → List (S39) → List (S39) → Int → Option (Bool)
 | 0, _, _, _, _, _ => none
 | k + 1, x0, x1, x5, x6, x7 => if x7 < (x0.length : Int) then (if x7 < (x1.length : Int) then (if 0 ≤ x7 then (if rdOf false x1 x7 = true then (if x5.length < 2932031007402 then (ravelinlaw11_MergeParts.l0 k x0 x1 (x5 ++ [(⟨(rd_T39 x0 x7).f0, (rd_T39 x0 x7).f1, (rd_T39 x0 x7).f2, (rd_T39 x0 x7).f3⟩ : S39)]) x6 (wrap64 (x7 + 1))) else (none)) else (if x6.length < 2932031007402 then (ravelinlaw11_MergeParts.l0 k x0 x1 x5 (x6 ++ [(⟨(rd_T39 x0 x7).f0, (rd_T39 x0 x7).f1, (rd_T39 x0 x7).f2, (rd_T39 x0 x7).f3⟩ : S39)]) (wrap64 (x7 + 1))) else (none))) else (none)) else (if 0 ≤ x7 then (if x6.length < 2932031007402 then (ravelinlaw11_MergeParts.l0 k x0 x1 x5 (x6 ++ [(⟨(rd_T39 x0 x7).f0, (rd_T39 x0 x7).f1, (rd_T39 x0 x7).f2, (rd_T39 x0 x7).f3⟩ : S39)]) (wrap64 (x7 + 1))) else (none)) else (none))) else ((merge_Rows.f k (([x5, x6] : List (List (S39))))).bind fun bt366 => ((merge_Rows.f k (([x0, x5, x0] : List (List (S39))))).bind fun bt373 => (if bt366.2 = 0 then (if bt373.2 = 0 then ((ravelinref6_Same.f k bt366.1 x0).bind fun t377 => (if t377 = true then ((ravelinref6_Same.f k bt373.1 x0).bind fun t378 => (some t378)) else (some false))) else (some false)) else (some false))))
end
def ravelinlaw11_MergeParts.f (k : Nat) (l0 : List (S39)) (l1 : List Bool) : Option (Bool) := (ravelinlaw11_known.f k).bind fun t347 => (if t347 = true then ((ravelinlaw11_few.f k l0).bind fun t348 => (if t348 = true then (if (l1.length : Int) > 60 then (ravelinlaw11_MergeParts.j0 k l0 l1 true) else ((ravelinref6_Sorted.f k l0).bind fun t349 => (ravelinlaw11_MergeParts.j0 k l0 l1 (!t349)))) else (ravelinlaw11_MergeParts.j0 k l0 l1 true))) else (some false))
theorem ravelinlaw11_MergeParts.mono_l : ∀ k, (∀ y0 y1 y2, LeO (ravelinlaw11_MergeParts.j0 k y0 y1 y2) (ravelinlaw11_MergeParts.j0 (k + 1) y0 y1 y2)) ∧ (∀ y0 y1 y2 y3 y4, LeO (ravelinlaw11_MergeParts.l0 k y0 y1 y2 y3 y4) (ravelinlaw11_MergeParts.l0 (k + 1) y0 y1 y2 y3 y4))
 | 0 => ⟨fun _ _ _ r h => by simp [ravelinlaw11_MergeParts.j0] at h, fun _ _ _ _ _ r h => by simp [ravelinlaw11_MergeParts.l0] at h⟩
 | k + 1 => by
  obtain ⟨ih0, ih1⟩ := ravelinlaw11_MergeParts.mono_l k
  refine ⟨?_, ?_⟩
  ·intro y0 y1 y2
   unfold ravelinlaw11_MergeParts.j0
   repeat' first
   | (with_reducible exact ih0 _ _ _)
   | (with_reducible exact ih1 _ _ _ _ _)
   | (with_reducible exact merge_Rows.mono _ _)
   | (with_reducible exact ravelinlaw11_few.mono _ _)
   | (with_reducible exact ravelinlaw11_known.mono _)
   | (with_reducible exact ravelinref6_Same.mono _ _ _)
   | (with_reducible exact ravelinref6_Sorted.mono _ _)
   | (with_reducible exact LeO.refl _)
   | (with_reducible exact LeO.none _)
   | (with_reducible refine LeO.ite ?_ ?_)
   | (with_reducible refine LeO.bind ?_ (fun _ => ?_))
   | exact ih0 _ _ _
   | exact ih1 _ _ _ _ _
   | exact merge_Rows.mono _ _
   | exact ravelinlaw11_few.mono _ _
   | exact ravelinlaw11_known.mono _
   | exact ravelinref6_Same.mono _ _ _
   | exact ravelinref6_Sorted.mono _ _
   | exact LeO.none _
   | refine LeO.ite ?_ ?_
   | refine LeO.bind ?_ (fun _ => ?_)
  ·intro y0 y1 y2 y3 y4
   unfold ravelinlaw11_MergeParts.l0
   repeat' first
   | (with_reducible exact ih0 _ _ _)
   | (with_reducible exact ih1 _ _ _ _ _)
   | (with_reducible exact merge_Rows.mono _ _)
   | (with_reducible exact ravelinlaw11_few.mono _ _)
   | (with_reducible exact ravelinlaw11_known.mono _)
   | (with_reducible exact ravelinref6_Same.mono _ _ _)
   | (with_reducible exact ravelinref6_Sorted.mono _ _)
   | (with_reducible exact LeO.refl _)
   | (with_reducible exact LeO.none _)
   | (with_reducible refine LeO.ite ?_ ?_)
   | (with_reducible refine LeO.bind ?_ (fun _ => ?_))
   | exact ih0 _ _ _
   | exact ih1 _ _ _ _ _
   | exact merge_Rows.mono _ _
   | exact ravelinlaw11_few.mono _ _
   | exact ravelinlaw11_known.mono _
   | exact ravelinref6_Same.mono _ _ _
   | exact ravelinref6_Sorted.mono _ _
   | exact LeO.none _
   | refine LeO.ite ?_ ?_
   | refine LeO.bind ?_ (fun _ => ?_)
theorem ravelinlaw11_MergeParts.mono : ∀ a0 a1 k, LeO (ravelinlaw11_MergeParts.f k a0 a1) (ravelinlaw11_MergeParts.f (k + 1) a0 a1) := by
 intro a0 a1 k
 obtain ⟨ih0, ih1⟩ := ravelinlaw11_MergeParts.mono_l k
 unfold ravelinlaw11_MergeParts.f
 repeat' first
   | (with_reducible exact ih0 _ _ _)
   | (with_reducible exact ih1 _ _ _ _ _)
   | (with_reducible exact merge_Rows.mono _ _)
   | (with_reducible exact ravelinlaw11_few.mono _ _)
   | (with_reducible exact ravelinlaw11_known.mono _)
   | (with_reducible exact ravelinref6_Same.mono _ _ _)
   | (with_reducible exact ravelinref6_Sorted.mono _ _)
   | (with_reducible exact LeO.refl _)
   | (with_reducible exact LeO.none _)
   | (with_reducible refine LeO.ite ?_ ?_)
   | (with_reducible refine LeO.bind ?_ (fun _ => ?_))
   | exact ih0 _ _ _
   | exact ih1 _ _ _ _ _
   | exact merge_Rows.mono _ _
   | exact ravelinlaw11_few.mono _ _
   | exact ravelinlaw11_known.mono _
   | exact ravelinref6_Same.mono _ _ _
   | exact ravelinref6_Sorted.mono _ _
   | exact LeO.none _
   | refine LeO.ite ?_ ?_
   | refine LeO.bind ?_ (fun _ => ?_)
set_option maxHeartbeats 8000000 in
set_option maxRecDepth 100000 in
theorem ravelinlaw11_MergeParts.calls (k : Nat) (A0 : Option Addr) (c0 : Nat) (l0 : List (S39)) (A1 : Option Addr) (c1 : Nat) (l1 : List Bool) (r : Bool) (w : World) (hr0 : Kd.C k39 w A0 l0.length l0) (hc0 : l0.length ≤ c0) (hr1 : Kd.C Kd.bool w A1 l1.length l1) (hc1 : l1.length ≤ c1) (h : ravelinlaw11_MergeParts.f k l0 l1 = some r) (hr_ : r = true) :
  Calls Try.prog 5 #[.slice A0 l0.length c0, .slice A1 l1.length c1] w fun e w' => e = .returned (.bool r) ∧ Below w.heap.size w w' := by
 have hu39 := Try.underlying39
 have HR0 := Aside0.mk hr0
 have HC0 := Aside0.mk hc0
 clear hr0 hc0
 have HR1 := Aside0.mk hr1
 have HC1 := Aside0.mk hc1
 clear hr1 hc1
 have HB := Aside0.mk (Below.refl w.heap.size w)
 have H : ((ravelinlaw11_known.f k).bind fun t347 => (if t347 = true then ((ravelinlaw11_few.f k l0).bind fun t348 => (if t348 = true then (if (l1.length : Int) > 60 then (ravelinlaw11_MergeParts.j0 k l0 l1 true) else ((ravelinref6_Sorted.f k l0).bind fun t349 => (ravelinlaw11_MergeParts.j0 k l0 l1 (!t349)))) else (ravelinlaw11_MergeParts.j0 k l0 l1 true))) else (some false))) = some r := h
 clear h
 have HR_ := Aside0.mk hr_
 clear hr_
 replace H := Option.bind_eq_some_iff.mp H
 obtain ⟨t347, A30, H⟩ := H
 replace H : (if t347 = true then ((ravelinlaw11_few.f k l0).bind fun t348 => (if t348 = true then (if (l1.length : Int) > 60 then (ravelinlaw11_MergeParts.j0 k l0 l1 true) else ((ravelinref6_Sorted.f k l0).bind fun t349 => (ravelinlaw11_MergeParts.j0 k l0 l1 (!t349)))) else (ravelinlaw11_MergeParts.j0 k l0 l1 true))) else (some false)) = some r := H
 have A3 := Aside0.mk A30
 clear A30
 by_cases c4 : t347 = true
 ·subst c4
  have H1 : ((ravelinlaw11_few.f k l0).bind fun t348 => (if t348 = true then (if (l1.length : Int) > 60 then (ravelinlaw11_MergeParts.j0 k l0 l1 true) else ((ravelinref6_Sorted.f k l0).bind fun t349 => (ravelinlaw11_MergeParts.j0 k l0 l1 (!t349)))) else (ravelinlaw11_MergeParts.j0 k l0 l1 true))) = some r := by rw [if_pos rfl] at H; exact H
  clear H
  have H := H1
  clear H1
  have HC5 := Aside0.mk H
  clear H
  go_enter Try.func5, Try.ntmps5
  go_upto_region 3 with (first | ((with_reducible refine gate_callee (f := 8) rfl ?_); refine goesL_ (some 12) rfl rfl Try.func8 (by kernel_rfl) rfl #[] rfl (by (try simp only [List.map_toArray, List.map_cons, List.map_nil]); first | done | rfl | (simp only [List.length_drop, List.length_take]; rfl)) ?_; (with_reducible refine (ravelinlaw11_known.calls k  true _ A3.out (by first | rfl | assumption | exact of_decide_eq_true (by assumption))).mono ?_); rintro e w6 ⟨rfl, hb⟩; refine ⟨_, rfl, ?_⟩; have n0_ := Aside0.mk (below_step (by repeat (first | (with_reducible first | exact HB.out | apply below_alloc | apply pw_below_drewN | apply below_drew1) | exact HB.out)) hb); clear HB; have HB := n0_; clear n0_; (try clear hb); (try clear hb2); (try clear hk); (try clear hi)))
  (try simp only [Act.put, List.setIfInBounds_toArray, List.set_cons_zero, List.set_cons_succ])
  go_cut [26] (fun v26 wc => ∃ (kq : Nat) (x26_4 : Bool), v26 = .bool x26_4 ∧ Aside0 (ravelinlaw11_MergeParts.j0 kq l0 l1 x26_4 = some r) ∧ Aside0 (kq ≤ k) ∧ Aside0 (Below w.heap.size w wc))
  case first =>
   have H := HC5.out
   clear HC5
   replace H := Option.bind_eq_some_iff.mp H
   obtain ⟨t348, A70, H⟩ := H
   replace H : (if t348 = true then (if (l1.length : Int) > 60 then (ravelinlaw11_MergeParts.j0 k l0 l1 true) else ((ravelinref6_Sorted.f k l0).bind fun t349 => (ravelinlaw11_MergeParts.j0 k l0 l1 (!t349)))) else (ravelinlaw11_MergeParts.j0 k l0 l1 true)) = some r := H
   have A7 := Aside0.mk A70
   clear A70
   by_cases c8 : t348 = true
   ·subst c8
    have H1 : (if (l1.length : Int) > 60 then (ravelinlaw11_MergeParts.j0 k l0 l1 true) else ((ravelinref6_Sorted.f k l0).bind fun t349 => (ravelinlaw11_MergeParts.j0 k l0 l1 (!t349)))) = some r := by rw [if_pos rfl] at H; exact H
    clear H
    have H := H1
    clear H1
    by_cases c9 : (l1.length : Int) > 60
    ·rw [if_pos c9] at H
     have c9b0 : decide (60 < (l1.length : Int)) = true := decide_eq_true c9
     have c9b1 : decide (60 < l1.length) = true := decide_eq_true (by omega)
     clear c9
     (first | rw [c9b0] | (simp only [i64_w, i32_w]; rw [c9b0]) | skip)
     have H' := Aside0.mk H
     clear H
     go_wp2_with (first | ((with_reducible refine gate_callee (f := 10) rfl ?_); refine goesL_ (some 15) rfl rfl Try.func10 (by kernel_rfl) rfl #[.slice A0 l0.length c0] rfl (by (try simp only [List.map_toArray, List.map_cons, List.map_nil]); first | done | rfl | (simp only [List.length_drop, List.length_take]; rfl)) ?_; (with_reducible refine (ravelinlaw11_few.calls k _ _ l0 true _ ?side1 ?side2 A7.out).mono ?_); (case side1 => repeat (first | exact (Kd.C_below HR0.out HB.out) | (with_reducible refine Kd.C_alloc ?_ _) | (with_reducible refine Kd.C_drewN ?_ _) | (with_reducible refine Kd.C_drew ?_))); (case side2 => exact HC0.out); rintro e w' ⟨rfl, ⟨nd, rfl⟩⟩; refine ⟨_, rfl, ?_⟩))
     go_meet
     case rel => exact ⟨_, (true), (by first | rfl | (simp; done) | (simp [*]; done)), H', ⟨by first | omega | exact Nat.le_refl _⟩, ⟨by repeat (first | (with_reducible first | exact HB.out | apply below_alloc | apply pw_below_drewN | apply below_drew1) | exact HB.out)⟩⟩
    ·rw [if_neg c9] at H
     have c9b0 : decide (60 < (l1.length : Int)) = false := decide_eq_false c9
     have c9b1 : decide (60 < l1.length) = false := decide_eq_false (by omega)
     clear c9
     (first | rw [c9b0] | (simp only [i64_w, i32_w]; rw [c9b0]) | skip)
     replace H := Option.bind_eq_some_iff.mp H
     obtain ⟨t349, A100, H⟩ := H
     replace H : (ravelinlaw11_MergeParts.j0 k l0 l1 (!t349)) = some r := H
     have A10 := Aside0.mk A100
     clear A100
     have H' := Aside0.mk H
     clear H
     go_wp2_with (first | ((with_reducible refine gate_callee (f := 10) rfl ?_); refine goesL_ (some 15) rfl rfl Try.func10 (by kernel_rfl) rfl #[.slice A0 l0.length c0] rfl (by (try simp only [List.map_toArray, List.map_cons, List.map_nil]); first | done | rfl | (simp only [List.length_drop, List.length_take]; rfl)) ?_; (with_reducible refine (ravelinlaw11_few.calls k _ _ l0 true _ ?side1 ?side2 A7.out).mono ?_); (case side1 => repeat (first | exact (Kd.C_below HR0.out HB.out) | (with_reducible refine Kd.C_alloc ?_ _) | (with_reducible refine Kd.C_drewN ?_ _) | (with_reducible refine Kd.C_drew ?_))); (case side2 => exact HC0.out); rintro e w' ⟨rfl, ⟨nd, rfl⟩⟩; refine ⟨_, rfl, ?_⟩) | (go_at_call 18; (with_reducible refine (ravelinref6_Sorted.calls k _ _ l0 t349 _ ?side1 ?side2 A10.out).mono ?_); (case side1 => repeat (first | exact (Kd.C_below HR0.out (by repeat (first | (with_reducible first | exact HB.out | apply below_alloc | apply pw_below_drewN | apply below_drew1) | exact HB.out))) | (with_reducible refine Kd.C_alloc ?_ _) | (with_reducible refine Kd.C_drewN ?_ _) | (with_reducible refine Kd.C_drew ?_))); (case side2 => exact HC0.out); rintro e w11 ⟨rfl, hb⟩; have n0_ := Aside0.mk (below_step (by repeat (first | (with_reducible first | exact HB.out | apply below_alloc | apply pw_below_drewN | apply below_drew1) | exact HB.out)) hb); clear HB; have HB := n0_; clear n0_; (try clear hb); (try clear hb2); (try clear hk); (try clear hi)))
     go_meet
     case rel => exact ⟨_, (!t349), (by first | rfl | (simp; done) | (simp [*]; done)), H', ⟨by first | omega | exact Nat.le_refl _⟩, ⟨by repeat (first | (with_reducible first | exact HB.out | apply below_alloc | apply pw_below_drewN | apply below_drew1) | exact HB.out)⟩⟩
   ·replace c8 := Bool.eq_false_iff.mpr c8
    subst c8
    have H1 : (ravelinlaw11_MergeParts.j0 k l0 l1 true) = some r := by rw [if_neg (show ¬ (false = true) by decide)] at H; exact H
    clear H
    have H := H1
    clear H1
    have H' := Aside0.mk H
    clear H
    go_wp2_with (first | ((with_reducible refine gate_callee (f := 10) rfl ?_); refine goesL_ (some 15) rfl rfl Try.func10 (by kernel_rfl) rfl #[.slice A0 l0.length c0] rfl (by (try simp only [List.map_toArray, List.map_cons, List.map_nil]); first | done | rfl | (simp only [List.length_drop, List.length_take]; rfl)) ?_; (with_reducible refine (ravelinlaw11_few.calls k _ _ l0 false _ ?side1 ?side2 A7.out).mono ?_); (case side1 => repeat (first | exact (Kd.C_below HR0.out HB.out) | (with_reducible refine Kd.C_alloc ?_ _) | (with_reducible refine Kd.C_drewN ?_ _) | (with_reducible refine Kd.C_drew ?_))); (case side2 => exact HC0.out); rintro e w' ⟨rfl, ⟨nd, rfl⟩⟩; refine ⟨_, rfl, ?_⟩))
    go_meet
    case rel => exact ⟨_, (true), (by first | rfl | (simp; done) | (simp [*]; done)), H', ⟨by first | omega | exact Nat.le_refl _⟩, ⟨by repeat (first | (with_reducible first | exact HB.out | apply below_alloc | apply pw_below_drewN | apply below_drew1) | exact HB.out)⟩⟩
  case rest =>
   clear HC5
   try clear c1
   try clear p2
   try clear c4
   try clear c5
   try clear c8
   try clear c9
   try clear c9b0
   try clear c9b1
   try clear c10
   obtain ⟨kq, x26_4, rfl, HA, HJ4, HB⟩ := hcut
   cases kq with
   | zero => exact absurd HA.out (by simp [ravelinlaw11_MergeParts.j0])
   | succ kj4 =>
    have H := HA.out
    clear HA
    simp only [ravelinlaw11_MergeParts.j0] at H
    by_cases c12 : x26_4 = true
    ·subst c12
     have H1 : (some true) = some r := by rw [if_pos rfl] at H; exact H
     clear H
     have H := H1
     clear H1
     obtain rfl := Option.some.inj H
     go_wp2
     go_ret
     exact ⟨by first | rfl | (simp [errW_none, errW_some] <;> rfl) | (simp [*, errW_none, errW_some] <;> rfl), by repeat (first | (with_reducible first | exact HB.out | apply below_alloc | apply pw_below_drewN | apply below_drew1) | exact HB.out)⟩
    ·replace c12 := Bool.eq_false_iff.mpr c12
     subst c12
     have H1 : (ravelinlaw11_MergeParts.l0 kj4 l0 l1 ([] : List (S39)) ([] : List (S39)) 0) = some r := by rw [if_neg (show ¬ (false = true) by decide)] at H; exact H
     clear H
     have H := H1
     clear H1
     have H' := Aside0.mk H
     clear H
     go_wp2
     go_loopg [5, 6, 7] kj4 (fun kq v5 v6 v7 w' => ∃ (x5_2 : List (S39)) (x6_2 : List (S39)) (x7_2 : Int), v7 = .int .i64 x7_2 ∧ Aside0 (ravelinlaw11_MergeParts.l0 kq l0 l1 x5_2 x6_2 x7_2 = some r) ∧ Aside0 (kq ≤ kj4) ∧ Aside0 (Kd.R k39 39 w' w.heap.size (fun k_ => some k_ ≠ (v6 : Value).ownBlock) v5 x5_2) ∧ Aside0 (Kd.R k39 39 w' w.heap.size (fun k_ => some k_ ≠ (v5 : Value).ownBlock) v6 x6_2) ∧ Aside0 (Below w.heap.size w w'))
     case atStart => exact ⟨(([] : List (S39))), (([] : List (S39))), (0), (by first | rfl | (simp; done) | (simp [*]; done)), H', ⟨Nat.le_refl _⟩, ⟨by first | exact Kd.R_nil _ _ _ _ _ | exact Kd.N_nil _ _ _ _ _ | exact Kd.V_nil _ _ _ _ _ | exact Kd.Q_nil _ _ _ _ _ | exact Kd.S_nil _ _ _ _ _⟩, ⟨by first | exact Kd.R_nil _ _ _ _ _ | exact Kd.N_nil _ _ _ _ _ | exact Kd.V_nil _ _ _ _ _ | exact Kd.Q_nil _ _ _ _ _ | exact Kd.S_nil _ _ _ _ _⟩, ⟨by repeat (first | (with_reducible first | exact HB.out | apply below_alloc | apply pw_below_drewN | apply below_drew1) | exact HB.out)⟩⟩
     case round =>
      clear H'
      try clear c1
      try clear p2
      try clear c4
      try clear c5
      try clear c8
      try clear c9
      try clear c9b0
      try clear c9b1
      try clear c10
      try clear c12
      try clear p2
      obtain ⟨x5_2, x6_2, x7_2, rfl, HA, HK2, HO_5, HO_6, HB⟩ := hrel
      cases gk with
      | zero => exact absurd HA.out (by simp [ravelinlaw11_MergeParts.l0])
      | succ k2 =>
       have H := HA.out
       clear HA
       simp only [ravelinlaw11_MergeParts.l0] at H
       by_cases c13 : x7_2 < (l0.length : Int)
       ·rw [if_pos c13] at H
        have c13b0 : decide (x7_2 < (l0.length : Int)) = true := decide_eq_true c13
        clear c13
        by_cases c14 : x7_2 < (l1.length : Int)
        ·rw [if_pos c14] at H
         have c14b0 : decide (x7_2 < (l1.length : Int)) = true := decide_eq_true c14
         clear c14
         by_cases c15 : 0 ≤ x7_2
         ·rw [if_pos c15] at H
          have c15b0 : decide (0 ≤ x7_2) = true := decide_eq_true c15
          clear c15
          obtain ⟨bq16, hbq16⟩ : ∃ b_ : Bool, b_ = (rdOf false l1 x7_2) := ⟨_, rfl⟩
          replace H : (if bq16 = true then (if x5_2.length < 2932031007402 then (ravelinlaw11_MergeParts.l0 k2 l0 l1 (x5_2 ++ [(⟨(rd_T39 l0 x7_2).f0, (rd_T39 l0 x7_2).f1, (rd_T39 l0 x7_2).f2, (rd_T39 l0 x7_2).f3⟩ : S39)]) x6_2 (wrap64 (x7_2 + 1))) else (none)) else (if x6_2.length < 2932031007402 then (ravelinlaw11_MergeParts.l0 k2 l0 l1 x5_2 (x6_2 ++ [(⟨(rd_T39 l0 x7_2).f0, (rd_T39 l0 x7_2).f1, (rd_T39 l0 x7_2).f2, (rd_T39 l0 x7_2).f3⟩ : S39)]) (wrap64 (x7_2 + 1))) else (none))) = some r := by rw [← hbq16] at H; exact H
          have Nbq16 := Aside0.mk hbq16
          clear hbq16
          by_cases c17 : bq16 = true
          ·subst c17
           have H1 : (if x5_2.length < 2932031007402 then (ravelinlaw11_MergeParts.l0 k2 l0 l1 (x5_2 ++ [(⟨(rd_T39 l0 x7_2).f0, (rd_T39 l0 x7_2).f1, (rd_T39 l0 x7_2).f2, (rd_T39 l0 x7_2).f3⟩ : S39)]) x6_2 (wrap64 (x7_2 + 1))) else (none)) = some r := by rw [if_pos rfl] at H; exact H
           clear H
           have H := H1
           clear H1
           by_cases c18 : x5_2.length < 2932031007402
           ·rw [if_pos c18] at H
            have LMc18 := Aside0.mk c18
            clear c18
            obtain ⟨y352, hy352⟩ : ∃ y_ : List (S39), y_ = (x5_2 ++ [(⟨(rd_T39 l0 x7_2).f0, (rd_T39 l0 x7_2).f1, (rd_T39 l0 x7_2).f2, (rd_T39 l0 x7_2).f3⟩ : S39)]) := ⟨_, rfl⟩
            replace H : (ravelinlaw11_MergeParts.l0 k2 l0 l1 y352 x6_2 (wrap64 (x7_2 + 1))) = some r := by first | (rw [hy352]; with_reducible exact H) | (have H2_ := (Option.bind_some _ _).symm.trans H; rw [hy352]; with_reducible exact H2_) | (have H2_ := (Option.bind_some _ _).symm.trans H; with_reducible exact H2_) | with_reducible exact H | (rw [hy352]; exact H) | exact H
            have Ny352 := Aside0.mk hy352
            clear hy352
            have H' := Aside0.mk H
            clear H
            have p350 : 0 ≤ (x7_2 : Int) := of_decide_eq_true (by first | (with_reducible assumption) | assumption)
            have q350 : x7_2 < (l1.length : Int) := of_decide_eq_true (by first | (with_reducible assumption) | assumption)
            obtain ⟨ad350, e350, hx350_0⟩ := Kd.at_bool HR1.out x7_2 p350 q350
            (try rw [← Nbq16.out] at hx350_0)
            cases e350
            replace hx350_0 := (HB.out.cell (World.block_lt_of_cell? w _ hx350_0)).trans hx350_0
            replace p350 := eq_true p350
            replace q350 := eq_true q350
            have p351 : 0 ≤ (x7_2 : Int) := of_decide_eq_true (by first | (with_reducible assumption) | assumption)
            have q351 : x7_2 < (l0.length : Int) := of_decide_eq_true (by first | (with_reducible assumption) | assumption)
            obtain ⟨ad351, e351, hx351_0, hx351_1, hx351_2, hx351_3⟩ := at_T39 HR0.out x7_2 p351 q351
            (try rw [← Nbq16.out] at hx351_2)
            cases e351
            replace hx351_0 := (HB.out.cell (World.block_lt_of_cell? w _ hx351_0)).trans hx351_0
            replace hx351_1 := (HB.out.cell (World.block_lt_of_cell? w _ hx351_1)).trans hx351_1
            replace hx351_2 := (HB.out.cell (World.block_lt_of_cell? w _ hx351_2)).trans hx351_2
            replace hx351_3 := (HB.out.cell (World.block_lt_of_cell? w _ hx351_3)).trans hx351_3
            replace p351 := eq_true p351
            replace q351 := eq_true q351
            go_wp2_with (first | ((with_reducible refine gate_builtin (b := .append) (xs := #[.tmp 43, .tmp 48]) rfl ?_); (try (refine gate_guard (by rfl) ?_; dsimp only)); at_builtin; refine Kd.R_append k39 (w0 := w) w.heap.size rfl (.tmp 43) (.tmp 48) 23 39 (.agg #[(.string ⟨#[]⟩), (.int .i64 0), (.bool false), (.string ⟨#[]⟩)]) 48 rfl Try.underlying23 info39 rfl (by decide) (by omega) u5 x5_2 (⟨(rd_T39 l0 x7_2).f0, (rd_T39 l0 x7_2).f1, (rd_T39 l0 x7_2).f2, (rd_T39 l0 x7_2).f3⟩ : S39) [.string ((rd_T39 l0 x7_2).f0), .int .i64 ((rd_T39 l0 x7_2).f1), .bool ((rd_T39 l0 x7_2).f2), .string ((rd_T39 l0 x7_2).f3)] (fun k_ => some k_ ≠ (u6 : Value).ownBlock) (fun _ => False) rfl rfl ?aP (fun _ hk => hk.elim) ?aF ?aO ?aB ?aS ?aL ?_; (case aP => exact k39_mkM _ _ _ (⟨(rd_T39 l0 x7_2).f0, (rd_T39 l0 x7_2).f1, (rd_T39 l0 x7_2).f2, (rd_T39 l0 x7_2).f3⟩ : S39)); (case aB => exact (by repeat (first | (with_reducible first | exact HB.out | apply below_alloc | apply pw_below_drewN | apply below_drew1) | exact HB.out))); (case aF => exact (fun k_ hk => Kd.fresh' (Kd.R_lt (by (with_reducible repeat (first | apply Kd.R_alloc | apply Kd.R_drewN | apply Kd.R_drew)); exact HO_6.out)) k_ hk)); (case aO => exact (by (with_reducible repeat (first | apply Kd.R_alloc | apply Kd.R_drewN | apply Kd.R_drew)); exact HO_5.out)); (case aS => exact (below_size (by repeat (first | (with_reducible first | exact HB.out | apply below_alloc | apply pw_below_drewN | apply below_drew1) | exact HB.out)))); (case aL => have := LMc18.out; omega); intro v353 w19 ho hb hg hat; rw [← Ny352.out] at ho; have n0_ := Aside0.mk (Kd.R_after (ok := (fun _ => True)) (by (with_reducible repeat (first | apply Kd.R_alloc | apply Kd.R_drewN | apply Kd.R_drew)); exact Kd.R_mono HO_6.out (fun _ hk => ⟨trivial, hk⟩)) hg hat); have n1_ := Aside0.mk (hb); have n2_ := Aside0.mk (ho); clear HO_6; clear HB; clear HO_5; have HO_6 := n0_; have HB := n1_; have HO354 := n2_; clear n0_ n1_ n2_; clear ho hb hg hat))
            go_roundg k2
            case measure => have := HJ4.out; have := HK2.out; omega
            case rel => exact ⟨(y352), (x6_2), (wrap64 (x7_2 + 1)), (by first | rfl | (simp; done) | (simp [*]; done)), H', ⟨by have := HJ4.out; have := HK2.out; omega⟩, ⟨by (with_reducible repeat (first | apply Kd.R_alloc | apply Kd.R_drewN | apply Kd.R_drew)); exact HO354.out⟩, ⟨by (with_reducible repeat (first | apply Kd.R_alloc | apply Kd.R_drewN | apply Kd.R_drew)); exact Kd.R_mono HO_6.out (fun _ hk => hk.2)⟩, ⟨by repeat (first | (with_reducible first | exact HB.out | apply below_alloc | apply pw_below_drewN | apply below_drew1) | exact HB.out)⟩⟩
           ·rw [if_neg c18] at H
            exact absurd H (by simp)
          ·replace c17 := Bool.eq_false_iff.mpr c17
           subst c17
           have H1 : (if x6_2.length < 2932031007402 then (ravelinlaw11_MergeParts.l0 k2 l0 l1 x5_2 (x6_2 ++ [(⟨(rd_T39 l0 x7_2).f0, (rd_T39 l0 x7_2).f1, (rd_T39 l0 x7_2).f2, (rd_T39 l0 x7_2).f3⟩ : S39)]) (wrap64 (x7_2 + 1))) else (none)) = some r := by rw [if_neg (show ¬ (false = true) by decide)] at H; exact H
           clear H
           have H := H1
           clear H1
           by_cases c20 : x6_2.length < 2932031007402
           ·rw [if_pos c20] at H
            have LMc20 := Aside0.mk c20
            clear c20
            obtain ⟨y356, hy356⟩ : ∃ y_ : List (S39), y_ = (x6_2 ++ [(⟨(rd_T39 l0 x7_2).f0, (rd_T39 l0 x7_2).f1, (rd_T39 l0 x7_2).f2, (rd_T39 l0 x7_2).f3⟩ : S39)]) := ⟨_, rfl⟩
            replace H : (ravelinlaw11_MergeParts.l0 k2 l0 l1 x5_2 y356 (wrap64 (x7_2 + 1))) = some r := by first | (rw [hy356]; with_reducible exact H) | (have H2_ := (Option.bind_some _ _).symm.trans H; rw [hy356]; with_reducible exact H2_) | (have H2_ := (Option.bind_some _ _).symm.trans H; with_reducible exact H2_) | with_reducible exact H | (rw [hy356]; exact H) | exact H
            have Ny356 := Aside0.mk hy356
            clear hy356
            have H' := Aside0.mk H
            clear H
            have p350 : 0 ≤ (x7_2 : Int) := of_decide_eq_true (by first | (with_reducible assumption) | assumption)
            have q350 : x7_2 < (l1.length : Int) := of_decide_eq_true (by first | (with_reducible assumption) | assumption)
            obtain ⟨ad350, e350, hx350_0⟩ := Kd.at_bool HR1.out x7_2 p350 q350
            (try rw [← Nbq16.out] at hx350_0)
            cases e350
            replace hx350_0 := (HB.out.cell (World.block_lt_of_cell? w _ hx350_0)).trans hx350_0
            replace p350 := eq_true p350
            replace q350 := eq_true q350
            have p355 : 0 ≤ (x7_2 : Int) := of_decide_eq_true (by first | (with_reducible assumption) | assumption)
            have q355 : x7_2 < (l0.length : Int) := of_decide_eq_true (by first | (with_reducible assumption) | assumption)
            obtain ⟨ad355, e355, hx355_0, hx355_1, hx355_2, hx355_3⟩ := at_T39 HR0.out x7_2 p355 q355
            (try rw [← Nbq16.out] at hx355_2)
            cases e355
            replace hx355_0 := (HB.out.cell (World.block_lt_of_cell? w _ hx355_0)).trans hx355_0
            replace hx355_1 := (HB.out.cell (World.block_lt_of_cell? w _ hx355_1)).trans hx355_1
            replace hx355_2 := (HB.out.cell (World.block_lt_of_cell? w _ hx355_2)).trans hx355_2
            replace hx355_3 := (HB.out.cell (World.block_lt_of_cell? w _ hx355_3)).trans hx355_3
            replace p355 := eq_true p355
            replace q355 := eq_true q355
            go_wp2_with (first | ((with_reducible refine gate_builtin (b := .append) (xs := #[.tmp 50, .tmp 55]) rfl ?_); (try (refine gate_guard (by rfl) ?_; dsimp only)); at_builtin; refine Kd.R_append k39 (w0 := w) w.heap.size rfl (.tmp 50) (.tmp 55) 23 39 (.agg #[(.string ⟨#[]⟩), (.int .i64 0), (.bool false), (.string ⟨#[]⟩)]) 48 rfl Try.underlying23 info39 rfl (by decide) (by omega) u6 x6_2 (⟨(rd_T39 l0 x7_2).f0, (rd_T39 l0 x7_2).f1, (rd_T39 l0 x7_2).f2, (rd_T39 l0 x7_2).f3⟩ : S39) [.string ((rd_T39 l0 x7_2).f0), .int .i64 ((rd_T39 l0 x7_2).f1), .bool ((rd_T39 l0 x7_2).f2), .string ((rd_T39 l0 x7_2).f3)] (fun k_ => some k_ ≠ (u5 : Value).ownBlock) (fun _ => False) rfl rfl ?aP (fun _ hk => hk.elim) ?aF ?aO ?aB ?aS ?aL ?_; (case aP => exact k39_mkM _ _ _ (⟨(rd_T39 l0 x7_2).f0, (rd_T39 l0 x7_2).f1, (rd_T39 l0 x7_2).f2, (rd_T39 l0 x7_2).f3⟩ : S39)); (case aB => exact (by repeat (first | (with_reducible first | exact HB.out | apply below_alloc | apply pw_below_drewN | apply below_drew1) | exact HB.out))); (case aF => exact (fun k_ hk => Kd.fresh' (Kd.R_lt (by (with_reducible repeat (first | apply Kd.R_alloc | apply Kd.R_drewN | apply Kd.R_drew)); exact HO_5.out)) k_ hk)); (case aO => exact (by (with_reducible repeat (first | apply Kd.R_alloc | apply Kd.R_drewN | apply Kd.R_drew)); exact HO_6.out)); (case aS => exact (below_size (by repeat (first | (with_reducible first | exact HB.out | apply below_alloc | apply pw_below_drewN | apply below_drew1) | exact HB.out)))); (case aL => have := LMc20.out; omega); intro v357 w21 ho hb hg hat; rw [← Ny356.out] at ho; have n0_ := Aside0.mk (Kd.R_after (ok := (fun _ => True)) (by (with_reducible repeat (first | apply Kd.R_alloc | apply Kd.R_drewN | apply Kd.R_drew)); exact Kd.R_mono HO_5.out (fun _ hk => ⟨trivial, hk⟩)) hg hat); have n1_ := Aside0.mk (hb); have n2_ := Aside0.mk (ho); clear HO_5; clear HB; clear HO_6; have HO_5 := n0_; have HB := n1_; have HO358 := n2_; clear n0_ n1_ n2_; clear ho hb hg hat))
            go_roundg k2
            case measure => have := HJ4.out; have := HK2.out; omega
            case rel => exact ⟨(x5_2), (y356), (wrap64 (x7_2 + 1)), (by first | rfl | (simp; done) | (simp [*]; done)), H', ⟨by have := HJ4.out; have := HK2.out; omega⟩, ⟨by (with_reducible repeat (first | apply Kd.R_alloc | apply Kd.R_drewN | apply Kd.R_drew)); exact Kd.R_mono HO_5.out (fun _ hk => hk.2)⟩, ⟨by (with_reducible repeat (first | apply Kd.R_alloc | apply Kd.R_drewN | apply Kd.R_drew)); exact HO358.out⟩, ⟨by repeat (first | (with_reducible first | exact HB.out | apply below_alloc | apply pw_below_drewN | apply below_drew1) | exact HB.out)⟩⟩
           ·rw [if_neg c20] at H
            exact absurd H (by simp)
         ·rw [if_neg c15] at H
          exact absurd H (by simp)
        ·rw [if_neg c14] at H
         have c14b0 : decide (x7_2 < (l1.length : Int)) = false := decide_eq_false c14
         clear c14
         by_cases c22 : 0 ≤ x7_2
         ·rw [if_pos c22] at H
          have c22b0 : decide (0 ≤ x7_2) = true := decide_eq_true c22
          clear c22
          by_cases c23 : x6_2.length < 2932031007402
          ·rw [if_pos c23] at H
           have LMc23 := Aside0.mk c23
           clear c23
           obtain ⟨y360, hy360⟩ : ∃ y_ : List (S39), y_ = (x6_2 ++ [(⟨(rd_T39 l0 x7_2).f0, (rd_T39 l0 x7_2).f1, (rd_T39 l0 x7_2).f2, (rd_T39 l0 x7_2).f3⟩ : S39)]) := ⟨_, rfl⟩
           replace H : (ravelinlaw11_MergeParts.l0 k2 l0 l1 x5_2 y360 (wrap64 (x7_2 + 1))) = some r := by first | (rw [hy360]; with_reducible exact H) | (have H2_ := (Option.bind_some _ _).symm.trans H; rw [hy360]; with_reducible exact H2_) | (have H2_ := (Option.bind_some _ _).symm.trans H; with_reducible exact H2_) | with_reducible exact H | (rw [hy360]; exact H) | exact H
           have Ny360 := Aside0.mk hy360
           clear hy360
           have H' := Aside0.mk H
           clear H
           have p359 : 0 ≤ (x7_2 : Int) := of_decide_eq_true (by first | (with_reducible assumption) | assumption)
           have q359 : x7_2 < (l0.length : Int) := of_decide_eq_true (by first | (with_reducible assumption) | assumption)
           obtain ⟨ad359, e359, hx359_0, hx359_1, hx359_2, hx359_3⟩ := at_T39 HR0.out x7_2 p359 q359
           cases e359
           replace hx359_0 := (HB.out.cell (World.block_lt_of_cell? w _ hx359_0)).trans hx359_0
           replace hx359_1 := (HB.out.cell (World.block_lt_of_cell? w _ hx359_1)).trans hx359_1
           replace hx359_2 := (HB.out.cell (World.block_lt_of_cell? w _ hx359_2)).trans hx359_2
           replace hx359_3 := (HB.out.cell (World.block_lt_of_cell? w _ hx359_3)).trans hx359_3
           replace p359 := eq_true p359
           replace q359 := eq_true q359
           go_wp2_with (first | ((with_reducible refine gate_builtin (b := .append) (xs := #[.tmp 50, .tmp 55]) rfl ?_); (try (refine gate_guard (by rfl) ?_; dsimp only)); at_builtin; refine Kd.R_append k39 (w0 := w) w.heap.size rfl (.tmp 50) (.tmp 55) 23 39 (.agg #[(.string ⟨#[]⟩), (.int .i64 0), (.bool false), (.string ⟨#[]⟩)]) 48 rfl Try.underlying23 info39 rfl (by decide) (by omega) u6 x6_2 (⟨(rd_T39 l0 x7_2).f0, (rd_T39 l0 x7_2).f1, (rd_T39 l0 x7_2).f2, (rd_T39 l0 x7_2).f3⟩ : S39) [.string ((rd_T39 l0 x7_2).f0), .int .i64 ((rd_T39 l0 x7_2).f1), .bool ((rd_T39 l0 x7_2).f2), .string ((rd_T39 l0 x7_2).f3)] (fun k_ => some k_ ≠ (u5 : Value).ownBlock) (fun _ => False) rfl rfl ?aP (fun _ hk => hk.elim) ?aF ?aO ?aB ?aS ?aL ?_; (case aP => exact k39_mkM _ _ _ (⟨(rd_T39 l0 x7_2).f0, (rd_T39 l0 x7_2).f1, (rd_T39 l0 x7_2).f2, (rd_T39 l0 x7_2).f3⟩ : S39)); (case aB => exact (by repeat (first | (with_reducible first | exact HB.out | apply below_alloc | apply pw_below_drewN | apply below_drew1) | exact HB.out))); (case aF => exact (fun k_ hk => Kd.fresh' (Kd.R_lt (by (with_reducible repeat (first | apply Kd.R_alloc | apply Kd.R_drewN | apply Kd.R_drew)); exact HO_5.out)) k_ hk)); (case aO => exact (by (with_reducible repeat (first | apply Kd.R_alloc | apply Kd.R_drewN | apply Kd.R_drew)); exact HO_6.out)); (case aS => exact (below_size (by repeat (first | (with_reducible first | exact HB.out | apply below_alloc | apply pw_below_drewN | apply below_drew1) | exact HB.out)))); (case aL => have := LMc23.out; omega); intro v361 w24 ho hb hg hat; rw [← Ny360.out] at ho; have n0_ := Aside0.mk (Kd.R_after (ok := (fun _ => True)) (by (with_reducible repeat (first | apply Kd.R_alloc | apply Kd.R_drewN | apply Kd.R_drew)); exact Kd.R_mono HO_5.out (fun _ hk => ⟨trivial, hk⟩)) hg hat); have n1_ := Aside0.mk (hb); have n2_ := Aside0.mk (ho); clear HO_5; clear HB; clear HO_6; have HO_5 := n0_; have HB := n1_; have HO362 := n2_; clear n0_ n1_ n2_; clear ho hb hg hat))
           go_roundg k2
           case measure => have := HJ4.out; have := HK2.out; omega
           case rel => exact ⟨(x5_2), (y360), (wrap64 (x7_2 + 1)), (by first | rfl | (simp; done) | (simp [*]; done)), H', ⟨by have := HJ4.out; have := HK2.out; omega⟩, ⟨by (with_reducible repeat (first | apply Kd.R_alloc | apply Kd.R_drewN | apply Kd.R_drew)); exact Kd.R_mono HO_5.out (fun _ hk => hk.2)⟩, ⟨by (with_reducible repeat (first | apply Kd.R_alloc | apply Kd.R_drewN | apply Kd.R_drew)); exact HO362.out⟩, ⟨by repeat (first | (with_reducible first | exact HB.out | apply below_alloc | apply pw_below_drewN | apply below_drew1) | exact HB.out)⟩⟩
          ·rw [if_neg c23] at H
           exact absurd H (by simp)
         ·rw [if_neg c22] at H
          exact absurd H (by simp)
       ·rw [if_neg c13] at H
        have c13b0 : decide (x7_2 < (l0.length : Int)) = false := decide_eq_false c13
        clear c13
        obtain ⟨y363, hy363⟩ : ∃ y_ : List (List (S39)), y_ = (([x5_2, x6_2] : List (List (S39)))) := ⟨_, rfl⟩
        replace H : ((merge_Rows.f k2 y363).bind fun bt366 => ((merge_Rows.f k2 (([l0, x5_2, l0] : List (List (S39))))).bind fun bt373 => (if bt366.2 = 0 then (if bt373.2 = 0 then ((ravelinref6_Same.f k2 bt366.1 l0).bind fun t377 => (if t377 = true then ((ravelinref6_Same.f k2 bt373.1 l0).bind fun t378 => (some t378)) else (some false))) else (some false)) else (some false)))) = some r := by first | (rw [hy363]; with_reducible exact H) | (have H2_ := (Option.bind_some _ _).symm.trans H; rw [hy363]; with_reducible exact H2_) | (have H2_ := (Option.bind_some _ _).symm.trans H; with_reducible exact H2_) | with_reducible exact H | (rw [hy363]; exact H) | exact H
        have Ny363 := Aside0.mk hy363
        clear hy363
        replace H := Option.bind_eq_some_iff.mp H
        obtain ⟨⟨t366, t367⟩, A250, H⟩ := H
        replace H : ((merge_Rows.f k2 (([l0, x5_2, l0] : List (List (S39))))).bind fun bt373 => (if t367 = 0 then (if bt373.2 = 0 then ((ravelinref6_Same.f k2 t366 l0).bind fun t377 => (if t377 = true then ((ravelinref6_Same.f k2 bt373.1 l0).bind fun t378 => (some t378)) else (some false))) else (some false)) else (some false))) = some r := H
        have A25 := Aside0.mk A250
        clear A250
        obtain ⟨y370, hy370⟩ : ∃ y_ : List (List (S39)), y_ = (([l0, x5_2, l0] : List (List (S39)))) := ⟨_, rfl⟩
        replace H : ((merge_Rows.f k2 y370).bind fun bt373 => (if t367 = 0 then (if bt373.2 = 0 then ((ravelinref6_Same.f k2 t366 l0).bind fun t377 => (if t377 = true then ((ravelinref6_Same.f k2 bt373.1 l0).bind fun t378 => (some t378)) else (some false))) else (some false)) else (some false))) = some r := by first | (rw [hy370]; with_reducible exact H) | (have H2_ := (Option.bind_some _ _).symm.trans H; rw [hy370]; with_reducible exact H2_) | (have H2_ := (Option.bind_some _ _).symm.trans H; with_reducible exact H2_) | with_reducible exact H | (rw [hy370]; exact H) | exact H
        have Ny370 := Aside0.mk hy370
        clear hy370
        replace H := Option.bind_eq_some_iff.mp H
        obtain ⟨⟨t373, t374⟩, A260, H⟩ := H
        replace H : (if t367 = 0 then (if t374 = 0 then ((ravelinref6_Same.f k2 t366 l0).bind fun t377 => (if t377 = true then ((ravelinref6_Same.f k2 t373 l0).bind fun t378 => (some t378)) else (some false))) else (some false)) else (some false)) = some r := H
        have A26 := Aside0.mk A260
        clear A260
        by_cases c27 : t367 = 0
        ·rw [if_pos c27] at H
         have c27b0 : (t367 == 0) = true := beq_iff_eq.mpr c27
         have c27b1 : (t367 != 0) = false := bne_eq_false_iff_eq.mpr c27
         clear c27
         by_cases c28 : t374 = 0
         ·rw [if_pos c28] at H
          have c28b0 : (t374 == 0) = true := beq_iff_eq.mpr c28
          have c28b1 : (t374 != 0) = false := bne_eq_false_iff_eq.mpr c28
          clear c28
          replace H := Option.bind_eq_some_iff.mp H
          obtain ⟨t377, A290, H⟩ := H
          replace H : (if t377 = true then ((ravelinref6_Same.f k2 t373 l0).bind fun t378 => (some t378)) else (some false)) = some r := H
          have A29 := Aside0.mk A290
          clear A290
          by_cases c30 : t377 = true
          ·subst c30
           have H1 : ((ravelinref6_Same.f k2 t373 l0).bind fun t378 => (some t378)) = some r := by rw [if_pos rfl] at H; exact H
           clear H
           have H := H1
           clear H1
           replace H := Option.bind_eq_some_iff.mp H
           obtain ⟨t378, A310, H⟩ := H
           replace H : (some t378) = some r := H
           have A31 := Aside0.mk A310
           clear A310
           obtain rfl := Option.some.inj H
           go_wp2_with (first | ((with_reducible refine gate_dst (N := 60) rfl ?_); (try (refine gate_guard (by rfl) ?_; dsimp only)); obtain ⟨Al1, cl1, el1⟩ := Kd.R_slice HO_5.out; (first | subst el1 | (injection el1 with f1_ f2_ f3_; have f4_ := f1_.symm; have f5_ := f3_.symm; clear f1_ f2_ f3_; subst f4_; subst f5_)); obtain ⟨Al2, cl2, el2⟩ := Kd.R_slice HO_6.out; (first | subst el2 | (injection el2 with f1_ f2_ f3_; have f4_ := f1_.symm; have f5_ := f3_.symm; clear f1_ f2_ f3_; subst f4_; subst f5_)); refine lit_GL _ ?hg (N := 60) ?hd (xs := ([x5_2, x6_2] : List (List (S39)))) (inner := [.slice Al1 x5_2.length cl1, .slice Al2 x6_2.length cl2]) (ok := fun _ => True) ?hr ?hp trivial (Below.refl _ _) (Nat.le_refl _) (by simp) ?_; (case hd => rfl); (case hg => rfl); (case hr => first | (go_simp; done) | (go_simp; rfl)); (case hp => exact (Reps.one (kGL_of (by (with_reducible repeat (first | apply Kd.R_alloc | apply Kd.R_drewN | apply Kd.R_drew)); exact HO_5.out)) (Reps.one (kGL_of (by (with_reducible repeat (first | apply Kd.R_alloc | apply Kd.R_drewN | apply Kd.R_drew)); exact HO_6.out)) (Reps.none _ _)))); intro v364 w32 ho33 hb hg_ hnew_; have HG365 := Aside0.mk hb; clear hg_ hnew_; (first | rw [← Ny363.out] at ho33 | (simp only [Int.reduceToNat] at ho33; rw [← Ny363.out] at ho33)); have n0_ := Aside0.mk (Kd.R_below (by (with_reducible repeat (first | apply Kd.R_alloc | apply Kd.R_drewN | apply Kd.R_drew)); exact HO_5.out) hb); have n1_ := Aside0.mk (Kd.R_below (by (with_reducible repeat (first | apply Kd.R_alloc | apply Kd.R_drewN | apply Kd.R_drew)); exact HO_6.out) hb); have n2_ := Aside0.mk (Kd.S_lower (Kd.S_new' (Kd.S_new' ho33 (Kd.R_lt (by (with_reducible repeat (first | apply Kd.R_alloc | apply Kd.R_drewN | apply Kd.R_drew)); exact HO_5.out))) (Kd.R_lt (by (with_reducible repeat (first | apply Kd.R_alloc | apply Kd.R_drewN | apply Kd.R_drew)); exact HO_6.out))) (below_size (by repeat (first | (with_reducible first | exact HB.out | apply below_alloc | apply pw_below_drewN | apply below_drew1) | exact HB.out)))); have n3_ := Aside0.mk (below_step (by repeat (first | (with_reducible first | exact HB.out | apply below_alloc | apply pw_below_drewN | apply below_drew1) | exact HB.out)) hb); clear HO_5; clear HO_6; clear HB; have HO_5 := n0_; have HO_6 := n1_; have HO365 := n2_; have HB := n3_; clear n0_ n1_ n2_ n3_; clear hb ho33; obtain ⟨Ao34, co34, eo34⟩ := Kd.S_slice HO365.out; subst eo34) | ((with_reducible refine gate_callee (f := 11) rfl ?_); refine goesL_ (some 61) rfl rfl Try.func11 (by kernel_rfl) rfl #[.slice Ao34 y363.length co34] rfl (by (try simp only [List.map_toArray, List.map_cons, List.map_nil]); first | done | rfl | (simp only [List.length_drop, List.length_take]; rfl)) ?_; (with_reducible refine (merge_Rows.calls k2 _ _ y363 t366 t367 _ ?side1 ?side2 A25.out).mono ?_); (case side1 => repeat (first | exact kGL_C (Kd.S_reads' HO365.out).2.2 HG365.out | (with_reducible refine Kd.C_alloc ?_ _) | (with_reducible refine Kd.C_drewN ?_ _) | (with_reducible refine Kd.C_drew ?_))); (case side2 => exact (Kd.S_reads' HO365.out).2.1); rintro e w35 ⟨v368, rfl, ho0, hb⟩; refine ⟨_, rfl, ?_⟩; have n0_ := Aside0.mk (Kd.R_elder' (by (with_reducible repeat (first | apply Kd.R_alloc | apply Kd.R_drewN | apply Kd.R_drew)); exact HO_5.out) (Kd.R_base ho0) hb); have n1_ := Aside0.mk (Kd.R_elder' (by (with_reducible repeat (first | apply Kd.R_alloc | apply Kd.R_drewN | apply Kd.R_drew)); exact HO_6.out) (Kd.R_base ho0) hb); have n2_ := Aside0.mk (Kd.S_elder' (by (with_reducible repeat (first | apply Kd.S_alloc | apply Kd.S_drewN | apply Kd.S_drew)); exact HO365.out) (Kd.R_base ho0) hb); have n3_ := Aside0.mk (Kd.R_lower (Kd.R_new' (Kd.R_new' ho0 (Kd.R_lt (by (with_reducible repeat (first | apply Kd.R_alloc | apply Kd.R_drewN | apply Kd.R_drew)); exact HO_5.out))) (Kd.R_lt (by (with_reducible repeat (first | apply Kd.R_alloc | apply Kd.R_drewN | apply Kd.R_drew)); exact HO_6.out))) (below_size (by repeat (first | (with_reducible first | exact HB.out | apply below_alloc | apply pw_below_drewN | apply below_drew1) | exact HB.out)))); have n4_ := Aside0.mk (below_step (by repeat (first | (with_reducible first | exact HB.out | apply below_alloc | apply pw_below_drewN | apply below_drew1) | exact HB.out)) hb); clear HO_5; clear HO_6; clear HO365; clear HB; have HO_5 := n0_; have HO_6 := n1_; have HO365 := n2_; have HO369 := n3_; have HB := n4_; clear n0_ n1_ n2_ n3_ n4_; (try clear hb); (try clear hb2); (try clear hk); (try clear hi); (try clear ho0)) | ((with_reducible refine gate_dst (N := 68) rfl ?_); (try (refine gate_guard (by rfl) ?_; dsimp only)); obtain ⟨Al3, cl3, el3⟩ := Kd.R_slice HO_5.out; (first | subst el3 | (injection el3 with f1_ f2_ f3_; have f4_ := f1_.symm; have f5_ := f3_.symm; clear f1_ f2_ f3_; subst f4_; subst f5_)); refine lit_GL _ ?hg (N := 68) ?hd (xs := ([l0, x5_2, l0] : List (List (S39)))) (inner := [.slice A0 l0.length c0, .slice Al3 x5_2.length cl3, .slice A0 l0.length c0]) (ok := fun _ => True) ?hr ?hp trivial (Below.refl _ _) (Nat.le_refl _) (by simp) ?_; (case hd => rfl); (case hg => rfl); (case hr => first | (go_simp; done) | (go_simp; rfl)); (case hp => exact (Reps.one (kGL_in HC0.out (Kd.C_below HR0.out (by repeat (first | (with_reducible first | exact HB.out | apply below_alloc | apply pw_below_drewN | apply below_drew1) | exact HB.out)))) (Reps.one (kGL_of (by (with_reducible repeat (first | apply Kd.R_alloc | apply Kd.R_drewN | apply Kd.R_drew)); exact HO_5.out)) (Reps.one (kGL_in HC0.out (Kd.C_below HR0.out (by repeat (first | (with_reducible first | exact HB.out | apply below_alloc | apply pw_below_drewN | apply below_drew1) | exact HB.out)))) (Reps.none _ _))))); intro v371 w36 ho37 hb hg_ hnew_; have HG372 := Aside0.mk hb; clear hg_ hnew_; (first | rw [← Ny370.out] at ho37 | (simp only [Int.reduceToNat] at ho37; rw [← Ny370.out] at ho37)); have n0_ := Aside0.mk (Kd.R_below (by (with_reducible repeat (first | apply Kd.R_alloc | apply Kd.R_drewN | apply Kd.R_drew)); exact HO_5.out) hb); have n1_ := Aside0.mk (Kd.R_below (by (with_reducible repeat (first | apply Kd.R_alloc | apply Kd.R_drewN | apply Kd.R_drew)); exact HO_6.out) hb); have n2_ := Aside0.mk (Kd.S_elder' (by (with_reducible repeat (first | apply Kd.S_alloc | apply Kd.S_drewN | apply Kd.S_drew)); exact HO365.out) (Kd.S_base ho37) hb); have n3_ := Aside0.mk (Kd.R_below (by (with_reducible repeat (first | apply Kd.R_alloc | apply Kd.R_drewN | apply Kd.R_drew)); exact HO369.out) hb); have n4_ := Aside0.mk (Kd.S_lower (Kd.S_new' (Kd.S_new' (Kd.S_new' (Kd.S_new' ho37 (Kd.R_lt (by (with_reducible repeat (first | apply Kd.R_alloc | apply Kd.R_drewN | apply Kd.R_drew)); exact HO_5.out))) (Kd.R_lt (by (with_reducible repeat (first | apply Kd.R_alloc | apply Kd.R_drewN | apply Kd.R_drew)); exact HO_6.out))) (Kd.S_lt (by (with_reducible repeat (first | apply Kd.S_alloc | apply Kd.S_drewN | apply Kd.S_drew)); exact HO365.out))) (Kd.R_lt (by (with_reducible repeat (first | apply Kd.R_alloc | apply Kd.R_drewN | apply Kd.R_drew)); exact HO369.out))) (below_size (by repeat (first | (with_reducible first | exact HB.out | apply below_alloc | apply pw_below_drewN | apply below_drew1) | exact HB.out)))); have n5_ := Aside0.mk (below_step (by repeat (first | (with_reducible first | exact HB.out | apply below_alloc | apply pw_below_drewN | apply below_drew1) | exact HB.out)) hb); clear HO_5; clear HO_6; clear HO365; clear HO369; clear HB; have HO_5 := n0_; have HO_6 := n1_; have HO365 := n2_; have HO369 := n3_; have HO372 := n4_; have HB := n5_; clear n0_ n1_ n2_ n3_ n4_ n5_; clear hb ho37; obtain ⟨Ao38, co38, eo38⟩ := Kd.S_slice HO372.out; subst eo38) | ((with_reducible refine gate_callee (f := 11) rfl ?_); refine goesL_ (some 69) rfl rfl Try.func11 (by kernel_rfl) rfl #[.slice Ao38 y370.length co38] rfl (by (try simp only [List.map_toArray, List.map_cons, List.map_nil]); first | done | rfl | (simp only [List.length_drop, List.length_take]; rfl)) ?_; (with_reducible refine (merge_Rows.calls k2 _ _ y370 t373 t374 _ ?side1 ?side2 A26.out).mono ?_); (case side1 => repeat (first | exact kGL_C (Kd.S_reads' HO372.out).2.2 HG372.out | (with_reducible refine Kd.C_alloc ?_ _) | (with_reducible refine Kd.C_drewN ?_ _) | (with_reducible refine Kd.C_drew ?_))); (case side2 => exact (Kd.S_reads' HO372.out).2.1); rintro e w39 ⟨v375, rfl, ho0, hb⟩; refine ⟨_, rfl, ?_⟩; have n0_ := Aside0.mk (Kd.R_elder' (by (with_reducible repeat (first | apply Kd.R_alloc | apply Kd.R_drewN | apply Kd.R_drew)); exact HO_5.out) (Kd.R_base ho0) hb); have n1_ := Aside0.mk (Kd.R_elder' (by (with_reducible repeat (first | apply Kd.R_alloc | apply Kd.R_drewN | apply Kd.R_drew)); exact HO_6.out) (Kd.R_base ho0) hb); have n2_ := Aside0.mk (Kd.S_elder' (by (with_reducible repeat (first | apply Kd.S_alloc | apply Kd.S_drewN | apply Kd.S_drew)); exact HO365.out) (Kd.R_base ho0) hb); have n3_ := Aside0.mk (Kd.R_elder' (by (with_reducible repeat (first | apply Kd.R_alloc | apply Kd.R_drewN | apply Kd.R_drew)); exact HO369.out) (Kd.R_base ho0) hb); have n4_ := Aside0.mk (Kd.S_elder' (by (with_reducible repeat (first | apply Kd.S_alloc | apply Kd.S_drewN | apply Kd.S_drew)); exact HO372.out) (Kd.R_base ho0) hb); have n5_ := Aside0.mk (Kd.R_lower (Kd.R_new' (Kd.R_new' (Kd.R_new' ho0 (Kd.R_lt (by (with_reducible repeat (first | apply Kd.R_alloc | apply Kd.R_drewN | apply Kd.R_drew)); exact HO_5.out))) (Kd.R_lt (by (with_reducible repeat (first | apply Kd.R_alloc | apply Kd.R_drewN | apply Kd.R_drew)); exact HO_6.out))) (Kd.R_lt (by (with_reducible repeat (first | apply Kd.R_alloc | apply Kd.R_drewN | apply Kd.R_drew)); exact HO369.out))) (below_size (by repeat (first | (with_reducible first | exact HB.out | apply below_alloc | apply pw_below_drewN | apply below_drew1) | exact HB.out)))); have n6_ := Aside0.mk (below_step (by repeat (first | (with_reducible first | exact HB.out | apply below_alloc | apply pw_below_drewN | apply below_drew1) | exact HB.out)) hb); clear HO_5; clear HO_6; clear HO365; clear HO369; clear HO372; clear HB; have HO_5 := n0_; have HO_6 := n1_; have HO365 := n2_; have HO369 := n3_; have HO372 := n4_; have HO376 := n5_; have HB := n6_; clear n0_ n1_ n2_ n3_ n4_ n5_ n6_; (try clear hb); (try clear hb2); (try clear hk); (try clear hi); (try clear ho0); obtain ⟨Ao40, co40, eo40⟩ := Kd.R_slice HO369.out; subst eo40) | (go_at_call 13; (with_reducible refine (ravelinref6_Same.calls k2 _ _ t366 _ _ l0 true _ ?side1 ?side2 ?side3 ?side4 A29.out).mono ?_); (case side1 => repeat (first | exact (Kd.R_reads' HO369.out).2.2 | (with_reducible refine Kd.C_alloc ?_ _) | (with_reducible refine Kd.C_drewN ?_ _) | (with_reducible refine Kd.C_drew ?_))); (case side2 => exact (Kd.R_reads' HO369.out).2.1); (case side3 => repeat (first | exact (Kd.C_below HR0.out HB.out) | (with_reducible refine Kd.C_alloc ?_ _) | (with_reducible refine Kd.C_drewN ?_ _) | (with_reducible refine Kd.C_drew ?_))); (case side4 => exact HC0.out); rintro e w' ⟨rfl, ⟨nd, rfl⟩⟩; obtain ⟨Ao41, co41, eo41⟩ := Kd.R_slice HO376.out; subst eo41) | (go_at_call 13; (with_reducible refine (ravelinref6_Same.calls k2 _ _ t373 _ _ l0 t378 _ ?side1 ?side2 ?side3 ?side4 A31.out).mono ?_); (case side1 => repeat (first | exact (Kd.R_reads' HO376.out).2.2 | (with_reducible refine Kd.C_alloc ?_ _) | (with_reducible refine Kd.C_drewN ?_ _) | (with_reducible refine Kd.C_drew ?_))); (case side2 => exact (Kd.R_reads' HO376.out).2.1); (case side3 => repeat (first | exact (Kd.C_below HR0.out (by repeat (first | (with_reducible first | exact HB.out | apply below_alloc | apply pw_below_drewN | apply below_drew1) | exact HB.out))) | (with_reducible refine Kd.C_alloc ?_ _) | (with_reducible refine Kd.C_drewN ?_ _) | (with_reducible refine Kd.C_drew ?_))); (case side4 => exact HC0.out); rintro e w' ⟨rfl, ⟨nd, rfl⟩⟩))
           go_ret
           exact ⟨by first | rfl | (simp [errW_none, errW_some] <;> rfl) | (simp [*, errW_none, errW_some] <;> rfl), by repeat (first | (with_reducible first | exact HB.out | apply below_alloc | apply pw_below_drewN | apply below_drew1) | exact HB.out)⟩
          ·replace c30 := Bool.eq_false_iff.mpr c30
           subst c30
           have H1 : (some false) = some r := by rw [if_neg (show ¬ (false = true) by decide)] at H; exact H
           clear H
           have H := H1
           clear H1
           exact absurd ((Option.some.inj H).trans HR_.out) (by decide)
         ·rw [if_neg c28] at H
          have c28b0 : (t374 == 0) = false := beq_eq_false_iff_ne.mpr c28
          have c28b1 : (t374 != 0) = true := bne_iff_ne.mpr c28
          exact absurd ((Option.some.inj H).trans HR_.out) (by decide)
        ·rw [if_neg c27] at H
         have c27b0 : (t367 == 0) = false := beq_eq_false_iff_ne.mpr c27
         have c27b1 : (t367 != 0) = true := bne_iff_ne.mpr c27
         exact absurd ((Option.some.inj H).trans HR_.out) (by decide)
 ·replace c4 := Bool.eq_false_iff.mpr c4
  subst c4
  have H1 : (some false) = some r := by rw [if_neg (show ¬ (false = true) by decide)] at H; exact H
  clear H
  have H := H1
  clear H1
  exact absurd ((Option.some.inj H).trans HR_.out) (by decide)
def ravelinlaw11_MergeParts.Pure : Prop := ∀ (l0 : List (S39)) (l1 : List Bool), l0.length ≤ 9223372036854775807 → (∀ y_ ∈ l0, (y_.f0.size ≤ 9223372036854775807 ∧ (Lit.int .i64 y_.f1).wf = true ∧ True ∧ y_.f3.size ≤ 9223372036854775807)) → l1.length ≤ 9223372036854775807 → (∀ y_ ∈ l1, True) → ∃ k, ravelinlaw11_MergeParts.f k l0 l1 = some true

end Go.Proofs.Ytjcpdbekdimceaa.P
