-- Printed by a changed copy of the kit's printer (wip/tools/ext.py); labels and more
import Derived.Test.YtnjbmcjhhadojaaM0
import Derived.Test.YtnjbmcjhhadojaaM1
import Derived.Test.YtnjbmcjhhadojaaM2
import Derived.Test.YtnjbmcjhhadojaaM4
import Derived.Test.YtnjbmcjhhadojaaM5
import Derived.Test.YtnjbmcjhhadojaaM6
import Derived.Test.YtnjbmcjhhadojaaM7
import Derived.Test.YtnjbmcjhhadojaaM8
import Derived.Test.YtnjbmcjhhadojaaM9
import Derived.Test.YtnjbmcjhhadojaaM11
import Derived.Test.YtnjbmcjhhadojaaM12
import Derived.Test.YtnjbmcjhhadojaaM13
namespace Go.Proofs.Ytnjbmcjhhadojaa.P
open Go.RowKit Go.Proofs.YtnjbmcjhhadojaaW.PrintWords Go.Proofs.YtnjbmcjhhadojaaW.PrintLast Go.Proofs.YtnjbmcjhhadojaaW.PrintMore
attribute [local go_sem] max2_int min2_int max_two min_two max_three min_three max_four min_four   -- for this text's walks alone
attribute [local go_sem high] string_leq string_geq string_gtr
set_option linter.unusedVariables false
set_option linter.unusedSimpArgs false

/-! ### ravelinlaw12_BatchTells: function 3 -/
def ravelinlaw12_BatchTells.j0 : Nat → List (S49) → Int → ByteArray → Bool → Option (Bool)
 | 0, _, _, _, _ => none
 | k + 1, x0, x1, x2, x34 => if x34 = true then (some true) else ((batch_Bytes.f k x1 x0).bind fun bt367 => ((ravelinref12_Bytes.f k x1 x0).bind fun bt369 => ((batch_Read.f k x2).bind fun bt371 => ((ravelinref12_Read.f k x2).bind fun bt377 => ((batch_Log.f k x2).bind fun bt383 => ((ravelinref12_Log.f k x2).bind fun bt388 => ((batch_Is.f k x0).bind fun t393 => ((ravelinref12_Is.f k x0).bind fun t394 => (if (t393 == t394) = true then ((batch_Neat.f k x0).bind fun t395 => ((ravelinref12_Neat.f k x0).bind fun t398 => ((ravelinref12_Same.f k t395 t398).bind fun t401 => (if t401 = true then (if bt367.1.toList = bt369.1.toList then (if bt367.2 = bt369.2 then (if bt371.1 = bt377.1 then ((ravelinref12_Same.f k bt371.2.1 bt377.2.1).bind fun t402 => (if t402 = true then (if bt371.2.2.1 = bt377.2.2.1 then (if bt371.2.2.2 = bt377.2.2.2 then ((ravelinref6_Same.f k bt383.1 bt388.1).bind fun t403 => (if t403 = true then (if bt383.2.1 = bt388.2.1 then (if bt383.2.2 = bt388.2.2 then ((batch_Entries.f k x1 x0).bind fun t404 => ((ravelinref12_Entries.f k x1 x0).bind fun t407 => ((ravelinref6_Same.f k t404 t407).bind fun t410 => (some t410)))) else (some false)) else (some false)) else (some false))) else (some false)) else (some false)) else (some false))) else (some false)) else (some false)) else (some false)) else (some false))))) else (some false))))))))))
def ravelinlaw12_BatchTells.f (k : Nat) (l0 : List (S49)) (a1 : Int) (a2 : ByteArray) : Option (Bool) := (ravelinlaw12_known.f k).bind fun t365 => (if t365 = true then ((ravelinlaw12_few.f k l0).bind fun t366 => (if t366 = true then (ravelinlaw12_BatchTells.j0 k l0 a1 a2 (decide ((a2.size : Int) > 1500))) else (ravelinlaw12_BatchTells.j0 k l0 a1 a2 true))) else (some false))
theorem ravelinlaw12_BatchTells.mono_l : ∀ k, (∀ y0 y1 y2 y3, LeO (ravelinlaw12_BatchTells.j0 k y0 y1 y2 y3) (ravelinlaw12_BatchTells.j0 (k + 1) y0 y1 y2 y3))
 | 0 => fun _ _ _ _ r h => by simp [ravelinlaw12_BatchTells.j0] at h
 | k + 1 => by
  have ih0 := ravelinlaw12_BatchTells.mono_l k
  ·intro y0 y1 y2 y3
   unfold ravelinlaw12_BatchTells.j0
   repeat' first
   | (with_reducible exact ih0 _ _ _ _)
   | (with_reducible exact batch_Bytes.mono _ _ _)
   | (with_reducible exact batch_Entries.mono _ _ _)
   | (with_reducible exact batch_Is.mono _ _)
   | (with_reducible exact batch_Log.mono _ _)
   | (with_reducible exact batch_Neat.mono _ _)
   | (with_reducible exact batch_Read.mono _ _)
   | (with_reducible exact ravelinlaw12_few.mono _ _)
   | (with_reducible exact ravelinlaw12_known.mono _)
   | (with_reducible exact ravelinref12_Bytes.mono _ _ _)
   | (with_reducible exact ravelinref12_Entries.mono _ _ _)
   | (with_reducible exact ravelinref12_Is.mono _ _)
   | (with_reducible exact ravelinref12_Log.mono _ _)
   | (with_reducible exact ravelinref12_Neat.mono _ _)
   | (with_reducible exact ravelinref12_Read.mono _ _)
   | (with_reducible exact ravelinref12_Same.mono _ _ _)
   | (with_reducible exact ravelinref6_Same.mono _ _ _)
   | (with_reducible exact LeO.refl _)
   | (with_reducible exact LeO.none _)
   | (with_reducible refine LeO.ite ?_ ?_)
   | (with_reducible refine LeO.bind ?_ (fun _ => ?_))
   | exact ih0 _ _ _ _
   | exact batch_Bytes.mono _ _ _
   | exact batch_Entries.mono _ _ _
   | exact batch_Is.mono _ _
   | exact batch_Log.mono _ _
   | exact batch_Neat.mono _ _
   | exact batch_Read.mono _ _
   | exact ravelinlaw12_few.mono _ _
   | exact ravelinlaw12_known.mono _
   | exact ravelinref12_Bytes.mono _ _ _
   | exact ravelinref12_Entries.mono _ _ _
   | exact ravelinref12_Is.mono _ _
   | exact ravelinref12_Log.mono _ _
   | exact ravelinref12_Neat.mono _ _
   | exact ravelinref12_Read.mono _ _
   | exact ravelinref12_Same.mono _ _ _
   | exact ravelinref6_Same.mono _ _ _
   | exact LeO.none _
   | refine LeO.ite ?_ ?_
   | refine LeO.bind ?_ (fun _ => ?_)
theorem ravelinlaw12_BatchTells.mono : ∀ a0 a1 a2 k, LeO (ravelinlaw12_BatchTells.f k a0 a1 a2) (ravelinlaw12_BatchTells.f (k + 1) a0 a1 a2) := by
 intro a0 a1 a2 k
 have ih0 := ravelinlaw12_BatchTells.mono_l k
 unfold ravelinlaw12_BatchTells.f
 repeat' first
   | (with_reducible exact ih0 _ _ _ _)
   | (with_reducible exact batch_Bytes.mono _ _ _)
   | (with_reducible exact batch_Entries.mono _ _ _)
   | (with_reducible exact batch_Is.mono _ _)
   | (with_reducible exact batch_Log.mono _ _)
   | (with_reducible exact batch_Neat.mono _ _)
   | (with_reducible exact batch_Read.mono _ _)
   | (with_reducible exact ravelinlaw12_few.mono _ _)
   | (with_reducible exact ravelinlaw12_known.mono _)
   | (with_reducible exact ravelinref12_Bytes.mono _ _ _)
   | (with_reducible exact ravelinref12_Entries.mono _ _ _)
   | (with_reducible exact ravelinref12_Is.mono _ _)
   | (with_reducible exact ravelinref12_Log.mono _ _)
   | (with_reducible exact ravelinref12_Neat.mono _ _)
   | (with_reducible exact ravelinref12_Read.mono _ _)
   | (with_reducible exact ravelinref12_Same.mono _ _ _)
   | (with_reducible exact ravelinref6_Same.mono _ _ _)
   | (with_reducible exact LeO.refl _)
   | (with_reducible exact LeO.none _)
   | (with_reducible refine LeO.ite ?_ ?_)
   | (with_reducible refine LeO.bind ?_ (fun _ => ?_))
   | exact ih0 _ _ _ _
   | exact batch_Bytes.mono _ _ _
   | exact batch_Entries.mono _ _ _
   | exact batch_Is.mono _ _
   | exact batch_Log.mono _ _
   | exact batch_Neat.mono _ _
   | exact batch_Read.mono _ _
   | exact ravelinlaw12_few.mono _ _
   | exact ravelinlaw12_known.mono _
   | exact ravelinref12_Bytes.mono _ _ _
   | exact ravelinref12_Entries.mono _ _ _
   | exact ravelinref12_Is.mono _ _
   | exact ravelinref12_Log.mono _ _
   | exact ravelinref12_Neat.mono _ _
   | exact ravelinref12_Read.mono _ _
   | exact ravelinref12_Same.mono _ _ _
   | exact ravelinref6_Same.mono _ _ _
   | exact LeO.none _
   | refine LeO.ite ?_ ?_
   | refine LeO.bind ?_ (fun _ => ?_)
set_option maxHeartbeats 8000000 in
set_option maxRecDepth 100000 in
theorem ravelinlaw12_BatchTells.calls (k : Nat) (A0 : Option Addr) (c0 : Nat) (l0 : List (S49)) (a1 : Int) (a2 : ByteArray) (r : Bool) (w : World) (hr0 : Kd.C k49 w A0 l0.length l0) (hc0 : l0.length ≤ c0) (h : ravelinlaw12_BatchTells.f k l0 a1 a2 = some r) (hr_ : r = true) :
  Calls Try.prog 3 #[.slice A0 l0.length c0, .int .i64 a1, .string a2] w fun e w' => e = .returned (.bool r) ∧ Below w.heap.size w w' := by
 have HR0 := Aside0.mk hr0
 have HC0 := Aside0.mk hc0
 clear hr0 hc0
 have HB := Aside0.mk (Below.refl w.heap.size w)
 have H : ((ravelinlaw12_known.f k).bind fun t365 => (if t365 = true then ((ravelinlaw12_few.f k l0).bind fun t366 => (if t366 = true then (ravelinlaw12_BatchTells.j0 k l0 a1 a2 (decide ((a2.size : Int) > 1500))) else (ravelinlaw12_BatchTells.j0 k l0 a1 a2 true))) else (some false))) = some r := h
 clear h
 have HR_ := Aside0.mk hr_
 clear hr_
 replace H := Option.bind_eq_some_iff.mp H
 obtain ⟨t365, A40, H⟩ := H
 replace H : (if t365 = true then ((ravelinlaw12_few.f k l0).bind fun t366 => (if t366 = true then (ravelinlaw12_BatchTells.j0 k l0 a1 a2 (decide ((a2.size : Int) > 1500))) else (ravelinlaw12_BatchTells.j0 k l0 a1 a2 true))) else (some false)) = some r := H
 have A4 := Aside0.mk A40
 clear A40
 by_cases c5 : t365 = true
 ·subst c5
  have H1 : ((ravelinlaw12_few.f k l0).bind fun t366 => (if t366 = true then (ravelinlaw12_BatchTells.j0 k l0 a1 a2 (decide ((a2.size : Int) > 1500))) else (ravelinlaw12_BatchTells.j0 k l0 a1 a2 true))) = some r := by rw [if_pos rfl] at H; exact H
  clear H
  have H := H1
  clear H1
  have HC6 := Aside0.mk H
  clear H
  go_enter Try.func3, Try.ntmps3
  go_upto_region 3 with (first | ((with_reducible refine gate_callee (f := 7) rfl ?_); refine goesL_ (some 25) rfl rfl Try.func7 (by kernel_rfl) rfl #[] rfl (by (try simp only [List.map_toArray, List.map_cons, List.map_nil]); first | done | rfl | (simp only [List.length_drop, List.length_take]; rfl)) ?_; (with_reducible refine (ravelinlaw12_known.calls k  true _ A4.out (by first | rfl | assumption | exact of_decide_eq_true (by assumption))).mono ?_); rintro e w7 ⟨rfl, hb⟩; refine ⟨_, rfl, ?_⟩; have n0_ := Aside0.mk (below_step (by repeat (first | (with_reducible first | exact HB.out | apply below_alloc | apply pw_below_drewN | apply below_drew1) | exact HB.out)) hb); clear HB; have HB := n0_; clear n0_; (try clear hb); (try clear hb2); (try clear hk); (try clear hi)))
  (try simp only [Act.put, List.setIfInBounds_toArray, List.set_cons_zero, List.set_cons_succ])
  go_cut [34] (fun v34 wc => ∃ (kq : Nat) (x34_5 : Bool), v34 = .bool x34_5 ∧ Aside0 (ravelinlaw12_BatchTells.j0 kq l0 a1 a2 x34_5 = some r) ∧ Aside0 (kq ≤ k) ∧ Aside0 (Below w.heap.size w wc))
  case first =>
   have H := HC6.out
   clear HC6
   replace H := Option.bind_eq_some_iff.mp H
   obtain ⟨t366, A80, H⟩ := H
   replace H : (if t366 = true then (ravelinlaw12_BatchTells.j0 k l0 a1 a2 (decide ((a2.size : Int) > 1500))) else (ravelinlaw12_BatchTells.j0 k l0 a1 a2 true)) = some r := H
   have A8 := Aside0.mk A80
   clear A80
   by_cases c9 : t366 = true
   ·subst c9
    have H1 : (ravelinlaw12_BatchTells.j0 k l0 a1 a2 (decide ((a2.size : Int) > 1500))) = some r := by rw [if_pos rfl] at H; exact H
    clear H
    have H := H1
    clear H1
    have H' := Aside0.mk H
    clear H
    go_wp2_with (first | ((with_reducible refine gate_callee (f := 8) rfl ?_); refine goesL_ (some 28) rfl rfl Try.func8 (by kernel_rfl) rfl #[.slice A0 l0.length c0] rfl (by (try simp only [List.map_toArray, List.map_cons, List.map_nil]); first | done | rfl | (simp only [List.length_drop, List.length_take]; rfl)) ?_; (with_reducible refine (ravelinlaw12_few.calls k _ _ l0 true _ ?side1 ?side2 A8.out).mono ?_); (case side1 => repeat (first | exact (Kd.C_below HR0.out HB.out) | (with_reducible refine Kd.C_alloc ?_ _) | (with_reducible refine Kd.C_drewN ?_ _) | (with_reducible refine Kd.C_drew ?_))); (case side2 => exact HC0.out); rintro e w' ⟨rfl, ⟨nd, rfl⟩⟩; refine ⟨_, rfl, ?_⟩))
    go_meet
    case rel => exact ⟨_, (decide ((a2.size : Int) > 1500)), (by first | rfl | (simp; done) | (simp [*]; done)), H', ⟨by first | omega | exact Nat.le_refl _⟩, ⟨by repeat (first | (with_reducible first | exact HB.out | apply below_alloc | apply pw_below_drewN | apply below_drew1) | exact HB.out)⟩⟩
   ·replace c9 := Bool.eq_false_iff.mpr c9
    subst c9
    have H1 : (ravelinlaw12_BatchTells.j0 k l0 a1 a2 true) = some r := by rw [if_neg (show ¬ (false = true) by decide)] at H; exact H
    clear H
    have H := H1
    clear H1
    have H' := Aside0.mk H
    clear H
    go_wp2_with (first | ((with_reducible refine gate_callee (f := 8) rfl ?_); refine goesL_ (some 28) rfl rfl Try.func8 (by kernel_rfl) rfl #[.slice A0 l0.length c0] rfl (by (try simp only [List.map_toArray, List.map_cons, List.map_nil]); first | done | rfl | (simp only [List.length_drop, List.length_take]; rfl)) ?_; (with_reducible refine (ravelinlaw12_few.calls k _ _ l0 false _ ?side1 ?side2 A8.out).mono ?_); (case side1 => repeat (first | exact (Kd.C_below HR0.out HB.out) | (with_reducible refine Kd.C_alloc ?_ _) | (with_reducible refine Kd.C_drewN ?_ _) | (with_reducible refine Kd.C_drew ?_))); (case side2 => exact HC0.out); rintro e w' ⟨rfl, ⟨nd, rfl⟩⟩; refine ⟨_, rfl, ?_⟩))
    go_meet
    case rel => exact ⟨_, (true), (by first | rfl | (simp; done) | (simp [*]; done)), H', ⟨by first | omega | exact Nat.le_refl _⟩, ⟨by repeat (first | (with_reducible first | exact HB.out | apply below_alloc | apply pw_below_drewN | apply below_drew1) | exact HB.out)⟩⟩
  case rest =>
   clear HC6
   try clear p2
   try clear c3
   try clear c5
   try clear c7
   try clear c8
   try clear c9
   obtain ⟨kq, x34_5, rfl, HA, HJ5, HB⟩ := hcut
   cases kq with
   | zero => exact absurd HA.out (by simp [ravelinlaw12_BatchTells.j0])
   | succ kj5 =>
    have H := HA.out
    clear HA
    simp only [ravelinlaw12_BatchTells.j0] at H
    by_cases c10 : x34_5 = true
    ·subst c10
     have H1 : (some true) = some r := by rw [if_pos rfl] at H; exact H
     clear H
     have H := H1
     clear H1
     obtain rfl := Option.some.inj H
     go_wp2
     go_ret
     exact ⟨by first | rfl | (simp [errW_none, errW_some] <;> rfl) | (simp [*, errW_none, errW_some] <;> rfl), by repeat (first | (with_reducible first | exact HB.out | apply below_alloc | apply pw_below_drewN | apply below_drew1) | exact HB.out)⟩
    ·replace c10 := Bool.eq_false_iff.mpr c10
     subst c10
     have H1 : ((batch_Bytes.f kj5 a1 l0).bind fun bt367 => ((ravelinref12_Bytes.f kj5 a1 l0).bind fun bt369 => ((batch_Read.f kj5 a2).bind fun bt371 => ((ravelinref12_Read.f kj5 a2).bind fun bt377 => ((batch_Log.f kj5 a2).bind fun bt383 => ((ravelinref12_Log.f kj5 a2).bind fun bt388 => ((batch_Is.f kj5 l0).bind fun t393 => ((ravelinref12_Is.f kj5 l0).bind fun t394 => (if (t393 == t394) = true then ((batch_Neat.f kj5 l0).bind fun t395 => ((ravelinref12_Neat.f kj5 l0).bind fun t398 => ((ravelinref12_Same.f kj5 t395 t398).bind fun t401 => (if t401 = true then (if bt367.1.toList = bt369.1.toList then (if bt367.2 = bt369.2 then (if bt371.1 = bt377.1 then ((ravelinref12_Same.f kj5 bt371.2.1 bt377.2.1).bind fun t402 => (if t402 = true then (if bt371.2.2.1 = bt377.2.2.1 then (if bt371.2.2.2 = bt377.2.2.2 then ((ravelinref6_Same.f kj5 bt383.1 bt388.1).bind fun t403 => (if t403 = true then (if bt383.2.1 = bt388.2.1 then (if bt383.2.2 = bt388.2.2 then ((batch_Entries.f kj5 a1 l0).bind fun t404 => ((ravelinref12_Entries.f kj5 a1 l0).bind fun t407 => ((ravelinref6_Same.f kj5 t404 t407).bind fun t410 => (some t410)))) else (some false)) else (some false)) else (some false))) else (some false)) else (some false)) else (some false))) else (some false)) else (some false)) else (some false)) else (some false))))) else (some false)))))))))) = some r := by rw [if_neg (show ¬ (false = true) by decide)] at H; exact H
     clear H
     have H := H1
     clear H1
     replace H := Option.bind_eq_some_iff.mp H
     obtain ⟨⟨t367, t368⟩, A110, H⟩ := H
     replace H : ((ravelinref12_Bytes.f kj5 a1 l0).bind fun bt369 => ((batch_Read.f kj5 a2).bind fun bt371 => ((ravelinref12_Read.f kj5 a2).bind fun bt377 => ((batch_Log.f kj5 a2).bind fun bt383 => ((ravelinref12_Log.f kj5 a2).bind fun bt388 => ((batch_Is.f kj5 l0).bind fun t393 => ((ravelinref12_Is.f kj5 l0).bind fun t394 => (if (t393 == t394) = true then ((batch_Neat.f kj5 l0).bind fun t395 => ((ravelinref12_Neat.f kj5 l0).bind fun t398 => ((ravelinref12_Same.f kj5 t395 t398).bind fun t401 => (if t401 = true then (if t367.toList = bt369.1.toList then (if t368 = bt369.2 then (if bt371.1 = bt377.1 then ((ravelinref12_Same.f kj5 bt371.2.1 bt377.2.1).bind fun t402 => (if t402 = true then (if bt371.2.2.1 = bt377.2.2.1 then (if bt371.2.2.2 = bt377.2.2.2 then ((ravelinref6_Same.f kj5 bt383.1 bt388.1).bind fun t403 => (if t403 = true then (if bt383.2.1 = bt388.2.1 then (if bt383.2.2 = bt388.2.2 then ((batch_Entries.f kj5 a1 l0).bind fun t404 => ((ravelinref12_Entries.f kj5 a1 l0).bind fun t407 => ((ravelinref6_Same.f kj5 t404 t407).bind fun t410 => (some t410)))) else (some false)) else (some false)) else (some false))) else (some false)) else (some false)) else (some false))) else (some false)) else (some false)) else (some false)) else (some false))))) else (some false))))))))) = some r := H
     have A11 := Aside0.mk A110
     clear A110
     replace H := Option.bind_eq_some_iff.mp H
     obtain ⟨⟨t369, t370⟩, A120, H⟩ := H
     replace H : ((batch_Read.f kj5 a2).bind fun bt371 => ((ravelinref12_Read.f kj5 a2).bind fun bt377 => ((batch_Log.f kj5 a2).bind fun bt383 => ((ravelinref12_Log.f kj5 a2).bind fun bt388 => ((batch_Is.f kj5 l0).bind fun t393 => ((ravelinref12_Is.f kj5 l0).bind fun t394 => (if (t393 == t394) = true then ((batch_Neat.f kj5 l0).bind fun t395 => ((ravelinref12_Neat.f kj5 l0).bind fun t398 => ((ravelinref12_Same.f kj5 t395 t398).bind fun t401 => (if t401 = true then (if t367.toList = t369.toList then (if t368 = t370 then (if bt371.1 = bt377.1 then ((ravelinref12_Same.f kj5 bt371.2.1 bt377.2.1).bind fun t402 => (if t402 = true then (if bt371.2.2.1 = bt377.2.2.1 then (if bt371.2.2.2 = bt377.2.2.2 then ((ravelinref6_Same.f kj5 bt383.1 bt388.1).bind fun t403 => (if t403 = true then (if bt383.2.1 = bt388.2.1 then (if bt383.2.2 = bt388.2.2 then ((batch_Entries.f kj5 a1 l0).bind fun t404 => ((ravelinref12_Entries.f kj5 a1 l0).bind fun t407 => ((ravelinref6_Same.f kj5 t404 t407).bind fun t410 => (some t410)))) else (some false)) else (some false)) else (some false))) else (some false)) else (some false)) else (some false))) else (some false)) else (some false)) else (some false)) else (some false))))) else (some false)))))))) = some r := H
     have A12 := Aside0.mk A120
     clear A120
     replace H := Option.bind_eq_some_iff.mp H
     obtain ⟨⟨t371, t372, t373, t374⟩, A130, H⟩ := H
     replace H : ((ravelinref12_Read.f kj5 a2).bind fun bt377 => ((batch_Log.f kj5 a2).bind fun bt383 => ((ravelinref12_Log.f kj5 a2).bind fun bt388 => ((batch_Is.f kj5 l0).bind fun t393 => ((ravelinref12_Is.f kj5 l0).bind fun t394 => (if (t393 == t394) = true then ((batch_Neat.f kj5 l0).bind fun t395 => ((ravelinref12_Neat.f kj5 l0).bind fun t398 => ((ravelinref12_Same.f kj5 t395 t398).bind fun t401 => (if t401 = true then (if t367.toList = t369.toList then (if t368 = t370 then (if t371 = bt377.1 then ((ravelinref12_Same.f kj5 t372 bt377.2.1).bind fun t402 => (if t402 = true then (if t373 = bt377.2.2.1 then (if t374 = bt377.2.2.2 then ((ravelinref6_Same.f kj5 bt383.1 bt388.1).bind fun t403 => (if t403 = true then (if bt383.2.1 = bt388.2.1 then (if bt383.2.2 = bt388.2.2 then ((batch_Entries.f kj5 a1 l0).bind fun t404 => ((ravelinref12_Entries.f kj5 a1 l0).bind fun t407 => ((ravelinref6_Same.f kj5 t404 t407).bind fun t410 => (some t410)))) else (some false)) else (some false)) else (some false))) else (some false)) else (some false)) else (some false))) else (some false)) else (some false)) else (some false)) else (some false))))) else (some false))))))) = some r := H
     have A13 := Aside0.mk A130
     clear A130
     replace H := Option.bind_eq_some_iff.mp H
     obtain ⟨⟨t377, t378, t379, t380⟩, A140, H⟩ := H
     replace H : ((batch_Log.f kj5 a2).bind fun bt383 => ((ravelinref12_Log.f kj5 a2).bind fun bt388 => ((batch_Is.f kj5 l0).bind fun t393 => ((ravelinref12_Is.f kj5 l0).bind fun t394 => (if (t393 == t394) = true then ((batch_Neat.f kj5 l0).bind fun t395 => ((ravelinref12_Neat.f kj5 l0).bind fun t398 => ((ravelinref12_Same.f kj5 t395 t398).bind fun t401 => (if t401 = true then (if t367.toList = t369.toList then (if t368 = t370 then (if t371 = t377 then ((ravelinref12_Same.f kj5 t372 t378).bind fun t402 => (if t402 = true then (if t373 = t379 then (if t374 = t380 then ((ravelinref6_Same.f kj5 bt383.1 bt388.1).bind fun t403 => (if t403 = true then (if bt383.2.1 = bt388.2.1 then (if bt383.2.2 = bt388.2.2 then ((batch_Entries.f kj5 a1 l0).bind fun t404 => ((ravelinref12_Entries.f kj5 a1 l0).bind fun t407 => ((ravelinref6_Same.f kj5 t404 t407).bind fun t410 => (some t410)))) else (some false)) else (some false)) else (some false))) else (some false)) else (some false)) else (some false))) else (some false)) else (some false)) else (some false)) else (some false))))) else (some false)))))) = some r := H
     have A14 := Aside0.mk A140
     clear A140
     replace H := Option.bind_eq_some_iff.mp H
     obtain ⟨⟨t383, t384, t385⟩, A150, H⟩ := H
     replace H : ((ravelinref12_Log.f kj5 a2).bind fun bt388 => ((batch_Is.f kj5 l0).bind fun t393 => ((ravelinref12_Is.f kj5 l0).bind fun t394 => (if (t393 == t394) = true then ((batch_Neat.f kj5 l0).bind fun t395 => ((ravelinref12_Neat.f kj5 l0).bind fun t398 => ((ravelinref12_Same.f kj5 t395 t398).bind fun t401 => (if t401 = true then (if t367.toList = t369.toList then (if t368 = t370 then (if t371 = t377 then ((ravelinref12_Same.f kj5 t372 t378).bind fun t402 => (if t402 = true then (if t373 = t379 then (if t374 = t380 then ((ravelinref6_Same.f kj5 t383 bt388.1).bind fun t403 => (if t403 = true then (if t384 = bt388.2.1 then (if t385 = bt388.2.2 then ((batch_Entries.f kj5 a1 l0).bind fun t404 => ((ravelinref12_Entries.f kj5 a1 l0).bind fun t407 => ((ravelinref6_Same.f kj5 t404 t407).bind fun t410 => (some t410)))) else (some false)) else (some false)) else (some false))) else (some false)) else (some false)) else (some false))) else (some false)) else (some false)) else (some false)) else (some false))))) else (some false))))) = some r := H
     have A15 := Aside0.mk A150
     clear A150
     replace H := Option.bind_eq_some_iff.mp H
     obtain ⟨⟨t388, t389, t390⟩, A160, H⟩ := H
     replace H : ((batch_Is.f kj5 l0).bind fun t393 => ((ravelinref12_Is.f kj5 l0).bind fun t394 => (if (t393 == t394) = true then ((batch_Neat.f kj5 l0).bind fun t395 => ((ravelinref12_Neat.f kj5 l0).bind fun t398 => ((ravelinref12_Same.f kj5 t395 t398).bind fun t401 => (if t401 = true then (if t367.toList = t369.toList then (if t368 = t370 then (if t371 = t377 then ((ravelinref12_Same.f kj5 t372 t378).bind fun t402 => (if t402 = true then (if t373 = t379 then (if t374 = t380 then ((ravelinref6_Same.f kj5 t383 t388).bind fun t403 => (if t403 = true then (if t384 = t389 then (if t385 = t390 then ((batch_Entries.f kj5 a1 l0).bind fun t404 => ((ravelinref12_Entries.f kj5 a1 l0).bind fun t407 => ((ravelinref6_Same.f kj5 t404 t407).bind fun t410 => (some t410)))) else (some false)) else (some false)) else (some false))) else (some false)) else (some false)) else (some false))) else (some false)) else (some false)) else (some false)) else (some false))))) else (some false)))) = some r := H
     have A16 := Aside0.mk A160
     clear A160
     replace H := Option.bind_eq_some_iff.mp H
     obtain ⟨t393, A170, H⟩ := H
     replace H : ((ravelinref12_Is.f kj5 l0).bind fun t394 => (if (t393 == t394) = true then ((batch_Neat.f kj5 l0).bind fun t395 => ((ravelinref12_Neat.f kj5 l0).bind fun t398 => ((ravelinref12_Same.f kj5 t395 t398).bind fun t401 => (if t401 = true then (if t367.toList = t369.toList then (if t368 = t370 then (if t371 = t377 then ((ravelinref12_Same.f kj5 t372 t378).bind fun t402 => (if t402 = true then (if t373 = t379 then (if t374 = t380 then ((ravelinref6_Same.f kj5 t383 t388).bind fun t403 => (if t403 = true then (if t384 = t389 then (if t385 = t390 then ((batch_Entries.f kj5 a1 l0).bind fun t404 => ((ravelinref12_Entries.f kj5 a1 l0).bind fun t407 => ((ravelinref6_Same.f kj5 t404 t407).bind fun t410 => (some t410)))) else (some false)) else (some false)) else (some false))) else (some false)) else (some false)) else (some false))) else (some false)) else (some false)) else (some false)) else (some false))))) else (some false))) = some r := H
     have A17 := Aside0.mk A170
     clear A170
     replace H := Option.bind_eq_some_iff.mp H
     obtain ⟨t394, A180, H⟩ := H
     replace H : (if (t393 == t394) = true then ((batch_Neat.f kj5 l0).bind fun t395 => ((ravelinref12_Neat.f kj5 l0).bind fun t398 => ((ravelinref12_Same.f kj5 t395 t398).bind fun t401 => (if t401 = true then (if t367.toList = t369.toList then (if t368 = t370 then (if t371 = t377 then ((ravelinref12_Same.f kj5 t372 t378).bind fun t402 => (if t402 = true then (if t373 = t379 then (if t374 = t380 then ((ravelinref6_Same.f kj5 t383 t388).bind fun t403 => (if t403 = true then (if t384 = t389 then (if t385 = t390 then ((batch_Entries.f kj5 a1 l0).bind fun t404 => ((ravelinref12_Entries.f kj5 a1 l0).bind fun t407 => ((ravelinref6_Same.f kj5 t404 t407).bind fun t410 => (some t410)))) else (some false)) else (some false)) else (some false))) else (some false)) else (some false)) else (some false))) else (some false)) else (some false)) else (some false)) else (some false))))) else (some false)) = some r := H
     have A18 := Aside0.mk A180
     clear A180
     by_cases c19 : (t393 == t394) = true
     ·rw [if_pos c19] at H
      have c19b0 : (t393 == t394) = true := c19
      (try (have c19b1 : decide (t393 = t394) = true := by simpa using c19))
      (try (have c19b2 : (t393 == t394) = true := by simpa using c19))
      (try (have c19b3 : (t394) = t393 := by have h_ := c19; revert h_; generalize t393 = u_; generalize t394 = v_; cases u_ <;> cases v_ <;> simp))
      clear c19
      replace H := Option.bind_eq_some_iff.mp H
      obtain ⟨t395, A200, H⟩ := H
      replace H : ((ravelinref12_Neat.f kj5 l0).bind fun t398 => ((ravelinref12_Same.f kj5 t395 t398).bind fun t401 => (if t401 = true then (if t367.toList = t369.toList then (if t368 = t370 then (if t371 = t377 then ((ravelinref12_Same.f kj5 t372 t378).bind fun t402 => (if t402 = true then (if t373 = t379 then (if t374 = t380 then ((ravelinref6_Same.f kj5 t383 t388).bind fun t403 => (if t403 = true then (if t384 = t389 then (if t385 = t390 then ((batch_Entries.f kj5 a1 l0).bind fun t404 => ((ravelinref12_Entries.f kj5 a1 l0).bind fun t407 => ((ravelinref6_Same.f kj5 t404 t407).bind fun t410 => (some t410)))) else (some false)) else (some false)) else (some false))) else (some false)) else (some false)) else (some false))) else (some false)) else (some false)) else (some false)) else (some false)))) = some r := H
      have A20 := Aside0.mk A200
      clear A200
      replace H := Option.bind_eq_some_iff.mp H
      obtain ⟨t398, A210, H⟩ := H
      replace H : ((ravelinref12_Same.f kj5 t395 t398).bind fun t401 => (if t401 = true then (if t367.toList = t369.toList then (if t368 = t370 then (if t371 = t377 then ((ravelinref12_Same.f kj5 t372 t378).bind fun t402 => (if t402 = true then (if t373 = t379 then (if t374 = t380 then ((ravelinref6_Same.f kj5 t383 t388).bind fun t403 => (if t403 = true then (if t384 = t389 then (if t385 = t390 then ((batch_Entries.f kj5 a1 l0).bind fun t404 => ((ravelinref12_Entries.f kj5 a1 l0).bind fun t407 => ((ravelinref6_Same.f kj5 t404 t407).bind fun t410 => (some t410)))) else (some false)) else (some false)) else (some false))) else (some false)) else (some false)) else (some false))) else (some false)) else (some false)) else (some false)) else (some false))) = some r := H
      have A21 := Aside0.mk A210
      clear A210
      replace H := Option.bind_eq_some_iff.mp H
      obtain ⟨t401, A220, H⟩ := H
      replace H : (if t401 = true then (if t367.toList = t369.toList then (if t368 = t370 then (if t371 = t377 then ((ravelinref12_Same.f kj5 t372 t378).bind fun t402 => (if t402 = true then (if t373 = t379 then (if t374 = t380 then ((ravelinref6_Same.f kj5 t383 t388).bind fun t403 => (if t403 = true then (if t384 = t389 then (if t385 = t390 then ((batch_Entries.f kj5 a1 l0).bind fun t404 => ((ravelinref12_Entries.f kj5 a1 l0).bind fun t407 => ((ravelinref6_Same.f kj5 t404 t407).bind fun t410 => (some t410)))) else (some false)) else (some false)) else (some false))) else (some false)) else (some false)) else (some false))) else (some false)) else (some false)) else (some false)) else (some false)) = some r := H
      have A22 := Aside0.mk A220
      clear A220
      by_cases c23 : t401 = true
      ·subst c23
       have H1 : (if t367.toList = t369.toList then (if t368 = t370 then (if t371 = t377 then ((ravelinref12_Same.f kj5 t372 t378).bind fun t402 => (if t402 = true then (if t373 = t379 then (if t374 = t380 then ((ravelinref6_Same.f kj5 t383 t388).bind fun t403 => (if t403 = true then (if t384 = t389 then (if t385 = t390 then ((batch_Entries.f kj5 a1 l0).bind fun t404 => ((ravelinref12_Entries.f kj5 a1 l0).bind fun t407 => ((ravelinref6_Same.f kj5 t404 t407).bind fun t410 => (some t410)))) else (some false)) else (some false)) else (some false))) else (some false)) else (some false)) else (some false))) else (some false)) else (some false)) else (some false)) = some r := by rw [if_pos rfl] at H; exact H
       clear H
       have H := H1
       clear H1
       by_cases c24 : t367.toList = t369.toList
       ·rw [if_pos c24] at H
        have c24b0 : (t367.toList == t369.toList) = true := beq_iff_eq.mpr c24
        have c24b1 : (t367.toList != t369.toList) = false := bne_eq_false_iff_eq.mpr c24
        clear c24
        by_cases c25 : t368 = t370
        ·rw [if_pos c25] at H
         have c25b0 : (t368 == t370) = true := beq_iff_eq.mpr c25
         have c25b1 : (t368 != t370) = false := bne_eq_false_iff_eq.mpr c25
         clear c25
         by_cases c26 : t371 = t377
         ·rw [if_pos c26] at H
          have c26b0 : (t371 == t377) = true := beq_iff_eq.mpr c26
          have c26b1 : (t371 != t377) = false := bne_eq_false_iff_eq.mpr c26
          clear c26
          replace H := Option.bind_eq_some_iff.mp H
          obtain ⟨t402, A270, H⟩ := H
          replace H : (if t402 = true then (if t373 = t379 then (if t374 = t380 then ((ravelinref6_Same.f kj5 t383 t388).bind fun t403 => (if t403 = true then (if t384 = t389 then (if t385 = t390 then ((batch_Entries.f kj5 a1 l0).bind fun t404 => ((ravelinref12_Entries.f kj5 a1 l0).bind fun t407 => ((ravelinref6_Same.f kj5 t404 t407).bind fun t410 => (some t410)))) else (some false)) else (some false)) else (some false))) else (some false)) else (some false)) else (some false)) = some r := H
          have A27 := Aside0.mk A270
          clear A270
          by_cases c28 : t402 = true
          ·subst c28
           have H1 : (if t373 = t379 then (if t374 = t380 then ((ravelinref6_Same.f kj5 t383 t388).bind fun t403 => (if t403 = true then (if t384 = t389 then (if t385 = t390 then ((batch_Entries.f kj5 a1 l0).bind fun t404 => ((ravelinref12_Entries.f kj5 a1 l0).bind fun t407 => ((ravelinref6_Same.f kj5 t404 t407).bind fun t410 => (some t410)))) else (some false)) else (some false)) else (some false))) else (some false)) else (some false)) = some r := by rw [if_pos rfl] at H; exact H
           clear H
           have H := H1
           clear H1
           by_cases c29 : t373 = t379
           ·rw [if_pos c29] at H
            have c29b0 : (t373 == t379) = true := beq_iff_eq.mpr c29
            have c29b1 : (t373 != t379) = false := bne_eq_false_iff_eq.mpr c29
            clear c29
            by_cases c30 : t374 = t380
            ·rw [if_pos c30] at H
             have c30b0 : (t374 == t380) = true := beq_iff_eq.mpr c30
             have c30b1 : (t374 != t380) = false := bne_eq_false_iff_eq.mpr c30
             clear c30
             replace H := Option.bind_eq_some_iff.mp H
             obtain ⟨t403, A310, H⟩ := H
             replace H : (if t403 = true then (if t384 = t389 then (if t385 = t390 then ((batch_Entries.f kj5 a1 l0).bind fun t404 => ((ravelinref12_Entries.f kj5 a1 l0).bind fun t407 => ((ravelinref6_Same.f kj5 t404 t407).bind fun t410 => (some t410)))) else (some false)) else (some false)) else (some false)) = some r := H
             have A31 := Aside0.mk A310
             clear A310
             by_cases c32 : t403 = true
             ·subst c32
              have H1 : (if t384 = t389 then (if t385 = t390 then ((batch_Entries.f kj5 a1 l0).bind fun t404 => ((ravelinref12_Entries.f kj5 a1 l0).bind fun t407 => ((ravelinref6_Same.f kj5 t404 t407).bind fun t410 => (some t410)))) else (some false)) else (some false)) = some r := by rw [if_pos rfl] at H; exact H
              clear H
              have H := H1
              clear H1
              by_cases c33 : t384 = t389
              ·rw [if_pos c33] at H
               have c33b0 : (t384 == t389) = true := beq_iff_eq.mpr c33
               have c33b1 : (t384 != t389) = false := bne_eq_false_iff_eq.mpr c33
               clear c33
               by_cases c34 : t385 = t390
               ·rw [if_pos c34] at H
                have c34b0 : (t385 == t390) = true := beq_iff_eq.mpr c34
                have c34b1 : (t385 != t390) = false := bne_eq_false_iff_eq.mpr c34
                clear c34
                replace H := Option.bind_eq_some_iff.mp H
                obtain ⟨t404, A350, H⟩ := H
                replace H : ((ravelinref12_Entries.f kj5 a1 l0).bind fun t407 => ((ravelinref6_Same.f kj5 t404 t407).bind fun t410 => (some t410))) = some r := H
                have A35 := Aside0.mk A350
                clear A350
                replace H := Option.bind_eq_some_iff.mp H
                obtain ⟨t407, A360, H⟩ := H
                replace H : ((ravelinref6_Same.f kj5 t404 t407).bind fun t410 => (some t410)) = some r := H
                have A36 := Aside0.mk A360
                clear A360
                replace H := Option.bind_eq_some_iff.mp H
                obtain ⟨t410, A370, H⟩ := H
                replace H : (some t410) = some r := H
                have A37 := Aside0.mk A370
                clear A370
                obtain rfl := Option.some.inj H
                go_wp2_with (first | ((with_reducible refine gate_callee (f := 9) rfl ?_); refine goesL_ (some 38) rfl rfl Try.func9 (by kernel_rfl) rfl #[.int .i64 a1, .slice A0 l0.length c0] rfl (by (try simp only [List.map_toArray, List.map_cons, List.map_nil]); first | done | rfl | (simp only [List.length_drop, List.length_take]; rfl)) ?_; (with_reducible refine (batch_Bytes.calls kj5 a1 _ _ l0 t367 t368 _ ?side1 ?side2 A11.out).mono ?_); (case side1 => repeat (first | exact (Kd.C_below HR0.out HB.out) | (with_reducible refine Kd.C_alloc ?_ _) | (with_reducible refine Kd.C_drewN ?_ _) | (with_reducible refine Kd.C_drew ?_))); (case side2 => exact HC0.out); rintro e w38 ⟨rfl, hb⟩; refine ⟨_, rfl, ?_⟩; have n0_ := Aside0.mk (below_step (by repeat (first | (with_reducible first | exact HB.out | apply below_alloc | apply pw_below_drewN | apply below_drew1) | exact HB.out)) hb); clear HB; have HB := n0_; clear n0_; (try clear hb); (try clear hb2); (try clear hk); (try clear hi)) | ((with_reducible refine gate_callee (f := 10) rfl ?_); refine goesL_ (some 44) rfl rfl Try.func10 (by kernel_rfl) rfl #[.int .i64 a1, .slice A0 l0.length c0] rfl (by (try simp only [List.map_toArray, List.map_cons, List.map_nil]); first | done | rfl | (simp only [List.length_drop, List.length_take]; rfl)) ?_; (with_reducible refine (ravelinref12_Bytes.calls kj5 a1 _ _ l0 t369 t370 _ ?side1 ?side2 A12.out).mono ?_); (case side1 => repeat (first | exact (Kd.C_below HR0.out HB.out) | (with_reducible refine Kd.C_alloc ?_ _) | (with_reducible refine Kd.C_drewN ?_ _) | (with_reducible refine Kd.C_drew ?_))); (case side2 => exact HC0.out); rintro e w39 ⟨rfl, hb⟩; refine ⟨_, rfl, ?_⟩; have n0_ := Aside0.mk (below_step (by repeat (first | (with_reducible first | exact HB.out | apply below_alloc | apply pw_below_drewN | apply below_drew1) | exact HB.out)) hb); clear HB; have HB := n0_; clear n0_; (try clear hb); (try clear hb2); (try clear hk); (try clear hi)) | ((with_reducible refine gate_callee (f := 11) rfl ?_); refine goesL_ (some 49) rfl rfl Try.func11 (by kernel_rfl) rfl #[.string a2] rfl (by (try simp only [List.map_toArray, List.map_cons, List.map_nil]); first | done | rfl | (simp only [List.length_drop, List.length_take]; rfl)) ?_; (with_reducible refine (batch_Read.calls kj5 a2 t371 t372 t373 t374 _ A13.out).mono ?_); rintro e w40 ⟨v375, rfl, ho0, hb⟩; refine ⟨_, rfl, ?_⟩; have n0_ := Aside0.mk (Kd.R_lower ho0 (below_size (by repeat (first | (with_reducible first | exact HB.out | apply below_alloc | apply pw_below_drewN | apply below_drew1) | exact HB.out)))); have n1_ := Aside0.mk (below_step (by repeat (first | (with_reducible first | exact HB.out | apply below_alloc | apply pw_below_drewN | apply below_drew1) | exact HB.out)) hb); clear HB; have HO376 := n0_; have HB := n1_; clear n0_ n1_; (try clear hb); (try clear hb2); (try clear hk); (try clear hi); (try clear ho0)) | ((with_reducible refine gate_callee (f := 12) rfl ?_); refine goesL_ (some 56) rfl rfl Try.func12 (by kernel_rfl) rfl #[.string a2] rfl (by (try simp only [List.map_toArray, List.map_cons, List.map_nil]); first | done | rfl | (simp only [List.length_drop, List.length_take]; rfl)) ?_; (with_reducible refine (ravelinref12_Read.calls kj5 a2 t377 t378 t379 t380 _ A14.out).mono ?_); rintro e w41 ⟨v381, rfl, ho0, hb⟩; refine ⟨_, rfl, ?_⟩; have n0_ := Aside0.mk (Kd.R_elder' (by (with_reducible repeat (first | apply Kd.R_alloc | apply Kd.R_drewN | apply Kd.R_drew)); exact HO376.out) (Kd.R_base ho0) hb); have n1_ := Aside0.mk (Kd.R_lower (Kd.R_new' ho0 (Kd.R_lt (by (with_reducible repeat (first | apply Kd.R_alloc | apply Kd.R_drewN | apply Kd.R_drew)); exact HO376.out))) (below_size (by repeat (first | (with_reducible first | exact HB.out | apply below_alloc | apply pw_below_drewN | apply below_drew1) | exact HB.out)))); have n2_ := Aside0.mk (below_step (by repeat (first | (with_reducible first | exact HB.out | apply below_alloc | apply pw_below_drewN | apply below_drew1) | exact HB.out)) hb); clear HO376; clear HB; have HO376 := n0_; have HO382 := n1_; have HB := n2_; clear n0_ n1_ n2_; (try clear hb); (try clear hb2); (try clear hk); (try clear hi); (try clear ho0)) | ((with_reducible refine gate_callee (f := 13) rfl ?_); refine goesL_ (some 63) rfl rfl Try.func13 (by kernel_rfl) rfl #[.string a2] rfl (by (try simp only [List.map_toArray, List.map_cons, List.map_nil]); first | done | rfl | (simp only [List.length_drop, List.length_take]; rfl)) ?_; (with_reducible refine (batch_Log.calls kj5 a2 t383 t384 t385 _ A15.out).mono ?_); rintro e w42 ⟨v386, rfl, ho0, hb⟩; refine ⟨_, rfl, ?_⟩; have n0_ := Aside0.mk (Kd.R_below (by (with_reducible repeat (first | apply Kd.R_alloc | apply Kd.R_drewN | apply Kd.R_drew)); exact HO376.out) hb); have n1_ := Aside0.mk (Kd.R_below (by (with_reducible repeat (first | apply Kd.R_alloc | apply Kd.R_drewN | apply Kd.R_drew)); exact HO382.out) hb); have n2_ := Aside0.mk (Kd.R_lower ho0 (below_size (by repeat (first | (with_reducible first | exact HB.out | apply below_alloc | apply pw_below_drewN | apply below_drew1) | exact HB.out)))); have n3_ := Aside0.mk (below_step (by repeat (first | (with_reducible first | exact HB.out | apply below_alloc | apply pw_below_drewN | apply below_drew1) | exact HB.out)) hb); clear HO376; clear HO382; clear HB; have HO376 := n0_; have HO382 := n1_; have HO387 := n2_; have HB := n3_; clear n0_ n1_ n2_ n3_; (try clear hb); (try clear hb2); (try clear hk); (try clear hi); (try clear ho0)) | ((with_reducible refine gate_callee (f := 14) rfl ?_); refine goesL_ (some 69) rfl rfl Try.func14 (by kernel_rfl) rfl #[.string a2] rfl (by (try simp only [List.map_toArray, List.map_cons, List.map_nil]); first | done | rfl | (simp only [List.length_drop, List.length_take]; rfl)) ?_; (with_reducible refine (ravelinref12_Log.calls kj5 a2 t388 t389 t390 _ A16.out).mono ?_); rintro e w43 ⟨v391, rfl, ho0, hb⟩; refine ⟨_, rfl, ?_⟩; have n0_ := Aside0.mk (Kd.R_below (by (with_reducible repeat (first | apply Kd.R_alloc | apply Kd.R_drewN | apply Kd.R_drew)); exact HO376.out) hb); have n1_ := Aside0.mk (Kd.R_below (by (with_reducible repeat (first | apply Kd.R_alloc | apply Kd.R_drewN | apply Kd.R_drew)); exact HO382.out) hb); have n2_ := Aside0.mk (Kd.R_elder' (by (with_reducible repeat (first | apply Kd.R_alloc | apply Kd.R_drewN | apply Kd.R_drew)); exact HO387.out) (Kd.R_base ho0) hb); have n3_ := Aside0.mk (Kd.R_lower (Kd.R_new' ho0 (Kd.R_lt (by (with_reducible repeat (first | apply Kd.R_alloc | apply Kd.R_drewN | apply Kd.R_drew)); exact HO387.out))) (below_size (by repeat (first | (with_reducible first | exact HB.out | apply below_alloc | apply pw_below_drewN | apply below_drew1) | exact HB.out)))); have n4_ := Aside0.mk (below_step (by repeat (first | (with_reducible first | exact HB.out | apply below_alloc | apply pw_below_drewN | apply below_drew1) | exact HB.out)) hb); clear HO376; clear HO382; clear HO387; clear HB; have HO376 := n0_; have HO382 := n1_; have HO387 := n2_; have HO392 := n3_; have HB := n4_; clear n0_ n1_ n2_ n3_ n4_; (try clear hb); (try clear hb2); (try clear hk); (try clear hi); (try clear ho0)) | (go_at_call 15; (with_reducible refine (batch_Is.calls kj5 _ _ l0 t393 _ ?side1 ?side2 A17.out).mono ?_); (case side1 => repeat (first | exact (Kd.C_below HR0.out HB.out) | (with_reducible refine Kd.C_alloc ?_ _) | (with_reducible refine Kd.C_drewN ?_ _) | (with_reducible refine Kd.C_drew ?_))); (case side2 => exact HC0.out); rintro e w44 ⟨rfl, hb⟩; have n0_ := Aside0.mk (Kd.R_below (by (with_reducible repeat (first | apply Kd.R_alloc | apply Kd.R_drewN | apply Kd.R_drew)); exact HO376.out) hb); have n1_ := Aside0.mk (Kd.R_below (by (with_reducible repeat (first | apply Kd.R_alloc | apply Kd.R_drewN | apply Kd.R_drew)); exact HO382.out) hb); have n2_ := Aside0.mk (Kd.R_below (by (with_reducible repeat (first | apply Kd.R_alloc | apply Kd.R_drewN | apply Kd.R_drew)); exact HO387.out) hb); have n3_ := Aside0.mk (Kd.R_below (by (with_reducible repeat (first | apply Kd.R_alloc | apply Kd.R_drewN | apply Kd.R_drew)); exact HO392.out) hb); have n4_ := Aside0.mk (below_step (by repeat (first | (with_reducible first | exact HB.out | apply below_alloc | apply pw_below_drewN | apply below_drew1) | exact HB.out)) hb); clear HO376; clear HO382; clear HO387; clear HO392; clear HB; have HO376 := n0_; have HO382 := n1_; have HO387 := n2_; have HO392 := n3_; have HB := n4_; clear n0_ n1_ n2_ n3_ n4_; (try clear hb); (try clear hb2); (try clear hk); (try clear hi)) | (go_at_call 16; (with_reducible refine (ravelinref12_Is.calls kj5 _ _ l0 t394 _ ?side1 ?side2 A18.out).mono ?_); (case side1 => repeat (first | exact (Kd.C_below HR0.out HB.out) | (with_reducible refine Kd.C_alloc ?_ _) | (with_reducible refine Kd.C_drewN ?_ _) | (with_reducible refine Kd.C_drew ?_))); (case side2 => exact HC0.out); rintro e w45 ⟨rfl, hb⟩; have n0_ := Aside0.mk (Kd.R_below (by (with_reducible repeat (first | apply Kd.R_alloc | apply Kd.R_drewN | apply Kd.R_drew)); exact HO376.out) hb); have n1_ := Aside0.mk (Kd.R_below (by (with_reducible repeat (first | apply Kd.R_alloc | apply Kd.R_drewN | apply Kd.R_drew)); exact HO382.out) hb); have n2_ := Aside0.mk (Kd.R_below (by (with_reducible repeat (first | apply Kd.R_alloc | apply Kd.R_drewN | apply Kd.R_drew)); exact HO387.out) hb); have n3_ := Aside0.mk (Kd.R_below (by (with_reducible repeat (first | apply Kd.R_alloc | apply Kd.R_drewN | apply Kd.R_drew)); exact HO392.out) hb); have n4_ := Aside0.mk (below_step (by repeat (first | (with_reducible first | exact HB.out | apply below_alloc | apply pw_below_drewN | apply below_drew1) | exact HB.out)) hb); clear HO376; clear HO382; clear HO387; clear HO392; clear HB; have HO376 := n0_; have HO382 := n1_; have HO387 := n2_; have HO392 := n3_; have HB := n4_; clear n0_ n1_ n2_ n3_ n4_; (try clear hb); (try clear hb2); (try clear hk); (try clear hi)) | (go_at_call 18; (with_reducible refine (batch_Neat.calls kj5 _ _ l0 t395 _ ?side1 ?side2 A20.out).mono ?_); (case side1 => repeat (first | exact (Kd.C_below HR0.out HB.out) | (with_reducible refine Kd.C_alloc ?_ _) | (with_reducible refine Kd.C_drewN ?_ _) | (with_reducible refine Kd.C_drew ?_))); (case side2 => exact HC0.out); rintro e w46 ⟨v396, rfl, ho0, hb⟩; have n0_ := Aside0.mk (Kd.R_elder' (by (with_reducible repeat (first | apply Kd.R_alloc | apply Kd.R_drewN | apply Kd.R_drew)); exact HO376.out) (Kd.R_base ho0) hb); have n1_ := Aside0.mk (Kd.R_elder' (by (with_reducible repeat (first | apply Kd.R_alloc | apply Kd.R_drewN | apply Kd.R_drew)); exact HO382.out) (Kd.R_base ho0) hb); have n2_ := Aside0.mk (Kd.R_below (by (with_reducible repeat (first | apply Kd.R_alloc | apply Kd.R_drewN | apply Kd.R_drew)); exact HO387.out) hb); have n3_ := Aside0.mk (Kd.R_below (by (with_reducible repeat (first | apply Kd.R_alloc | apply Kd.R_drewN | apply Kd.R_drew)); exact HO392.out) hb); have n4_ := Aside0.mk (Kd.R_lower (Kd.R_new' (Kd.R_new' ho0 (Kd.R_lt (by (with_reducible repeat (first | apply Kd.R_alloc | apply Kd.R_drewN | apply Kd.R_drew)); exact HO376.out))) (Kd.R_lt (by (with_reducible repeat (first | apply Kd.R_alloc | apply Kd.R_drewN | apply Kd.R_drew)); exact HO382.out))) (below_size (by repeat (first | (with_reducible first | exact HB.out | apply below_alloc | apply pw_below_drewN | apply below_drew1) | exact HB.out)))); have n5_ := Aside0.mk (below_step (by repeat (first | (with_reducible first | exact HB.out | apply below_alloc | apply pw_below_drewN | apply below_drew1) | exact HB.out)) hb); clear HO376; clear HO382; clear HO387; clear HO392; clear HB; have HO376 := n0_; have HO382 := n1_; have HO387 := n2_; have HO392 := n3_; have HO397 := n4_; have HB := n5_; clear n0_ n1_ n2_ n3_ n4_ n5_; (try clear hb); (try clear hb2); (try clear hk); (try clear hi); (try clear ho0)) | (go_at_call 19; (with_reducible refine (ravelinref12_Neat.calls kj5 _ _ l0 t398 _ ?side1 ?side2 A21.out).mono ?_); (case side1 => repeat (first | exact (Kd.C_below HR0.out HB.out) | (with_reducible refine Kd.C_alloc ?_ _) | (with_reducible refine Kd.C_drewN ?_ _) | (with_reducible refine Kd.C_drew ?_))); (case side2 => exact HC0.out); rintro e w47 ⟨v399, rfl, ho0, hb⟩; have n0_ := Aside0.mk (Kd.R_elder' (by (with_reducible repeat (first | apply Kd.R_alloc | apply Kd.R_drewN | apply Kd.R_drew)); exact HO376.out) (Kd.R_base ho0) hb); have n1_ := Aside0.mk (Kd.R_elder' (by (with_reducible repeat (first | apply Kd.R_alloc | apply Kd.R_drewN | apply Kd.R_drew)); exact HO382.out) (Kd.R_base ho0) hb); have n2_ := Aside0.mk (Kd.R_below (by (with_reducible repeat (first | apply Kd.R_alloc | apply Kd.R_drewN | apply Kd.R_drew)); exact HO387.out) hb); have n3_ := Aside0.mk (Kd.R_below (by (with_reducible repeat (first | apply Kd.R_alloc | apply Kd.R_drewN | apply Kd.R_drew)); exact HO392.out) hb); have n4_ := Aside0.mk (Kd.R_elder' (by (with_reducible repeat (first | apply Kd.R_alloc | apply Kd.R_drewN | apply Kd.R_drew)); exact HO397.out) (Kd.R_base ho0) hb); have n5_ := Aside0.mk (Kd.R_lower (Kd.R_new' (Kd.R_new' (Kd.R_new' ho0 (Kd.R_lt (by (with_reducible repeat (first | apply Kd.R_alloc | apply Kd.R_drewN | apply Kd.R_drew)); exact HO376.out))) (Kd.R_lt (by (with_reducible repeat (first | apply Kd.R_alloc | apply Kd.R_drewN | apply Kd.R_drew)); exact HO382.out))) (Kd.R_lt (by (with_reducible repeat (first | apply Kd.R_alloc | apply Kd.R_drewN | apply Kd.R_drew)); exact HO397.out))) (below_size (by repeat (first | (with_reducible first | exact HB.out | apply below_alloc | apply pw_below_drewN | apply below_drew1) | exact HB.out)))); have n6_ := Aside0.mk (below_step (by repeat (first | (with_reducible first | exact HB.out | apply below_alloc | apply pw_below_drewN | apply below_drew1) | exact HB.out)) hb); clear HO376; clear HO382; clear HO387; clear HO392; clear HO397; clear HB; have HO376 := n0_; have HO382 := n1_; have HO387 := n2_; have HO392 := n3_; have HO397 := n4_; have HO400 := n5_; have HB := n6_; clear n0_ n1_ n2_ n3_ n4_ n5_ n6_; (try clear hb); (try clear hb2); (try clear hk); (try clear hi); (try clear ho0); obtain ⟨Ao48, co48, eo48⟩ := Kd.R_slice HO397.out; subst eo48; obtain ⟨Ao49, co49, eo49⟩ := Kd.R_slice HO400.out; subst eo49) | (go_at_call 17; (with_reducible refine (ravelinref12_Same.calls kj5 _ _ t395 _ _ t398 true _ ?side1 ?side2 ?side3 ?side4 A22.out).mono ?_); (case side1 => repeat (first | exact (Kd.R_reads' HO397.out).2.2 | (with_reducible refine Kd.C_alloc ?_ _) | (with_reducible refine Kd.C_drewN ?_ _) | (with_reducible refine Kd.C_drew ?_))); (case side2 => exact (Kd.R_reads' HO397.out).2.1); (case side3 => repeat (first | exact (Kd.R_reads' HO400.out).2.2 | (with_reducible refine Kd.C_alloc ?_ _) | (with_reducible refine Kd.C_drewN ?_ _) | (with_reducible refine Kd.C_drew ?_))); (case side4 => exact (Kd.R_reads' HO400.out).2.1); rintro e w' ⟨rfl, ⟨nd, rfl⟩⟩; obtain ⟨Ao50, co50, eo50⟩ := Kd.R_slice HO376.out; subst eo50; obtain ⟨Ao51, co51, eo51⟩ := Kd.R_slice HO382.out; subst eo51) | (go_at_call 17; (with_reducible refine (ravelinref12_Same.calls kj5 _ _ t372 _ _ t378 true _ ?side1 ?side2 ?side3 ?side4 A27.out).mono ?_); (case side1 => repeat (first | exact (Kd.R_reads' HO376.out).2.2 | (with_reducible refine Kd.C_alloc ?_ _) | (with_reducible refine Kd.C_drewN ?_ _) | (with_reducible refine Kd.C_drew ?_))); (case side2 => exact (Kd.R_reads' HO376.out).2.1); (case side3 => repeat (first | exact (Kd.R_reads' HO382.out).2.2 | (with_reducible refine Kd.C_alloc ?_ _) | (with_reducible refine Kd.C_drewN ?_ _) | (with_reducible refine Kd.C_drew ?_))); (case side4 => exact (Kd.R_reads' HO382.out).2.1); rintro e w' ⟨rfl, ⟨nd, rfl⟩⟩; obtain ⟨Ao52, co52, eo52⟩ := Kd.R_slice HO387.out; subst eo52; obtain ⟨Ao53, co53, eo53⟩ := Kd.R_slice HO392.out; subst eo53) | (go_at_call 20; (with_reducible refine (ravelinref6_Same.calls kj5 _ _ t383 _ _ t388 true _ ?side1 ?side2 ?side3 ?side4 A31.out).mono ?_); (case side1 => repeat (first | exact (Kd.R_reads' HO387.out).2.2 | (with_reducible refine Kd.C_alloc ?_ _) | (with_reducible refine Kd.C_drewN ?_ _) | (with_reducible refine Kd.C_drew ?_))); (case side2 => exact (Kd.R_reads' HO387.out).2.1); (case side3 => repeat (first | exact (Kd.R_reads' HO392.out).2.2 | (with_reducible refine Kd.C_alloc ?_ _) | (with_reducible refine Kd.C_drewN ?_ _) | (with_reducible refine Kd.C_drew ?_))); (case side4 => exact (Kd.R_reads' HO392.out).2.1); rintro e w' ⟨rfl, ⟨nd, rfl⟩⟩) | (go_at_call 21; (with_reducible refine (batch_Entries.calls kj5 a1 _ _ l0 t404 _ ?side1 ?side2 A35.out).mono ?_); (case side1 => repeat (first | exact (Kd.C_below HR0.out (by repeat (first | (with_reducible first | exact HB.out | apply below_alloc | apply pw_below_drewN | apply below_drew1) | exact HB.out))) | (with_reducible refine Kd.C_alloc ?_ _) | (with_reducible refine Kd.C_drewN ?_ _) | (with_reducible refine Kd.C_drew ?_))); (case side2 => exact HC0.out); rintro e w54 ⟨v405, rfl, ho0, hb⟩; have n0_ := Aside0.mk (Kd.R_below (by (with_reducible repeat (first | apply Kd.R_alloc | apply Kd.R_drewN | apply Kd.R_drew)); exact HO376.out) hb); have n1_ := Aside0.mk (Kd.R_below (by (with_reducible repeat (first | apply Kd.R_alloc | apply Kd.R_drewN | apply Kd.R_drew)); exact HO382.out) hb); have n2_ := Aside0.mk (Kd.R_elder' (by (with_reducible repeat (first | apply Kd.R_alloc | apply Kd.R_drewN | apply Kd.R_drew)); exact HO387.out) (Kd.R_base ho0) hb); have n3_ := Aside0.mk (Kd.R_elder' (by (with_reducible repeat (first | apply Kd.R_alloc | apply Kd.R_drewN | apply Kd.R_drew)); exact HO392.out) (Kd.R_base ho0) hb); have n4_ := Aside0.mk (Kd.R_below (by (with_reducible repeat (first | apply Kd.R_alloc | apply Kd.R_drewN | apply Kd.R_drew)); exact HO397.out) hb); have n5_ := Aside0.mk (Kd.R_below (by (with_reducible repeat (first | apply Kd.R_alloc | apply Kd.R_drewN | apply Kd.R_drew)); exact HO400.out) hb); have n6_ := Aside0.mk (Kd.R_lower (Kd.R_new' (Kd.R_new' ho0 (Kd.R_lt (by (with_reducible repeat (first | apply Kd.R_alloc | apply Kd.R_drewN | apply Kd.R_drew)); exact HO387.out))) (Kd.R_lt (by (with_reducible repeat (first | apply Kd.R_alloc | apply Kd.R_drewN | apply Kd.R_drew)); exact HO392.out))) (below_size (by repeat (first | (with_reducible first | exact HB.out | apply below_alloc | apply pw_below_drewN | apply below_drew1) | exact HB.out)))); have n7_ := Aside0.mk (below_step (by repeat (first | (with_reducible first | exact HB.out | apply below_alloc | apply pw_below_drewN | apply below_drew1) | exact HB.out)) hb); clear HO376; clear HO382; clear HO387; clear HO392; clear HO397; clear HO400; clear HB; have HO376 := n0_; have HO382 := n1_; have HO387 := n2_; have HO392 := n3_; have HO397 := n4_; have HO400 := n5_; have HO406 := n6_; have HB := n7_; clear n0_ n1_ n2_ n3_ n4_ n5_ n6_ n7_; (try clear hb); (try clear hb2); (try clear hk); (try clear hi); (try clear ho0)) | (go_at_call 22; (with_reducible refine (ravelinref12_Entries.calls kj5 a1 _ _ l0 t407 _ ?side1 ?side2 A36.out).mono ?_); (case side1 => repeat (first | exact (Kd.C_below HR0.out HB.out) | (with_reducible refine Kd.C_alloc ?_ _) | (with_reducible refine Kd.C_drewN ?_ _) | (with_reducible refine Kd.C_drew ?_))); (case side2 => exact HC0.out); rintro e w55 ⟨v408, rfl, ho0, hb⟩; have n0_ := Aside0.mk (Kd.R_below (by (with_reducible repeat (first | apply Kd.R_alloc | apply Kd.R_drewN | apply Kd.R_drew)); exact HO376.out) hb); have n1_ := Aside0.mk (Kd.R_below (by (with_reducible repeat (first | apply Kd.R_alloc | apply Kd.R_drewN | apply Kd.R_drew)); exact HO382.out) hb); have n2_ := Aside0.mk (Kd.R_elder' (by (with_reducible repeat (first | apply Kd.R_alloc | apply Kd.R_drewN | apply Kd.R_drew)); exact HO387.out) (Kd.R_base ho0) hb); have n3_ := Aside0.mk (Kd.R_elder' (by (with_reducible repeat (first | apply Kd.R_alloc | apply Kd.R_drewN | apply Kd.R_drew)); exact HO392.out) (Kd.R_base ho0) hb); have n4_ := Aside0.mk (Kd.R_below (by (with_reducible repeat (first | apply Kd.R_alloc | apply Kd.R_drewN | apply Kd.R_drew)); exact HO397.out) hb); have n5_ := Aside0.mk (Kd.R_below (by (with_reducible repeat (first | apply Kd.R_alloc | apply Kd.R_drewN | apply Kd.R_drew)); exact HO400.out) hb); have n6_ := Aside0.mk (Kd.R_elder' (by (with_reducible repeat (first | apply Kd.R_alloc | apply Kd.R_drewN | apply Kd.R_drew)); exact HO406.out) (Kd.R_base ho0) hb); have n7_ := Aside0.mk (Kd.R_lower (Kd.R_new' (Kd.R_new' (Kd.R_new' ho0 (Kd.R_lt (by (with_reducible repeat (first | apply Kd.R_alloc | apply Kd.R_drewN | apply Kd.R_drew)); exact HO387.out))) (Kd.R_lt (by (with_reducible repeat (first | apply Kd.R_alloc | apply Kd.R_drewN | apply Kd.R_drew)); exact HO392.out))) (Kd.R_lt (by (with_reducible repeat (first | apply Kd.R_alloc | apply Kd.R_drewN | apply Kd.R_drew)); exact HO406.out))) (below_size (by repeat (first | (with_reducible first | exact HB.out | apply below_alloc | apply pw_below_drewN | apply below_drew1) | exact HB.out)))); have n8_ := Aside0.mk (below_step (by repeat (first | (with_reducible first | exact HB.out | apply below_alloc | apply pw_below_drewN | apply below_drew1) | exact HB.out)) hb); clear HO376; clear HO382; clear HO387; clear HO392; clear HO397; clear HO400; clear HO406; clear HB; have HO376 := n0_; have HO382 := n1_; have HO387 := n2_; have HO392 := n3_; have HO397 := n4_; have HO400 := n5_; have HO406 := n6_; have HO409 := n7_; have HB := n8_; clear n0_ n1_ n2_ n3_ n4_ n5_ n6_ n7_ n8_; (try clear hb); (try clear hb2); (try clear hk); (try clear hi); (try clear ho0); obtain ⟨Ao56, co56, eo56⟩ := Kd.R_slice HO406.out; subst eo56; obtain ⟨Ao57, co57, eo57⟩ := Kd.R_slice HO409.out; subst eo57) | (go_at_call 20; (with_reducible refine (ravelinref6_Same.calls kj5 _ _ t404 _ _ t407 t410 _ ?side1 ?side2 ?side3 ?side4 A37.out).mono ?_); (case side1 => repeat (first | exact (Kd.R_reads' HO406.out).2.2 | (with_reducible refine Kd.C_alloc ?_ _) | (with_reducible refine Kd.C_drewN ?_ _) | (with_reducible refine Kd.C_drew ?_))); (case side2 => exact (Kd.R_reads' HO406.out).2.1); (case side3 => repeat (first | exact (Kd.R_reads' HO409.out).2.2 | (with_reducible refine Kd.C_alloc ?_ _) | (with_reducible refine Kd.C_drewN ?_ _) | (with_reducible refine Kd.C_drew ?_))); (case side4 => exact (Kd.R_reads' HO409.out).2.1); rintro e w' ⟨rfl, ⟨nd, rfl⟩⟩))
                go_ret
                exact ⟨by first | rfl | (simp [errW_none, errW_some] <;> rfl) | (simp [*, errW_none, errW_some] <;> rfl), by repeat (first | (with_reducible first | exact HB.out | apply below_alloc | apply pw_below_drewN | apply below_drew1) | exact HB.out)⟩
               ·rw [if_neg c34] at H
                have c34b0 : (t385 == t390) = false := beq_eq_false_iff_ne.mpr c34
                have c34b1 : (t385 != t390) = true := bne_iff_ne.mpr c34
                exact absurd ((Option.some.inj H).trans HR_.out) (by decide)
              ·rw [if_neg c33] at H
               have c33b0 : (t384 == t389) = false := beq_eq_false_iff_ne.mpr c33
               have c33b1 : (t384 != t389) = true := bne_iff_ne.mpr c33
               exact absurd ((Option.some.inj H).trans HR_.out) (by decide)
             ·replace c32 := Bool.eq_false_iff.mpr c32
              subst c32
              have H1 : (some false) = some r := by rw [if_neg (show ¬ (false = true) by decide)] at H; exact H
              clear H
              have H := H1
              clear H1
              exact absurd ((Option.some.inj H).trans HR_.out) (by decide)
            ·rw [if_neg c30] at H
             have c30b0 : (t374 == t380) = false := beq_eq_false_iff_ne.mpr c30
             have c30b1 : (t374 != t380) = true := bne_iff_ne.mpr c30
             exact absurd ((Option.some.inj H).trans HR_.out) (by decide)
           ·rw [if_neg c29] at H
            have c29b0 : (t373 == t379) = false := beq_eq_false_iff_ne.mpr c29
            have c29b1 : (t373 != t379) = true := bne_iff_ne.mpr c29
            exact absurd ((Option.some.inj H).trans HR_.out) (by decide)
          ·replace c28 := Bool.eq_false_iff.mpr c28
           subst c28
           have H1 : (some false) = some r := by rw [if_neg (show ¬ (false = true) by decide)] at H; exact H
           clear H
           have H := H1
           clear H1
           exact absurd ((Option.some.inj H).trans HR_.out) (by decide)
         ·rw [if_neg c26] at H
          have c26b0 : (t371 == t377) = false := beq_eq_false_iff_ne.mpr c26
          have c26b1 : (t371 != t377) = true := bne_iff_ne.mpr c26
          exact absurd ((Option.some.inj H).trans HR_.out) (by decide)
        ·rw [if_neg c25] at H
         have c25b0 : (t368 == t370) = false := beq_eq_false_iff_ne.mpr c25
         have c25b1 : (t368 != t370) = true := bne_iff_ne.mpr c25
         exact absurd ((Option.some.inj H).trans HR_.out) (by decide)
       ·rw [if_neg c24] at H
        have c24b0 : (t367.toList == t369.toList) = false := beq_eq_false_iff_ne.mpr c24
        have c24b1 : (t367.toList != t369.toList) = true := bne_iff_ne.mpr c24
        exact absurd ((Option.some.inj H).trans HR_.out) (by decide)
      ·replace c23 := Bool.eq_false_iff.mpr c23
       subst c23
       have H1 : (some false) = some r := by rw [if_neg (show ¬ (false = true) by decide)] at H; exact H
       clear H
       have H := H1
       clear H1
       exact absurd ((Option.some.inj H).trans HR_.out) (by decide)
     ·rw [if_neg c19] at H
      have c19b0 : (t393 == t394) = false := by simpa using c19
      (try (have c19b1 : decide (t393 = t394) = false := by simpa using c19))
      (try (have c19b2 : (t393 == t394) = false := by simpa using c19))
      (try (have c19b3 : ¬ (t393 = t394) := by simpa using c19))
      (try (have c19b4 : (t394) = !t393 := by have h_ := c19; revert h_; generalize t393 = u_; generalize t394 = v_; cases u_ <;> cases v_ <;> simp))
      clear c19
      exact absurd ((Option.some.inj H).trans HR_.out) (by decide)
 ·replace c5 := Bool.eq_false_iff.mpr c5
  subst c5
  have H1 : (some false) = some r := by rw [if_neg (show ¬ (false = true) by decide)] at H; exact H
  clear H
  have H := H1
  clear H1
  exact absurd ((Option.some.inj H).trans HR_.out) (by decide)
def ravelinlaw12_BatchTells.Pure : Prop := ∀ (l0 : List (S49)) (a1 : Int) (a2 : ByteArray), l0.length ≤ 9223372036854775807 → (∀ y_ ∈ l0, (y_.f0.size ≤ 9223372036854775807 ∧ True ∧ y_.f2.size ≤ 9223372036854775807)) → (Lit.int .i64 a1).wf = true → a2.size ≤ 140737488351232 → ∃ k, ravelinlaw12_BatchTells.f k l0 a1 a2 = some true

end Go.Proofs.Ytnjbmcjhhadojaa.P
-- FIXED12d
