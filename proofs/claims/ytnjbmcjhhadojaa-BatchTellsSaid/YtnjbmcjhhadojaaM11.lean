-- Printed by a changed copy of the kit's printer (wip/tools/ext.py); labels and more
import Derived.Test.YtnjbmcjhhadojaaM0
import Derived.Test.YtnjbmcjhhadojaaM9
import Derived.Test.YtnjbmcjhhadojaaM10
namespace Go.Proofs.Ytnjbmcjhhadojaa.P
open Go.RowKit Go.Proofs.YtnjbmcjhhadojaaW.PrintWords Go.Proofs.YtnjbmcjhhadojaaW.PrintLast Go.Proofs.YtnjbmcjhhadojaaW.PrintMore
attribute [local go_sem] max2_int min2_int max_two min_two max_three min_three max_four min_four   -- for this text's walks alone
attribute [local go_sem high] string_leq string_geq string_gtr
set_option linter.unusedVariables false
set_option linter.unusedSimpArgs false

/-! ### ravelinref3_TakeText: function 51 -/
def ravelinref3_TakeText.f (k : Nat) (a0 : ByteArray) : Option (ByteArray × Int × Int) := (ravelinref3_TakeNum.f k a0).bind fun bt284 => (if bt284.2.2 = 0 then (if bt284.1 > (wrap64 ((a0.size : Int) - bt284.2.1)) then (some ((⟨#[]⟩ : ByteArray), 0, 12)) else (if 0 ≤ bt284.2.1 then (if bt284.2.1 ≤ (wrap64 (bt284.2.1 + bt284.1)) then (if (wrap64 (bt284.2.1 + bt284.1)) ≤ (a0.size : Int) then (some (a0.extract (bt284.2.1 : Int).toNat ((wrap64 (bt284.2.1 + bt284.1)) : Int).toNat, wrap64 (bt284.2.1 + bt284.1), 0)) else (none)) else (none)) else (none))) else (some ((⟨#[]⟩ : ByteArray), 0, bt284.2.2)))
theorem ravelinref3_TakeText.mono : ∀ a0 k, LeO (ravelinref3_TakeText.f k a0) (ravelinref3_TakeText.f (k + 1) a0) := by
 intro a0 k
 unfold ravelinref3_TakeText.f
 repeat' first
   | (with_reducible exact ravelinref3_TakeNum.mono _ _)
   | (with_reducible exact LeO.refl _)
   | (with_reducible exact LeO.none _)
   | (with_reducible refine LeO.ite ?_ ?_)
   | (with_reducible refine LeO.bind ?_ (fun _ => ?_))
   | exact ravelinref3_TakeNum.mono _ _
   | exact LeO.none _
   | refine LeO.ite ?_ ?_
   | refine LeO.bind ?_ (fun _ => ?_)
set_option maxHeartbeats 8000000 in
set_option maxRecDepth 100000 in
theorem ravelinref3_TakeText.calls (k : Nat) (a0 : ByteArray) (r1 : ByteArray) (r2 : Int) (r3 : Int) (w : World) (h : ravelinref3_TakeText.f k a0 = some (r1, r2, r3)) :
  Calls Try.prog 51 #[.string a0] w fun e w' => e = .returned (.tuple #[.string r1, .int .i64 r2, .int .i64 r3]) ∧ Drawn0 w w' := by
 have H : ((ravelinref3_TakeNum.f k a0).bind fun bt284 => (if bt284.2.2 = 0 then (if bt284.1 > (wrap64 ((a0.size : Int) - bt284.2.1)) then (some ((⟨#[]⟩ : ByteArray), 0, 12)) else (if 0 ≤ bt284.2.1 then (if bt284.2.1 ≤ (wrap64 (bt284.2.1 + bt284.1)) then (if (wrap64 (bt284.2.1 + bt284.1)) ≤ (a0.size : Int) then (some (a0.extract (bt284.2.1 : Int).toNat ((wrap64 (bt284.2.1 + bt284.1)) : Int).toNat, wrap64 (bt284.2.1 + bt284.1), 0)) else (none)) else (none)) else (none))) else (some ((⟨#[]⟩ : ByteArray), 0, bt284.2.2)))) = some (r1, r2, r3) := h
 clear h
 replace H := Option.bind_eq_some_iff.mp H
 obtain ⟨⟨t284, t285, t286⟩, A20, H⟩ := H
 replace H : (if t286 = 0 then (if t284 > (wrap64 ((a0.size : Int) - t285)) then (some ((⟨#[]⟩ : ByteArray), 0, 12)) else (if 0 ≤ t285 then (if t285 ≤ (wrap64 (t285 + t284)) then (if (wrap64 (t285 + t284)) ≤ (a0.size : Int) then (some (a0.extract (t285 : Int).toNat ((wrap64 (t285 + t284)) : Int).toNat, wrap64 (t285 + t284), 0)) else (none)) else (none)) else (none))) else (some ((⟨#[]⟩ : ByteArray), 0, t286))) = some (r1, r2, r3) := H
 have A2 := Aside0.mk A20
 clear A20
 by_cases c3 : t286 = 0
 ·rw [if_pos c3] at H
  have c3b0 : (t286 == 0) = true := beq_iff_eq.mpr c3
  have c3b1 : (t286 != 0) = false := bne_eq_false_iff_eq.mpr c3
  clear c3
  by_cases c4 : t284 > (wrap64 ((a0.size : Int) - t285))
  ·rw [if_pos c4] at H
   have c4b0 : decide ((wrap64 ((a0.size : Int) - t285)) < t284) = true := decide_eq_true c4
   clear c4
   simp only [Option.some.injEq, Prod.mk.injEq] at H
   obtain ⟨rfl, rfl, rfl⟩ := H
   go_enter Try.func51, Try.ntmps51
   go_wp2_with (first | ((with_reducible refine gate_callee (f := 33) rfl ?_); refine goesL_ (some 10) rfl rfl Try.func33 (by kernel_rfl) rfl #[.string a0] rfl (by (try simp only [List.map_toArray, List.map_cons, List.map_nil]); first | done | rfl | (simp only [List.length_drop, List.length_take]; rfl)) ?_; (with_reducible refine (ravelinref3_TakeNum.calls k a0 t284 t285 t286 _ A2.out).mono ?_); rintro e w' ⟨rfl, ⟨nd, rfl⟩⟩; refine ⟨_, rfl, ?_⟩))
   go_ret3
   exact ⟨by first | rfl | (simp; done) | (simp [*]; done), by repeat (first | exact Drawn0.refl _ | apply Drawn0.step)⟩
  ·rw [if_neg c4] at H
   have c4b0 : decide ((wrap64 ((a0.size : Int) - t285)) < t284) = false := decide_eq_false c4
   clear c4
   by_cases c5 : 0 ≤ t285
   ·rw [if_pos c5] at H
    have c5b0 := eq_true c5
    have c5b1 : decide (0 ≤ t285) = true := decide_eq_true c5
    clear c5
    by_cases c6 : t285 ≤ (wrap64 (t285 + t284))
    ·rw [if_pos c6] at H
     have c6b0 := eq_true c6
     have c6b1 : decide (t285 ≤ (wrap64 (t285 + t284))) = true := decide_eq_true c6
     by_cases c7 : (wrap64 (t285 + t284)) ≤ (a0.size : Int)
     ·rw [if_pos c7] at H
      have c7b0 := eq_true c7
      have c7b1 : decide ((wrap64 (t285 + t284)) ≤ (a0.size : Int)) = true := decide_eq_true c7
      simp only [Option.some.injEq, Prod.mk.injEq] at H
      obtain ⟨rfl, rfl, rfl⟩ := H
      go_enter Try.func51, Try.ntmps51
      go_wp2_with (first | ((with_reducible refine gate_callee (f := 33) rfl ?_); refine goesL_ (some 10) rfl rfl Try.func33 (by kernel_rfl) rfl #[.string a0] rfl (by (try simp only [List.map_toArray, List.map_cons, List.map_nil]); first | done | rfl | (simp only [List.length_drop, List.length_take]; rfl)) ?_; (with_reducible refine (ravelinref3_TakeNum.calls k a0 t284 t285 t286 _ A2.out).mono ?_); rintro e w' ⟨rfl, ⟨nd, rfl⟩⟩; refine ⟨_, rfl, ?_⟩))
      go_ret3
      exact ⟨by first | rfl | (simp; done) | (simp [*]; done), by repeat (first | exact Drawn0.refl _ | apply Drawn0.step)⟩
     ·rw [if_neg c7] at H
      exact absurd H (by simp)
    ·rw [if_neg c6] at H
     exact absurd H (by simp)
   ·rw [if_neg c5] at H
    exact absurd H (by simp)
 ·rw [if_neg c3] at H
  have c3b0 : (t286 == 0) = false := beq_eq_false_iff_ne.mpr c3
  have c3b1 : (t286 != 0) = true := bne_iff_ne.mpr c3
  simp only [Option.some.injEq, Prod.mk.injEq] at H
  obtain ⟨rfl, rfl, rfl⟩ := H
  go_enter Try.func51, Try.ntmps51
  go_wp2_with (first | ((with_reducible refine gate_callee (f := 33) rfl ?_); refine goesL_ (some 10) rfl rfl Try.func33 (by kernel_rfl) rfl #[.string a0] rfl (by (try simp only [List.map_toArray, List.map_cons, List.map_nil]); first | done | rfl | (simp only [List.length_drop, List.length_take]; rfl)) ?_; (with_reducible refine (ravelinref3_TakeNum.calls k a0 t284 t285 t286 _ A2.out).mono ?_); rintro e w' ⟨rfl, ⟨nd, rfl⟩⟩; refine ⟨_, rfl, ?_⟩))
  go_ret3
  exact ⟨by first | rfl | (simp; done) | (simp [*]; done), by repeat (first | exact Drawn0.refl _ | apply Drawn0.step)⟩

/-! ### ravelinref12_TakeRow: function 34 -/
mutual
def ravelinref12_TakeRow.j0 : Nat → ByteArray → Int → Int → Bool → Option ((List (S49)) × Int × Bool)
 | 0, _, _, _, _ => none
 | k + 1, x0, x5, x6, x28 => if x28 = true then (some (([] : List (S49)), 0, false)) else (ravelinref12_TakeRow.l0 k x0 x5 x6 ([] : List (S49)) 0)
def ravelinref12_TakeRow.l0 : Nat → ByteArray → Int → Int → List (S49) → Int → Option ((List (S49)) × Int × Bool)
 | 0, _, _, _, _, _ => none
 | k + 1, x0, x5, x6, x8, x9 => if x9 < x5 then (if 0 ≤ x6 then (if x6 ≤ (x0.size : Int) then ((ravelinref3_TakeText.f k (x0.extract (x6 : Int).toNat x0.size)).bind fun bt290 => (if bt290.2.2 = 0 then (ravelinref12_TakeRow.j2 k x0 x5 x6 x8 x9 bt290.1 bt290.2.1 ((wrap64 (x6 + bt290.2.1)) == (x0.size : Int))) else (ravelinref12_TakeRow.j2 k x0 x5 x6 x8 x9 bt290.1 bt290.2.1 true))) else (none)) else (none)) else (some (x8, x6, true))
def ravelinref12_TakeRow.j2 : Nat → ByteArray → Int → Int → List (S49) → Int → ByteArray → Int → Bool → Option ((List (S49)) × Int × Bool)
 | 0, _, _, _, _, _, _, _, _ => none
 | k + 1, x0, x5, x6, x8, x9, x10, x11, x51 => if x51 = true then (some (([] : List (S49)), 0, false)) else (if 0 ≤ (wrap64 (x6 + x11)) then (if (wrap64 (x6 + x11)) < (x0.size : Int) then (if ((bt x0 (wrap64 (x6 + x11))) = 1) then (if x8.length < 3518437208883 then (ravelinref12_TakeRow.l0 k x0 x5 (wrap64 ((wrap64 (x6 + x11)) + 1)) (x8 ++ [(⟨x10, true, (⟨#[]⟩ : ByteArray)⟩ : S49)]) (wrap64 (x9 + 1))) else (none)) else (if 0 ≤ (wrap64 ((wrap64 (x6 + x11)) + 1)) then (if (wrap64 ((wrap64 (x6 + x11)) + 1)) ≤ (x0.size : Int) then ((ravelinref3_TakeText.f k (x0.extract ((wrap64 ((wrap64 (x6 + x11)) + 1)) : Int).toNat x0.size)).bind fun bt297 => (if bt297.2.2 = 0 then (if x8.length < 3518437208883 then (ravelinref12_TakeRow.l0 k x0 x5 (wrap64 ((wrap64 ((wrap64 (x6 + x11)) + 1)) + bt297.2.1)) (x8 ++ [(⟨x10, false, bt297.1⟩ : S49)]) (wrap64 (x9 + 1))) else (none)) else (some (([] : List (S49)), 0, false)))) else (none)) else (none))) else (none)) else (none))
end
def ravelinref12_TakeRow.f (k : Nat) (a0 : ByteArray) : Option ((List (S49)) × Int × Bool) := (ravelinref3_TakeNum.f k a0).bind fun bt287 => (if bt287.2.2 = 0 then (ravelinref12_TakeRow.j0 k a0 bt287.1 bt287.2.1 (decide (bt287.1 > 8))) else (ravelinref12_TakeRow.j0 k a0 bt287.1 bt287.2.1 true))
theorem ravelinref12_TakeRow.mono_l : ∀ k, (∀ y0 y1 y2 y3, LeO (ravelinref12_TakeRow.j0 k y0 y1 y2 y3) (ravelinref12_TakeRow.j0 (k + 1) y0 y1 y2 y3)) ∧ (∀ y0 y1 y2 y3 y4, LeO (ravelinref12_TakeRow.l0 k y0 y1 y2 y3 y4) (ravelinref12_TakeRow.l0 (k + 1) y0 y1 y2 y3 y4)) ∧ (∀ y0 y1 y2 y3 y4 y5 y6 y7, LeO (ravelinref12_TakeRow.j2 k y0 y1 y2 y3 y4 y5 y6 y7) (ravelinref12_TakeRow.j2 (k + 1) y0 y1 y2 y3 y4 y5 y6 y7))
 | 0 => ⟨fun _ _ _ _ r h => by simp [ravelinref12_TakeRow.j0] at h, fun _ _ _ _ _ r h => by simp [ravelinref12_TakeRow.l0] at h, fun _ _ _ _ _ _ _ _ r h => by simp [ravelinref12_TakeRow.j2] at h⟩
 | k + 1 => by
  obtain ⟨ih0, ih1, ih2⟩ := ravelinref12_TakeRow.mono_l k
  refine ⟨?_, ?_, ?_⟩
  ·intro y0 y1 y2 y3
   unfold ravelinref12_TakeRow.j0
   repeat' first
   | (with_reducible exact ih0 _ _ _ _)
   | (with_reducible exact ih1 _ _ _ _ _)
   | (with_reducible exact ih2 _ _ _ _ _ _ _ _)
   | (with_reducible exact ravelinref3_TakeNum.mono _ _)
   | (with_reducible exact ravelinref3_TakeText.mono _ _)
   | (with_reducible exact LeO.refl _)
   | (with_reducible exact LeO.none _)
   | (with_reducible refine LeO.ite ?_ ?_)
   | (with_reducible refine LeO.bind ?_ (fun _ => ?_))
   | exact ih0 _ _ _ _
   | exact ih1 _ _ _ _ _
   | exact ih2 _ _ _ _ _ _ _ _
   | exact ravelinref3_TakeNum.mono _ _
   | exact ravelinref3_TakeText.mono _ _
   | exact LeO.none _
   | refine LeO.ite ?_ ?_
   | refine LeO.bind ?_ (fun _ => ?_)
  ·intro y0 y1 y2 y3 y4
   unfold ravelinref12_TakeRow.l0
   repeat' first
   | (with_reducible exact ih0 _ _ _ _)
   | (with_reducible exact ih1 _ _ _ _ _)
   | (with_reducible exact ih2 _ _ _ _ _ _ _ _)
   | (with_reducible exact ravelinref3_TakeNum.mono _ _)
   | (with_reducible exact ravelinref3_TakeText.mono _ _)
   | (with_reducible exact LeO.refl _)
   | (with_reducible exact LeO.none _)
   | (with_reducible refine LeO.ite ?_ ?_)
   | (with_reducible refine LeO.bind ?_ (fun _ => ?_))
   | exact ih0 _ _ _ _
   | exact ih1 _ _ _ _ _
   | exact ih2 _ _ _ _ _ _ _ _
   | exact ravelinref3_TakeNum.mono _ _
   | exact ravelinref3_TakeText.mono _ _
   | exact LeO.none _
   | refine LeO.ite ?_ ?_
   | refine LeO.bind ?_ (fun _ => ?_)
  ·intro y0 y1 y2 y3 y4 y5 y6 y7
   unfold ravelinref12_TakeRow.j2
   repeat' first
   | (with_reducible exact ih0 _ _ _ _)
   | (with_reducible exact ih1 _ _ _ _ _)
   | (with_reducible exact ih2 _ _ _ _ _ _ _ _)
   | (with_reducible exact ravelinref3_TakeNum.mono _ _)
   | (with_reducible exact ravelinref3_TakeText.mono _ _)
   | (with_reducible exact LeO.refl _)
   | (with_reducible exact LeO.none _)
   | (with_reducible refine LeO.ite ?_ ?_)
   | (with_reducible refine LeO.bind ?_ (fun _ => ?_))
   | exact ih0 _ _ _ _
   | exact ih1 _ _ _ _ _
   | exact ih2 _ _ _ _ _ _ _ _
   | exact ravelinref3_TakeNum.mono _ _
   | exact ravelinref3_TakeText.mono _ _
   | exact LeO.none _
   | refine LeO.ite ?_ ?_
   | refine LeO.bind ?_ (fun _ => ?_)
theorem ravelinref12_TakeRow.mono : ∀ a0 k, LeO (ravelinref12_TakeRow.f k a0) (ravelinref12_TakeRow.f (k + 1) a0) := by
 intro a0 k
 obtain ⟨ih0, ih1, ih2⟩ := ravelinref12_TakeRow.mono_l k
 unfold ravelinref12_TakeRow.f
 repeat' first
   | (with_reducible exact ih0 _ _ _ _)
   | (with_reducible exact ih1 _ _ _ _ _)
   | (with_reducible exact ih2 _ _ _ _ _ _ _ _)
   | (with_reducible exact ravelinref3_TakeNum.mono _ _)
   | (with_reducible exact ravelinref3_TakeText.mono _ _)
   | (with_reducible exact LeO.refl _)
   | (with_reducible exact LeO.none _)
   | (with_reducible refine LeO.ite ?_ ?_)
   | (with_reducible refine LeO.bind ?_ (fun _ => ?_))
   | exact ih0 _ _ _ _
   | exact ih1 _ _ _ _ _
   | exact ih2 _ _ _ _ _ _ _ _
   | exact ravelinref3_TakeNum.mono _ _
   | exact ravelinref3_TakeText.mono _ _
   | exact LeO.none _
   | refine LeO.ite ?_ ?_
   | refine LeO.bind ?_ (fun _ => ?_)
set_option maxHeartbeats 8000000 in
set_option maxRecDepth 100000 in
theorem ravelinref12_TakeRow.calls (k : Nat) (a0 : ByteArray) (r1 : List (S49)) (r2 : Int) (r3 : Bool) (w : World) (h : ravelinref12_TakeRow.f k a0 = some (r1, r2, r3)) :
  Calls Try.prog 34 #[.string a0] w fun e w' => ∃ v0_ : Value, e = .returned (.tuple #[v0_, .int .i64 r2, .bool r3]) ∧ Kd.R k49 49 w' w.heap.size (fun _ => True) v0_ r1 ∧ Below w.heap.size w w' := by
 have hu49 := Try.underlying49
 have HB := Aside0.mk (Below.refl w.heap.size w)
 have H : ((ravelinref3_TakeNum.f k a0).bind fun bt287 => (if bt287.2.2 = 0 then (ravelinref12_TakeRow.j0 k a0 bt287.1 bt287.2.1 (decide (bt287.1 > 8))) else (ravelinref12_TakeRow.j0 k a0 bt287.1 bt287.2.1 true))) = some (r1, r2, r3) := h
 clear h
 replace H := Option.bind_eq_some_iff.mp H
 obtain ⟨⟨t287, t288, t289⟩, A20, H⟩ := H
 replace H : (if t289 = 0 then (ravelinref12_TakeRow.j0 k a0 t287 t288 (decide (t287 > 8))) else (ravelinref12_TakeRow.j0 k a0 t287 t288 true)) = some (r1, r2, r3) := H
 have A2 := Aside0.mk A20
 clear A20
 have HC3 := Aside0.mk H
 clear H
 go_enter Try.func34, Try.ntmps34
 go_upto_region 2 with (first | ((with_reducible refine gate_callee (f := 33) rfl ?_); refine goesL_ (some 19) rfl rfl Try.func33 (by kernel_rfl) rfl #[.string a0] rfl (by (try simp only [List.map_toArray, List.map_cons, List.map_nil]); first | done | rfl | (simp only [List.length_drop, List.length_take]; rfl)) ?_; (with_reducible refine (ravelinref3_TakeNum.calls k a0 t287 t288 t289 _ A2.out).mono ?_); rintro e w' ⟨rfl, ⟨nd, rfl⟩⟩; refine ⟨_, rfl, ?_⟩))
 (try simp only [Act.put, List.setIfInBounds_toArray, List.set_cons_zero, List.set_cons_succ])
 go_cut [28] (fun v28 wc => ∃ (kq : Nat) (x28_2 : Bool), v28 = .bool x28_2 ∧ Aside0 (ravelinref12_TakeRow.j0 kq a0 t287 t288 x28_2 = some (r1, r2, r3)) ∧ Aside0 (kq ≤ k) ∧ Aside0 (Below w.heap.size w wc))
 case first =>
  have H := HC3.out
  clear HC3
  by_cases c4 : t289 = 0
  ·rw [if_pos c4] at H
   have c4b0 : (t289 == 0) = true := beq_iff_eq.mpr c4
   have c4b1 : (t289 != 0) = false := bne_eq_false_iff_eq.mpr c4
   clear c4
   (first | rw [c4b0] | (simp only [i64_w, i32_w]; rw [c4b0]) | skip)
   have H' := Aside0.mk H
   clear H
   go_wp2
   go_meet
   case rel => exact ⟨_, (decide (t287 > 8)), (by first | rfl | (simp; done) | (simp [*]; done)), H', ⟨by first | omega | exact Nat.le_refl _⟩, ⟨by repeat (first | (with_reducible first | exact HB.out | apply below_alloc | apply pw_below_drewN | apply below_drew1) | exact HB.out)⟩⟩
  ·rw [if_neg c4] at H
   have c4b0 : (t289 == 0) = false := beq_eq_false_iff_ne.mpr c4
   have c4b1 : (t289 != 0) = true := bne_iff_ne.mpr c4
   (first | rw [c4b0] | (simp only [i64_w, i32_w]; rw [c4b0]) | skip)
   have H' := Aside0.mk H
   clear H
   go_wp2
   go_meet
   case rel => exact ⟨_, (true), (by first | rfl | (simp; done) | (simp [*]; done)), H', ⟨by first | omega | exact Nat.le_refl _⟩, ⟨by repeat (first | (with_reducible first | exact HB.out | apply below_alloc | apply pw_below_drewN | apply below_drew1) | exact HB.out)⟩⟩
 case rest =>
  clear HC3
  try clear p2
  try clear c3
  try clear c4
  try clear c4b0
  try clear c4b1
  obtain ⟨kq, x28_2, rfl, HA, HJ2, HB⟩ := hcut
  cases kq with
  | zero => exact absurd HA.out (by simp [ravelinref12_TakeRow.j0])
  | succ kj2 =>
   have H := HA.out
   clear HA
   simp only [ravelinref12_TakeRow.j0] at H
   by_cases c5 : x28_2 = true
   ·subst c5
    have H1 : (some (([] : List (S49)), 0, false)) = some (r1, r2, r3) := by rw [if_pos rfl] at H; exact H
    clear H
    have H := H1
    clear H1
    simp only [Option.some.injEq, Prod.mk.injEq] at H
    obtain ⟨rfl, rfl, rfl⟩ := H
    go_wp2
    go_ret3
    exact ⟨_, by first | rfl | (simp [errW_none, errW_some] <;> rfl) | (simp [*, errW_none, errW_some] <;> rfl), by first | exact Kd.R_nil _ _ _ _ _ | exact Kd.N_nil _ _ _ _ _ | exact Kd.V_nil _ _ _ _ _ | exact Kd.Q_nil _ _ _ _ _ | exact Kd.S_nil _ _ _ _ _, by repeat (first | (with_reducible first | exact HB.out | apply below_alloc | apply pw_below_drewN | apply below_drew1) | exact HB.out)⟩
   ·replace c5 := Bool.eq_false_iff.mpr c5
    subst c5
    have H1 : (ravelinref12_TakeRow.l0 kj2 a0 t287 t288 ([] : List (S49)) 0) = some (r1, r2, r3) := by rw [if_neg (show ¬ (false = true) by decide)] at H; exact H
    clear H
    have H := H1
    clear H1
    have H' := Aside0.mk H
    clear H
    go_wp2
    go_loopg [6, 8, 9] kj2 (fun kq v6 v8 v9 w' => ∃ (x6_2 : Int) (x8_2 : List (S49)) (x9_2 : Int), v6 = .int .i64 x6_2 ∧ v9 = .int .i64 x9_2 ∧ Aside0 (ravelinref12_TakeRow.l0 kq a0 t287 x6_2 x8_2 x9_2 = some (r1, r2, r3)) ∧ Aside0 (kq ≤ kj2) ∧ Aside0 (Kd.R k49 49 w' w.heap.size (fun _ => True) v8 x8_2) ∧ Aside0 (Below w.heap.size w w'))
    case atStart => exact ⟨(t288), (([] : List (S49))), (0), (by first | rfl | (simp; done) | (simp [*]; done)), (by first | rfl | (simp; done) | (simp [*]; done)), H', ⟨Nat.le_refl _⟩, ⟨by first | exact Kd.R_nil _ _ _ _ _ | exact Kd.N_nil _ _ _ _ _ | exact Kd.V_nil _ _ _ _ _ | exact Kd.Q_nil _ _ _ _ _ | exact Kd.S_nil _ _ _ _ _⟩, ⟨by repeat (first | (with_reducible first | exact HB.out | apply below_alloc | apply pw_below_drewN | apply below_drew1) | exact HB.out)⟩⟩
    case round =>
     clear H'
     try clear p2
     try clear c3
     try clear c4
     try clear c4b0
     try clear c4b1
     try clear c5
     try clear p2
     obtain ⟨x6_2, x8_2, x9_2, rfl, rfl, HA, HK2, HO_8, HB⟩ := hrel
     cases gk with
     | zero => exact absurd HA.out (by simp [ravelinref12_TakeRow.l0])
     | succ k2 =>
      have H := HA.out
      clear HA
      simp only [ravelinref12_TakeRow.l0] at H
      by_cases c6 : x9_2 < t287
      ·rw [if_pos c6] at H
       have c6b0 : decide (x9_2 < t287) = true := decide_eq_true c6
       clear c6
       by_cases c7 : 0 ≤ x6_2
       ·rw [if_pos c7] at H
        have c7b0 := eq_true c7
        have c7b1 : decide (0 ≤ x6_2) = true := decide_eq_true c7
        clear c7
        by_cases c8 : x6_2 ≤ (a0.size : Int)
        ·rw [if_pos c8] at H
         have c8b0 := eq_true c8
         have c8b1 : decide (x6_2 ≤ (a0.size : Int)) = true := decide_eq_true c8
         clear c8
         replace H := Option.bind_eq_some_iff.mp H
         obtain ⟨⟨t290, t291, t292⟩, A90, H⟩ := H
         replace H : (if t292 = 0 then (ravelinref12_TakeRow.j2 k2 a0 t287 x6_2 x8_2 x9_2 t290 t291 ((wrap64 (x6_2 + t291)) == (a0.size : Int))) else (ravelinref12_TakeRow.j2 k2 a0 t287 x6_2 x8_2 x9_2 t290 t291 true)) = some (r1, r2, r3) := H
         have A9 := Aside0.mk A90
         clear A90
         have HC10 := Aside0.mk H
         clear H
         go_upto_region 9 with (first | ((with_reducible refine gate_callee (f := 51) rfl ?_); refine goesL_ (some 38) rfl rfl Try.func51 (by kernel_rfl) rfl #[.string (a0.extract (x6_2 : Int).toNat a0.size)] rfl (by (try simp only [List.map_toArray, List.map_cons, List.map_nil]); first | done | rfl | (simp only [List.length_drop, List.length_take]; rfl)) ?_; (with_reducible refine (ravelinref3_TakeText.calls k2 (a0.extract (x6_2 : Int).toNat a0.size) t290 t291 t292 _ A9.out).mono ?_); rintro e w' ⟨rfl, ⟨nd, rfl⟩⟩; refine ⟨_, rfl, ?_⟩))
         (try simp only [Act.put, List.setIfInBounds_toArray, List.set_cons_zero, List.set_cons_succ])
         go_cut [51] (fun v51 wc => ∃ (kq : Nat) (x51_9 : Bool), v51 = .bool x51_9 ∧ Aside0 (ravelinref12_TakeRow.j2 kq a0 t287 x6_2 x8_2 x9_2 t290 t291 x51_9 = some (r1, r2, r3)) ∧ Aside0 (kq ≤ k2) ∧ Aside0 (Kd.R k49 49 wc w.heap.size (fun _ => True) u8 x8_2) ∧ Aside0 (Below w.heap.size w wc))
         case first =>
          have H := HC10.out
          clear HC10
          by_cases c11 : t292 = 0
          ·rw [if_pos c11] at H
           have c11b0 : (t292 == 0) = true := beq_iff_eq.mpr c11
           have c11b1 : (t292 != 0) = false := bne_eq_false_iff_eq.mpr c11
           clear c11
           (first | rw [c11b0] | (simp only [i64_w, i32_w]; rw [c11b0]) | skip)
           have H' := Aside0.mk H
           clear H
           go_wp2
           go_meet
           case rel => exact ⟨_, (((wrap64 (x6_2 + t291)) == (a0.size : Int))), (by first | rfl | (simp; done) | (simp [*]; done)), H', ⟨by have := HJ2.out; have := HK2.out; first | omega | exact Nat.le_refl _⟩, ⟨by (with_reducible repeat (first | apply Kd.R_alloc | apply Kd.R_drewN | apply Kd.R_drew)); exact HO_8.out⟩, ⟨by repeat (first | (with_reducible first | exact HB.out | apply below_alloc | apply pw_below_drewN | apply below_drew1) | exact HB.out)⟩⟩
          ·rw [if_neg c11] at H
           have c11b0 : (t292 == 0) = false := beq_eq_false_iff_ne.mpr c11
           have c11b1 : (t292 != 0) = true := bne_iff_ne.mpr c11
           (first | rw [c11b0] | (simp only [i64_w, i32_w]; rw [c11b0]) | skip)
           have H' := Aside0.mk H
           clear H
           go_wp2
           go_meet
           case rel => exact ⟨_, (true), (by first | rfl | (simp; done) | (simp [*]; done)), H', ⟨by have := HJ2.out; have := HK2.out; first | omega | exact Nat.le_refl _⟩, ⟨by (with_reducible repeat (first | apply Kd.R_alloc | apply Kd.R_drewN | apply Kd.R_drew)); exact HO_8.out⟩, ⟨by repeat (first | (with_reducible first | exact HB.out | apply below_alloc | apply pw_below_drewN | apply below_drew1) | exact HB.out)⟩⟩
         case rest =>
          clear HC10
          try clear c1
          try clear p2
          try clear c3
          try clear c4
          try clear c4b0
          try clear c4b1
          try clear c5
          try clear c6
          try clear c6b0
          try clear p6
          try clear c7
          try clear c7b0
          try clear c7b1
          try clear c8
          try clear c8b0
          try clear c8b1
          try clear c11
          try clear c11b0
          try clear c11b1
          try clear p2
          obtain ⟨kq, x51_9, rfl, HA, HJ9, HO_8, HB⟩ := hcut
          cases kq with
          | zero => exact absurd HA.out (by simp [ravelinref12_TakeRow.j2])
          | succ kj9 =>
           have H := HA.out
           clear HA
           simp only [ravelinref12_TakeRow.j2] at H
           by_cases c12 : x51_9 = true
           ·subst c12
            have H1 : (some (([] : List (S49)), 0, false)) = some (r1, r2, r3) := by rw [if_pos rfl] at H; exact H
            clear H
            have H := H1
            clear H1
            simp only [Option.some.injEq, Prod.mk.injEq] at H
            obtain ⟨rfl, rfl, rfl⟩ := H
            go_wp2
            go_ret3
            exact ⟨_, by first | rfl | (simp [errW_none, errW_some] <;> rfl) | (simp [*, errW_none, errW_some] <;> rfl), by first | exact Kd.R_nil _ _ _ _ _ | exact Kd.N_nil _ _ _ _ _ | exact Kd.V_nil _ _ _ _ _ | exact Kd.Q_nil _ _ _ _ _ | exact Kd.S_nil _ _ _ _ _, by repeat (first | (with_reducible first | exact HB.out | apply below_alloc | apply pw_below_drewN | apply below_drew1) | exact HB.out)⟩
           ·replace c12 := Bool.eq_false_iff.mpr c12
            subst c12
            have H1 : (if 0 ≤ (wrap64 (x6_2 + t291)) then (if (wrap64 (x6_2 + t291)) < (a0.size : Int) then (if ((bt a0 (wrap64 (x6_2 + t291))) = 1) then (if x8_2.length < 3518437208883 then (ravelinref12_TakeRow.l0 kj9 a0 t287 (wrap64 ((wrap64 (x6_2 + t291)) + 1)) (x8_2 ++ [(⟨t290, true, (⟨#[]⟩ : ByteArray)⟩ : S49)]) (wrap64 (x9_2 + 1))) else (none)) else (if 0 ≤ (wrap64 ((wrap64 (x6_2 + t291)) + 1)) then (if (wrap64 ((wrap64 (x6_2 + t291)) + 1)) ≤ (a0.size : Int) then ((ravelinref3_TakeText.f kj9 (a0.extract ((wrap64 ((wrap64 (x6_2 + t291)) + 1)) : Int).toNat a0.size)).bind fun bt297 => (if bt297.2.2 = 0 then (if x8_2.length < 3518437208883 then (ravelinref12_TakeRow.l0 kj9 a0 t287 (wrap64 ((wrap64 ((wrap64 (x6_2 + t291)) + 1)) + bt297.2.1)) (x8_2 ++ [(⟨t290, false, bt297.1⟩ : S49)]) (wrap64 (x9_2 + 1))) else (none)) else (some (([] : List (S49)), 0, false)))) else (none)) else (none))) else (none)) else (none)) = some (r1, r2, r3) := by rw [if_neg (show ¬ (false = true) by decide)] at H; exact H
            clear H
            have H := H1
            clear H1
            obtain ⟨ji13, hji13⟩ : ∃ j_ : Int, (wrap64 (x6_2 + t291)) = j_ := ⟨_, rfl⟩
            replace H : (if 0 ≤ (ji13) then (if (ji13) < (a0.size : Int) then (if ((bt a0 (ji13)) = 1) then (if x8_2.length < 3518437208883 then (ravelinref12_TakeRow.l0 kj9 a0 t287 (wrap64 ((ji13) + 1)) (x8_2 ++ [(⟨t290, true, (⟨#[]⟩ : ByteArray)⟩ : S49)]) (wrap64 (x9_2 + 1))) else (none)) else (if 0 ≤ (wrap64 ((ji13) + 1)) then (if (wrap64 ((ji13) + 1)) ≤ (a0.size : Int) then ((ravelinref3_TakeText.f kj9 (a0.extract ((wrap64 ((ji13) + 1)) : Int).toNat a0.size)).bind fun bt297 => (if bt297.2.2 = 0 then (if x8_2.length < 3518437208883 then (ravelinref12_TakeRow.l0 kj9 a0 t287 (wrap64 ((wrap64 ((ji13) + 1)) + bt297.2.1)) (x8_2 ++ [(⟨t290, false, bt297.1⟩ : S49)]) (wrap64 (x9_2 + 1))) else (none)) else (some (([] : List (S49)), 0, false)))) else (none)) else (none))) else (none)) else (none)) = some (r1, r2, r3) := by first | (rw [hji13] at H; exact H) | (simp only [hji13] at H ⊢; exact H)
            have hji13w : (IntKind.i64.wrap (x6_2 + t291)) = ji13 := (i64_w _).trans hji13
            by_cases c14 : 0 ≤ (ji13)
            ·rw [if_pos c14] at H
             have c14b0 : decide (0 ≤ (ji13)) = true := decide_eq_true c14
             clear c14
             by_cases c15 : (ji13) < (a0.size : Int)
             ·rw [if_pos c15] at H
              have c15b0 : decide ((ji13) < (a0.size : Int)) = true := decide_eq_true c15
              clear c15
              by_cases c17 : ((bt a0 (ji13)) = 1)
              ·rw [if_pos c17] at H
               have c17b0 : ((bt a0 (ji13)) == 1) = true := beq_iff_eq.mpr c17
               have c17b1 : ((bt a0 (ji13)) != 1) = false := bne_eq_false_iff_eq.mpr c17
               clear c17
               by_cases c18 : x8_2.length < 3518437208883
               ·rw [if_pos c18] at H
                have LMc18 := Aside0.mk c18
                clear c18
                obtain ⟨y294, hy294⟩ : ∃ y_ : List (S49), y_ = (x8_2 ++ [(⟨t290, true, (⟨#[]⟩ : ByteArray)⟩ : S49)]) := ⟨_, rfl⟩
                replace H : (ravelinref12_TakeRow.l0 kj9 a0 t287 (wrap64 ((ji13) + 1)) y294 (wrap64 (x9_2 + 1))) = some (r1, r2, r3) := by first | (rw [hy294]; with_reducible exact H) | (have H2_ := (Option.bind_some _ _).symm.trans H; rw [hy294]; with_reducible exact H2_) | (have H2_ := (Option.bind_some _ _).symm.trans H; with_reducible exact H2_) | with_reducible exact H | (rw [hy294]; exact H) | exact H
                have Ny294 := Aside0.mk hy294
                clear hy294
                have H' := Aside0.mk H
                clear H
                have p16 : 0 ≤ ((ji13) : Int) := of_decide_eq_true (by first | (with_reducible assumption) | assumption)
                have q16 : (ji13) < (a0.size : Int) := of_decide_eq_true (by first | (with_reducible assumption) | assumption)
                have hx16 := bt_at a0 (ji13)
                replace p16 := eq_true p16
                replace q16 := eq_true q16
                go_wp2_with (first | ((with_reducible refine gate_dst (N := 13) rfl ?_); (try (refine gate_guard (by rfl) ?_; dsimp only)); refine box_event ?hg (N := 13) ?hd (cs := #[.string (⟨#[]⟩ : ByteArray), .bool false, .string (⟨#[]⟩ : ByteArray)]) (t := 49) ?hr ?_; (case hd => rfl); (case hg => rfl); (case hr => first | (go_simp; done) | (go_simp; rfl)); intro gb293 hg w19 hbox hb; have n0_ := Aside0.mk (Kd.R_below (Kd.R_elderB (by (with_reducible repeat (first | apply Kd.R_alloc | apply Kd.R_drewN | apply Kd.R_drew)); exact HO_8.out) gb293 (Nat.le_of_eq hg.symm)) hb); have n1_ := Aside0.mk (below_step (by repeat (first | (with_reducible first | exact HB.out | apply below_alloc | apply pw_below_drewN | apply below_drew1) | exact HB.out)) hb); have n2_ := Aside0.mk (hbox); have n3_ := Aside0.mk ((by rw [hg]; exact (below_size (by repeat (first | (with_reducible first | exact HB.out | apply below_alloc | apply pw_below_drewN | apply below_drew1) | exact HB.out))) : w.heap.size ≤ gb293)); have n4_ := Aside0.mk ((by rw [hg]; exact (below_size (by repeat (first | (with_reducible first | exact HB.out | apply below_alloc | apply pw_below_drewN | apply below_drew1) | exact HB.out))) : w.heap.size ≤ gb293)); clear HO_8; clear HB; have HO_8 := n0_; have HB := n1_; have BK293 := n2_; have GW293 := n3_; have GE293 := n4_; clear n0_ n1_ n2_ n3_ n4_; clear hb hbox hg; (try (have hcq293_0 : ∀ v0_ v1_ v2_, (((w19.setCell ⟨gb293, 0, none⟩ v0_).setCell ⟨gb293, 1, none⟩ v1_).setCell ⟨gb293, 2, none⟩ v2_).cell? ⟨gb293, 0, none⟩ = some v0_ := (by intro v0_ v1_ v2_; have z0_ : w19.cell? ⟨gb293, 0, none⟩ = some (.string (⟨#[]⟩ : ByteArray)) := (blk_cell BK293.out 0).trans rfl; have z1_ : w19.cell? ⟨gb293, 1, none⟩ = some (.bool false) := (blk_cell BK293.out 1).trans rfl; have z2_ : w19.cell? ⟨gb293, 2, none⟩ = some (.string (⟨#[]⟩ : ByteArray)) := (blk_cell BK293.out 2).trans rfl; go_simp))); (try (have hcq293_1 : ∀ v0_ v1_ v2_, (((w19.setCell ⟨gb293, 0, none⟩ v0_).setCell ⟨gb293, 1, none⟩ v1_).setCell ⟨gb293, 2, none⟩ v2_).cell? ⟨gb293, 1, none⟩ = some v1_ := (by intro v0_ v1_ v2_; have z0_ : w19.cell? ⟨gb293, 0, none⟩ = some (.string (⟨#[]⟩ : ByteArray)) := (blk_cell BK293.out 0).trans rfl; have z1_ : w19.cell? ⟨gb293, 1, none⟩ = some (.bool false) := (blk_cell BK293.out 1).trans rfl; have z2_ : w19.cell? ⟨gb293, 2, none⟩ = some (.string (⟨#[]⟩ : ByteArray)) := (blk_cell BK293.out 2).trans rfl; go_simp))); (try (have hcq293_2 : ∀ v0_ v1_ v2_, (((w19.setCell ⟨gb293, 0, none⟩ v0_).setCell ⟨gb293, 1, none⟩ v1_).setCell ⟨gb293, 2, none⟩ v2_).cell? ⟨gb293, 2, none⟩ = some v2_ := (by intro v0_ v1_ v2_; have z0_ : w19.cell? ⟨gb293, 0, none⟩ = some (.string (⟨#[]⟩ : ByteArray)) := (blk_cell BK293.out 0).trans rfl; have z1_ : w19.cell? ⟨gb293, 1, none⟩ = some (.bool false) := (blk_cell BK293.out 1).trans rfl; have z2_ : w19.cell? ⟨gb293, 2, none⟩ = some (.string (⟨#[]⟩ : ByteArray)) := (blk_cell BK293.out 2).trans rfl; go_simp))); have hcz20_0 : w19.cell? ⟨gb293, 0, none⟩ = some (.string (⟨#[]⟩ : ByteArray)) := (blk_cell BK293.out 0).trans rfl; have hcz20_1 : w19.cell? ⟨gb293, 1, none⟩ = some (.bool false) := (blk_cell BK293.out 1).trans rfl; have hcz20_2 : w19.cell? ⟨gb293, 2, none⟩ = some (.string (⟨#[]⟩ : ByteArray)) := (blk_cell BK293.out 2).trans rfl; have hfz20_0 := blk_frozen BK293.out 0; have hfz20_1 := blk_frozen BK293.out 1; have hfz20_2 := blk_frozen BK293.out 2) | ((with_reducible refine gate_builtin (b := .append) (xs := #[.tmp 82, .tmp 84]) rfl ?_); (try (refine gate_guard (by rfl) ?_; dsimp only)); at_builtin; refine Kd.R_append k49 (w0 := w) w.heap.size rfl (.tmp 82) (.tmp 84) 22 49 (.agg #[(.string ⟨#[]⟩), (.bool false), (.string ⟨#[]⟩)]) 40 rfl Try.underlying22 info49 rfl (by decide) (by omega) u8 x8_2 (⟨t290, true, (⟨#[]⟩ : ByteArray)⟩ : S49) [.string t290, .bool true, .string (⟨#[]⟩ : ByteArray)] (fun k_ => k_ ≠ gb293) (fun _ => False) rfl (by first | (go_simp; done) | (go_simp; rfl)) ?aP (fun _ hk => hk.elim) ?aF ?aO ?aB ?aS ?aL ?_; (case aP => exact k49_mkM _ _ _ (⟨t290, true, (⟨#[]⟩ : ByteArray)⟩ : S49)); (case aB => exact (by repeat (first | (with_reducible first | exact HB.out | apply below_alloc | apply pw_below_drewN | apply below_drew1 | refine below_set ?_ GE293.out) | exact HB.out))); (case aF => exact (fun k_ hk => Kd.freshB (g := gb293) (o := .cells #[.string t290, .bool true, .string (⟨#[]⟩ : ByteArray)] 49 (0, 0)) (by (with_reducible repeat (first | refine blk_drewN ?_ _ | refine blk_drew ?_ | refine blk_alloc ?_ _)); refine blk_put (cs := #[.string t290, .bool true, .string (⟨#[]⟩ : ByteArray)]) ?_ 2 _ rfl; (with_reducible repeat (first | refine blk_drewN ?_ _ | refine blk_drew ?_ | refine blk_alloc ?_ _)); refine blk_put (cs := #[.string t290, .bool false, .string (⟨#[]⟩ : ByteArray)]) ?_ 1 _ rfl; (with_reducible repeat (first | refine blk_drewN ?_ _ | refine blk_drew ?_ | refine blk_alloc ?_ _)); refine blk_put (cs := #[.string (⟨#[]⟩ : ByteArray), .bool false, .string (⟨#[]⟩ : ByteArray)]) ?_ 0 _ rfl; (with_reducible repeat (first | refine blk_drewN ?_ _ | refine blk_drew ?_ | refine blk_alloc ?_ _)); exact BK293.out) k_ hk)); (case aO => exact (by (with_reducible repeat (first | apply Kd.R_alloc | apply Kd.R_drewN | apply Kd.R_drew)); exact Kd.R_mono (Kd.R_far (p := ⟨gb293, 2, none⟩) (Kd.R_far (p := ⟨gb293, 1, none⟩) (Kd.R_far (p := ⟨gb293, 0, none⟩) (Kd.R_mono HO_8.out (fun k_ hk => (⟨hk, hk.2⟩ : _ ∧ k_ ≠ gb293))) (fun _ hk => hk.2) (.string t290)) (fun _ hk => hk.2) (.bool true)) (fun _ hk => hk.2) (.string (⟨#[]⟩ : ByteArray))) (fun _ hk => hk.1.2))); (case aS => exact (below_size (by repeat (first | (with_reducible first | exact HB.out | apply below_alloc | apply pw_below_drewN | apply below_drew1 | refine below_set ?_ GE293.out) | exact HB.out)))); (case aL => have := LMc18.out; omega); intro v295 w21 ho hb hg hat; rw [← Ny294.out] at ho; have n0_ := Aside0.mk (blk_grown (g := gb293) (o := .cells #[.string t290, .bool true, .string (⟨#[]⟩ : ByteArray)] 49 (0, 0)) (by (with_reducible repeat (first | refine blk_drewN ?_ _ | refine blk_drew ?_ | refine blk_alloc ?_ _)); refine blk_put (cs := #[.string t290, .bool true, .string (⟨#[]⟩ : ByteArray)]) ?_ 2 _ rfl; (with_reducible repeat (first | refine blk_drewN ?_ _ | refine blk_drew ?_ | refine blk_alloc ?_ _)); refine blk_put (cs := #[.string t290, .bool false, .string (⟨#[]⟩ : ByteArray)]) ?_ 1 _ rfl; (with_reducible repeat (first | refine blk_drewN ?_ _ | refine blk_drew ?_ | refine blk_alloc ?_ _)); refine blk_put (cs := #[.string (⟨#[]⟩ : ByteArray), .bool false, .string (⟨#[]⟩ : ByteArray)]) ?_ 0 _ rfl; (with_reducible repeat (first | refine blk_drewN ?_ _ | refine blk_drew ?_ | refine blk_alloc ?_ _)); exact BK293.out) hg (Kd.R_away HO_8.out (fun _ hk => hk.2))); have n1_ := Aside0.mk (hb); have n2_ := Aside0.mk (ho); clear BK293; clear HB; clear HO_8; have BK293 := n0_; have HB := n1_; have HO296 := n2_; clear n0_ n1_ n2_; clear ho hb hg hat))
                go_roundg kj9
                case measure => have := HJ2.out; have := HK2.out; have := HJ9.out; omega
                case rel => exact ⟨(wrap64 ((ji13) + 1)), (y294), (wrap64 (x9_2 + 1)), (by first | rfl | (simp; done) | (simp only [← hji13] <;> (first | rfl | simp)) | (simp [*]; done)), (by first | rfl | (simp; done) | (simp [*]; done)), H', ⟨by have := HJ2.out; have := HK2.out; have := HJ9.out; omega⟩, ⟨by (with_reducible repeat (first | apply Kd.R_alloc | apply Kd.R_drewN | apply Kd.R_drew)); exact Kd.R_mono HO296.out (fun _ hk => trivial)⟩, ⟨by repeat (first | (with_reducible first | exact HB.out | apply below_alloc | apply pw_below_drewN | apply below_drew1 | refine below_set ?_ GE293.out) | exact HB.out)⟩⟩
               ·rw [if_neg c18] at H
                exact absurd H (by simp)
              ·rw [if_neg c17] at H
               have c17b0 : ((bt a0 (ji13)) == 1) = false := beq_eq_false_iff_ne.mpr c17
               have c17b1 : ((bt a0 (ji13)) != 1) = true := bne_iff_ne.mpr c17
               obtain ⟨ji22, hji22⟩ : ∃ j_ : Int, (wrap64 ((ji13) + 1)) = j_ := ⟨_, rfl⟩
               replace H : (if 0 ≤ (ji22) then (if (ji22) ≤ (a0.size : Int) then ((ravelinref3_TakeText.f kj9 (a0.extract ((ji22) : Int).toNat a0.size)).bind fun bt297 => (if bt297.2.2 = 0 then (if x8_2.length < 3518437208883 then (ravelinref12_TakeRow.l0 kj9 a0 t287 (wrap64 ((ji22) + bt297.2.1)) (x8_2 ++ [(⟨t290, false, bt297.1⟩ : S49)]) (wrap64 (x9_2 + 1))) else (none)) else (some (([] : List (S49)), 0, false)))) else (none)) else (none)) = some (r1, r2, r3) := by first | (rw [hji22] at H; exact H) | (simp only [hji22] at H ⊢; exact H)
               have hji22w : (IntKind.i64.wrap ((ji13) + 1)) = ji22 := (i64_w _).trans hji22
               by_cases c23 : 0 ≤ (ji22)
               ·rw [if_pos c23] at H
                have c23b0 := eq_true c23
                have c23b1 : decide (0 ≤ (ji22)) = true := decide_eq_true c23
                clear c23
                by_cases c24 : (ji22) ≤ (a0.size : Int)
                ·rw [if_pos c24] at H
                 have c24b0 := eq_true c24
                 have c24b1 : decide ((ji22) ≤ (a0.size : Int)) = true := decide_eq_true c24
                 clear c24
                 replace H := Option.bind_eq_some_iff.mp H
                 obtain ⟨⟨t297, t298, t299⟩, A250, H⟩ := H
                 replace H : (if t299 = 0 then (if x8_2.length < 3518437208883 then (ravelinref12_TakeRow.l0 kj9 a0 t287 (wrap64 ((ji22) + t298)) (x8_2 ++ [(⟨t290, false, t297⟩ : S49)]) (wrap64 (x9_2 + 1))) else (none)) else (some (([] : List (S49)), 0, false))) = some (r1, r2, r3) := H
                 have A25 := Aside0.mk A250
                 clear A250
                 by_cases c26 : t299 = 0
                 ·rw [if_pos c26] at H
                  have c26b0 : (t299 == 0) = true := beq_iff_eq.mpr c26
                  have c26b1 : (t299 != 0) = false := bne_eq_false_iff_eq.mpr c26
                  clear c26
                  by_cases c27 : x8_2.length < 3518437208883
                  ·rw [if_pos c27] at H
                   have LMc27 := Aside0.mk c27
                   clear c27
                   obtain ⟨y300, hy300⟩ : ∃ y_ : List (S49), y_ = (x8_2 ++ [(⟨t290, false, t297⟩ : S49)]) := ⟨_, rfl⟩
                   replace H : (ravelinref12_TakeRow.l0 kj9 a0 t287 (wrap64 ((ji22) + t298)) y300 (wrap64 (x9_2 + 1))) = some (r1, r2, r3) := by first | (rw [hy300]; with_reducible exact H) | (have H2_ := (Option.bind_some _ _).symm.trans H; rw [hy300]; with_reducible exact H2_) | (have H2_ := (Option.bind_some _ _).symm.trans H; with_reducible exact H2_) | with_reducible exact H | (rw [hy300]; exact H) | exact H
                   have Ny300 := Aside0.mk hy300
                   clear hy300
                   have H' := Aside0.mk H
                   clear H
                   have p16 : 0 ≤ ((ji13) : Int) := of_decide_eq_true (by first | (with_reducible assumption) | assumption)
                   have q16 : (ji13) < (a0.size : Int) := of_decide_eq_true (by first | (with_reducible assumption) | assumption)
                   have hx16 := bt_at a0 (ji13)
                   replace p16 := eq_true p16
                   replace q16 := eq_true q16
                   go_wp2_with (first | ((with_reducible refine gate_dst (N := 13) rfl ?_); (try (refine gate_guard (by rfl) ?_; dsimp only)); refine box_event ?hg (N := 13) ?hd (cs := #[.string (⟨#[]⟩ : ByteArray), .bool false, .string (⟨#[]⟩ : ByteArray)]) (t := 49) ?hr ?_; (case hd => rfl); (case hg => rfl); (case hr => first | (go_simp; done) | (go_simp; rfl)); intro gb293 hg w28 hbox hb; have n0_ := Aside0.mk (Kd.R_below (Kd.R_elderB (by (with_reducible repeat (first | apply Kd.R_alloc | apply Kd.R_drewN | apply Kd.R_drew)); exact HO_8.out) gb293 (Nat.le_of_eq hg.symm)) hb); have n1_ := Aside0.mk (below_step (by repeat (first | (with_reducible first | exact HB.out | apply below_alloc | apply pw_below_drewN | apply below_drew1) | exact HB.out)) hb); have n2_ := Aside0.mk (hbox); have n3_ := Aside0.mk ((by rw [hg]; exact (below_size (by repeat (first | (with_reducible first | exact HB.out | apply below_alloc | apply pw_below_drewN | apply below_drew1) | exact HB.out))) : w.heap.size ≤ gb293)); have n4_ := Aside0.mk ((by rw [hg]; exact (below_size (by repeat (first | (with_reducible first | exact HB.out | apply below_alloc | apply pw_below_drewN | apply below_drew1) | exact HB.out))) : w.heap.size ≤ gb293)); clear HO_8; clear HB; have HO_8 := n0_; have HB := n1_; have BK293 := n2_; have GW293 := n3_; have GE293 := n4_; clear n0_ n1_ n2_ n3_ n4_; clear hb hbox hg; (try (have hcq293_0 : ∀ v0_ v1_ v2_, (((w28.setCell ⟨gb293, 0, none⟩ v0_).setCell ⟨gb293, 1, none⟩ v1_).setCell ⟨gb293, 2, none⟩ v2_).cell? ⟨gb293, 0, none⟩ = some v0_ := (by intro v0_ v1_ v2_; have z0_ : w28.cell? ⟨gb293, 0, none⟩ = some (.string (⟨#[]⟩ : ByteArray)) := (blk_cell BK293.out 0).trans rfl; have z1_ : w28.cell? ⟨gb293, 1, none⟩ = some (.bool false) := (blk_cell BK293.out 1).trans rfl; have z2_ : w28.cell? ⟨gb293, 2, none⟩ = some (.string (⟨#[]⟩ : ByteArray)) := (blk_cell BK293.out 2).trans rfl; go_simp))); (try (have hcq293_1 : ∀ v0_ v1_ v2_, (((w28.setCell ⟨gb293, 0, none⟩ v0_).setCell ⟨gb293, 1, none⟩ v1_).setCell ⟨gb293, 2, none⟩ v2_).cell? ⟨gb293, 1, none⟩ = some v1_ := (by intro v0_ v1_ v2_; have z0_ : w28.cell? ⟨gb293, 0, none⟩ = some (.string (⟨#[]⟩ : ByteArray)) := (blk_cell BK293.out 0).trans rfl; have z1_ : w28.cell? ⟨gb293, 1, none⟩ = some (.bool false) := (blk_cell BK293.out 1).trans rfl; have z2_ : w28.cell? ⟨gb293, 2, none⟩ = some (.string (⟨#[]⟩ : ByteArray)) := (blk_cell BK293.out 2).trans rfl; go_simp))); (try (have hcq293_2 : ∀ v0_ v1_ v2_, (((w28.setCell ⟨gb293, 0, none⟩ v0_).setCell ⟨gb293, 1, none⟩ v1_).setCell ⟨gb293, 2, none⟩ v2_).cell? ⟨gb293, 2, none⟩ = some v2_ := (by intro v0_ v1_ v2_; have z0_ : w28.cell? ⟨gb293, 0, none⟩ = some (.string (⟨#[]⟩ : ByteArray)) := (blk_cell BK293.out 0).trans rfl; have z1_ : w28.cell? ⟨gb293, 1, none⟩ = some (.bool false) := (blk_cell BK293.out 1).trans rfl; have z2_ : w28.cell? ⟨gb293, 2, none⟩ = some (.string (⟨#[]⟩ : ByteArray)) := (blk_cell BK293.out 2).trans rfl; go_simp))); have hcz29_0 : w28.cell? ⟨gb293, 0, none⟩ = some (.string (⟨#[]⟩ : ByteArray)) := (blk_cell BK293.out 0).trans rfl; have hcz29_1 : w28.cell? ⟨gb293, 1, none⟩ = some (.bool false) := (blk_cell BK293.out 1).trans rfl; have hcz29_2 : w28.cell? ⟨gb293, 2, none⟩ = some (.string (⟨#[]⟩ : ByteArray)) := (blk_cell BK293.out 2).trans rfl; have hfz29_0 := blk_frozen BK293.out 0; have hfz29_1 := blk_frozen BK293.out 1; have hfz29_2 := blk_frozen BK293.out 2) | ((with_reducible refine gate_callee (f := 51) rfl ?_); refine goesL_ (some 71) rfl rfl Try.func51 (by kernel_rfl) rfl #[.string (a0.extract ((ji22) : Int).toNat a0.size)] rfl (by (try simp only [List.map_toArray, List.map_cons, List.map_nil]); first | done | (simp only [hji22]; rfl) | rfl | (simp only [List.length_drop, List.length_take]; rfl)) ?_; (with_reducible refine (ravelinref3_TakeText.calls kj9 (a0.extract ((ji22) : Int).toNat a0.size) t297 t298 t299 _ A25.out).mono ?_); rintro e w' ⟨rfl, ⟨nd, rfl⟩⟩; refine ⟨_, rfl, ?_⟩) | ((with_reducible refine gate_builtin (b := .append) (xs := #[.tmp 82, .tmp 84]) rfl ?_); (try (refine gate_guard (by rfl) ?_; dsimp only)); at_builtin; refine Kd.R_append k49 (w0 := w) w.heap.size rfl (.tmp 82) (.tmp 84) 22 49 (.agg #[(.string ⟨#[]⟩), (.bool false), (.string ⟨#[]⟩)]) 40 rfl Try.underlying22 info49 rfl (by decide) (by omega) u8 x8_2 (⟨t290, false, t297⟩ : S49) [.string t290, .bool false, .string t297] (fun k_ => k_ ≠ gb293) (fun _ => False) rfl (by first | (go_simp; done) | (go_simp; rfl)) ?aP (fun _ hk => hk.elim) ?aF ?aO ?aB ?aS ?aL ?_; (case aP => exact k49_mkM _ _ _ (⟨t290, false, t297⟩ : S49)); (case aB => exact (by repeat (first | (with_reducible first | exact HB.out | apply below_alloc | apply pw_below_drewN | apply below_drew1 | refine below_set ?_ GE293.out) | exact HB.out))); (case aF => exact (fun k_ hk => Kd.freshB (g := gb293) (o := .cells #[.string t290, .bool false, .string t297] 49 (0, 0)) (by (with_reducible repeat (first | refine blk_drewN ?_ _ | refine blk_drew ?_ | refine blk_alloc ?_ _)); refine blk_put (cs := #[.string t290, .bool false, .string (⟨#[]⟩ : ByteArray)]) ?_ 2 _ rfl; (with_reducible repeat (first | refine blk_drewN ?_ _ | refine blk_drew ?_ | refine blk_alloc ?_ _)); refine blk_put (cs := #[.string t290, .bool false, .string (⟨#[]⟩ : ByteArray)]) ?_ 2 _ rfl; (with_reducible repeat (first | refine blk_drewN ?_ _ | refine blk_drew ?_ | refine blk_alloc ?_ _)); refine blk_put (cs := #[.string t290, .bool false, .string (⟨#[]⟩ : ByteArray)]) ?_ 1 _ rfl; (with_reducible repeat (first | refine blk_drewN ?_ _ | refine blk_drew ?_ | refine blk_alloc ?_ _)); refine blk_put (cs := #[.string (⟨#[]⟩ : ByteArray), .bool false, .string (⟨#[]⟩ : ByteArray)]) ?_ 0 _ rfl; (with_reducible repeat (first | refine blk_drewN ?_ _ | refine blk_drew ?_ | refine blk_alloc ?_ _)); exact BK293.out) k_ hk)); (case aO => exact (by (with_reducible repeat (first | apply Kd.R_alloc | apply Kd.R_drewN | apply Kd.R_drew)); exact Kd.R_mono (Kd.R_far (p := ⟨gb293, 2, none⟩) (Kd.R_far (p := ⟨gb293, 2, none⟩) (Kd.R_far (p := ⟨gb293, 1, none⟩) (Kd.R_far (p := ⟨gb293, 0, none⟩) (Kd.R_mono HO_8.out (fun k_ hk => (⟨hk, hk.2⟩ : _ ∧ k_ ≠ gb293))) (fun _ hk => hk.2) (.string t290)) (fun _ hk => hk.2) (.bool false)) (fun _ hk => hk.2) (.string (⟨#[]⟩ : ByteArray))) (fun _ hk => hk.2) (.string t297)) (fun _ hk => hk.1.2))); (case aS => exact (below_size (by repeat (first | (with_reducible first | exact HB.out | apply below_alloc | apply pw_below_drewN | apply below_drew1 | refine below_set ?_ GE293.out) | exact HB.out)))); (case aL => have := LMc27.out; omega); intro v301 w30 ho hb hg hat; rw [← Ny300.out] at ho; have n0_ := Aside0.mk (blk_grown (g := gb293) (o := .cells #[.string t290, .bool false, .string t297] 49 (0, 0)) (by (with_reducible repeat (first | refine blk_drewN ?_ _ | refine blk_drew ?_ | refine blk_alloc ?_ _)); refine blk_put (cs := #[.string t290, .bool false, .string (⟨#[]⟩ : ByteArray)]) ?_ 2 _ rfl; (with_reducible repeat (first | refine blk_drewN ?_ _ | refine blk_drew ?_ | refine blk_alloc ?_ _)); refine blk_put (cs := #[.string t290, .bool false, .string (⟨#[]⟩ : ByteArray)]) ?_ 2 _ rfl; (with_reducible repeat (first | refine blk_drewN ?_ _ | refine blk_drew ?_ | refine blk_alloc ?_ _)); refine blk_put (cs := #[.string t290, .bool false, .string (⟨#[]⟩ : ByteArray)]) ?_ 1 _ rfl; (with_reducible repeat (first | refine blk_drewN ?_ _ | refine blk_drew ?_ | refine blk_alloc ?_ _)); refine blk_put (cs := #[.string (⟨#[]⟩ : ByteArray), .bool false, .string (⟨#[]⟩ : ByteArray)]) ?_ 0 _ rfl; (with_reducible repeat (first | refine blk_drewN ?_ _ | refine blk_drew ?_ | refine blk_alloc ?_ _)); exact BK293.out) hg (Kd.R_away HO_8.out (fun _ hk => hk.2))); have n1_ := Aside0.mk (hb); have n2_ := Aside0.mk (ho); clear BK293; clear HB; clear HO_8; have BK293 := n0_; have HB := n1_; have HO302 := n2_; clear n0_ n1_ n2_; clear ho hb hg hat))
                   go_roundg kj9
                   case measure => have := HJ2.out; have := HK2.out; have := HJ9.out; omega
                   case rel => exact ⟨(wrap64 ((ji22) + t298)), (y300), (wrap64 (x9_2 + 1)), (by first | rfl | (simp; done) | (simp only [← hji22] <;> (first | rfl | simp)) | (simp [*]; done)), (by first | rfl | (simp; done) | (simp [*]; done)), H', ⟨by have := HJ2.out; have := HK2.out; have := HJ9.out; omega⟩, ⟨by (with_reducible repeat (first | apply Kd.R_alloc | apply Kd.R_drewN | apply Kd.R_drew)); exact Kd.R_mono HO302.out (fun _ hk => trivial)⟩, ⟨by repeat (first | (with_reducible first | exact HB.out | apply below_alloc | apply pw_below_drewN | apply below_drew1 | refine below_set ?_ GE293.out) | exact HB.out)⟩⟩
                  ·rw [if_neg c27] at H
                   exact absurd H (by simp)
                 ·rw [if_neg c26] at H
                  have c26b0 : (t299 == 0) = false := beq_eq_false_iff_ne.mpr c26
                  have c26b1 : (t299 != 0) = true := bne_iff_ne.mpr c26
                  simp only [Option.some.injEq, Prod.mk.injEq] at H
                  obtain ⟨rfl, rfl, rfl⟩ := H
                  have p16 : 0 ≤ ((ji13) : Int) := of_decide_eq_true (by first | (with_reducible assumption) | assumption)
                  have q16 : (ji13) < (a0.size : Int) := of_decide_eq_true (by first | (with_reducible assumption) | assumption)
                  have hx16 := bt_at a0 (ji13)
                  replace p16 := eq_true p16
                  replace q16 := eq_true q16
                  go_wp2_with (first | ((with_reducible refine gate_dst (N := 13) rfl ?_); (try (refine gate_guard (by rfl) ?_; dsimp only)); refine box_event ?hg (N := 13) ?hd (cs := #[.string (⟨#[]⟩ : ByteArray), .bool false, .string (⟨#[]⟩ : ByteArray)]) (t := 49) ?hr ?_; (case hd => rfl); (case hg => rfl); (case hr => first | (go_simp; done) | (go_simp; rfl)); intro gb293 hg w31 hbox hb; have n0_ := Aside0.mk (Kd.R_below (Kd.R_elderB (by (with_reducible repeat (first | apply Kd.R_alloc | apply Kd.R_drewN | apply Kd.R_drew)); exact HO_8.out) gb293 (Nat.le_of_eq hg.symm)) hb); have n1_ := Aside0.mk (below_step (by repeat (first | (with_reducible first | exact HB.out | apply below_alloc | apply pw_below_drewN | apply below_drew1) | exact HB.out)) hb); have n2_ := Aside0.mk (hbox); have n3_ := Aside0.mk ((by rw [hg]; exact (below_size (by repeat (first | (with_reducible first | exact HB.out | apply below_alloc | apply pw_below_drewN | apply below_drew1) | exact HB.out))) : w.heap.size ≤ gb293)); have n4_ := Aside0.mk ((by rw [hg]; exact (below_size (by repeat (first | (with_reducible first | exact HB.out | apply below_alloc | apply pw_below_drewN | apply below_drew1) | exact HB.out))) : w.heap.size ≤ gb293)); clear HO_8; clear HB; have HO_8 := n0_; have HB := n1_; have BK293 := n2_; have GW293 := n3_; have GE293 := n4_; clear n0_ n1_ n2_ n3_ n4_; clear hb hbox hg; (try (have hcq293_0 : ∀ v0_ v1_ v2_, (((w31.setCell ⟨gb293, 0, none⟩ v0_).setCell ⟨gb293, 1, none⟩ v1_).setCell ⟨gb293, 2, none⟩ v2_).cell? ⟨gb293, 0, none⟩ = some v0_ := (by intro v0_ v1_ v2_; have z0_ : w31.cell? ⟨gb293, 0, none⟩ = some (.string (⟨#[]⟩ : ByteArray)) := (blk_cell BK293.out 0).trans rfl; have z1_ : w31.cell? ⟨gb293, 1, none⟩ = some (.bool false) := (blk_cell BK293.out 1).trans rfl; have z2_ : w31.cell? ⟨gb293, 2, none⟩ = some (.string (⟨#[]⟩ : ByteArray)) := (blk_cell BK293.out 2).trans rfl; go_simp))); (try (have hcq293_1 : ∀ v0_ v1_ v2_, (((w31.setCell ⟨gb293, 0, none⟩ v0_).setCell ⟨gb293, 1, none⟩ v1_).setCell ⟨gb293, 2, none⟩ v2_).cell? ⟨gb293, 1, none⟩ = some v1_ := (by intro v0_ v1_ v2_; have z0_ : w31.cell? ⟨gb293, 0, none⟩ = some (.string (⟨#[]⟩ : ByteArray)) := (blk_cell BK293.out 0).trans rfl; have z1_ : w31.cell? ⟨gb293, 1, none⟩ = some (.bool false) := (blk_cell BK293.out 1).trans rfl; have z2_ : w31.cell? ⟨gb293, 2, none⟩ = some (.string (⟨#[]⟩ : ByteArray)) := (blk_cell BK293.out 2).trans rfl; go_simp))); (try (have hcq293_2 : ∀ v0_ v1_ v2_, (((w31.setCell ⟨gb293, 0, none⟩ v0_).setCell ⟨gb293, 1, none⟩ v1_).setCell ⟨gb293, 2, none⟩ v2_).cell? ⟨gb293, 2, none⟩ = some v2_ := (by intro v0_ v1_ v2_; have z0_ : w31.cell? ⟨gb293, 0, none⟩ = some (.string (⟨#[]⟩ : ByteArray)) := (blk_cell BK293.out 0).trans rfl; have z1_ : w31.cell? ⟨gb293, 1, none⟩ = some (.bool false) := (blk_cell BK293.out 1).trans rfl; have z2_ : w31.cell? ⟨gb293, 2, none⟩ = some (.string (⟨#[]⟩ : ByteArray)) := (blk_cell BK293.out 2).trans rfl; go_simp))); have hcz32_0 : w31.cell? ⟨gb293, 0, none⟩ = some (.string (⟨#[]⟩ : ByteArray)) := (blk_cell BK293.out 0).trans rfl; have hcz32_1 : w31.cell? ⟨gb293, 1, none⟩ = some (.bool false) := (blk_cell BK293.out 1).trans rfl; have hcz32_2 : w31.cell? ⟨gb293, 2, none⟩ = some (.string (⟨#[]⟩ : ByteArray)) := (blk_cell BK293.out 2).trans rfl; have hfz32_0 := blk_frozen BK293.out 0; have hfz32_1 := blk_frozen BK293.out 1; have hfz32_2 := blk_frozen BK293.out 2) | ((with_reducible refine gate_callee (f := 51) rfl ?_); refine goesL_ (some 71) rfl rfl Try.func51 (by kernel_rfl) rfl #[.string (a0.extract ((ji22) : Int).toNat a0.size)] rfl (by (try simp only [List.map_toArray, List.map_cons, List.map_nil]); first | done | (simp only [hji22]; rfl) | rfl | (simp only [List.length_drop, List.length_take]; rfl)) ?_; (with_reducible refine (ravelinref3_TakeText.calls kj9 (a0.extract ((ji22) : Int).toNat a0.size) t297 t298 t299 _ A25.out).mono ?_); rintro e w' ⟨rfl, ⟨nd, rfl⟩⟩; refine ⟨_, rfl, ?_⟩))
                  go_ret3
                  exact ⟨_, by first | rfl | (simp [errW_none, errW_some] <;> rfl) | (simp only [← hji13, ← hji22]; first | rfl | (simp [errW_none, errW_some] <;> rfl)) | (simp [*, errW_none, errW_some] <;> rfl), by first | exact Kd.R_nil _ _ _ _ _ | exact Kd.N_nil _ _ _ _ _ | exact Kd.V_nil _ _ _ _ _ | exact Kd.Q_nil _ _ _ _ _ | exact Kd.S_nil _ _ _ _ _, by repeat (first | (with_reducible first | exact HB.out | apply below_alloc | apply pw_below_drewN | apply below_drew1 | refine below_set ?_ GE293.out) | exact HB.out)⟩
                ·rw [if_neg c24] at H
                 exact absurd H (by simp)
               ·rw [if_neg c23] at H
                exact absurd H (by simp)
             ·rw [if_neg c15] at H
              exact absurd H (by simp)
            ·rw [if_neg c14] at H
             exact absurd H (by simp)
        ·rw [if_neg c8] at H
         exact absurd H (by simp)
       ·rw [if_neg c7] at H
        exact absurd H (by simp)
      ·rw [if_neg c6] at H
       have c6b0 : decide (x9_2 < t287) = false := decide_eq_false c6
       clear c6
       simp only [Option.some.injEq, Prod.mk.injEq] at H
       obtain ⟨rfl, rfl, rfl⟩ := H
       go_wp2
       go_ret3
       exact ⟨_, by first | rfl | (simp [errW_none, errW_some] <;> rfl) | (simp [*, errW_none, errW_some] <;> rfl), by (with_reducible repeat (first | apply Kd.R_alloc | apply Kd.R_drewN | apply Kd.R_drew)); exact HO_8.out, by repeat (first | (with_reducible first | exact HB.out | apply below_alloc | apply pw_below_drewN | apply below_drew1) | exact HB.out)⟩

/-! ### ravelinref12_Read: function 12 -/
def ravelinref12_Read.f (k : Nat) (a0 : ByteArray) : Option (Int × (List (S49)) × Int × Int) := (ravelinref3_Open.f k a0).bind fun bt303 => (if bt303.2.2 = 0 then ((ravelinref3_TakeNum.f k bt303.1).bind fun bt306 => (if bt306.2.2 = 0 then (if 0 ≤ bt306.2.1 then (if bt306.2.1 ≤ (bt303.1.size : Int) then ((ravelinref12_TakeRow.f k (bt303.1.extract (bt306.2.1 : Int).toNat bt303.1.size)).bind fun bt309 => ((ravelinref12_Bytes.f k bt306.1 bt309.1).bind fun bt314 => (if bt309.2.2 = true then (if bt314.2 = 0 then (if 0 ≤ bt303.2.1 then (if bt303.2.1 ≤ (a0.size : Int) then (if bt314.1.toList = (a0.extract 0 (bt303.2.1 : Int).toNat).toList then (some (bt306.1, bt309.1, bt303.2.1, 0)) else (some (0, ([] : List (S49)), 0, 10))) else (none)) else (none)) else (some (0, ([] : List (S49)), 0, 10))) else (some (0, ([] : List (S49)), 0, 10))))) else (none)) else (none)) else (some (0, ([] : List (S49)), 0, 10)))) else (some (0, ([] : List (S49)), 0, bt303.2.2)))
theorem ravelinref12_Read.mono : ∀ a0 k, LeO (ravelinref12_Read.f k a0) (ravelinref12_Read.f (k + 1) a0) := by
 intro a0 k
 unfold ravelinref12_Read.f
 repeat' first
   | (with_reducible exact ravelinref12_Bytes.mono _ _ _)
   | (with_reducible exact ravelinref12_TakeRow.mono _ _)
   | (with_reducible exact ravelinref3_Open.mono _ _)
   | (with_reducible exact ravelinref3_TakeNum.mono _ _)
   | (with_reducible exact LeO.refl _)
   | (with_reducible exact LeO.none _)
   | (with_reducible refine LeO.ite ?_ ?_)
   | (with_reducible refine LeO.bind ?_ (fun _ => ?_))
   | exact ravelinref12_Bytes.mono _ _ _
   | exact ravelinref12_TakeRow.mono _ _
   | exact ravelinref3_Open.mono _ _
   | exact ravelinref3_TakeNum.mono _ _
   | exact LeO.none _
   | refine LeO.ite ?_ ?_
   | refine LeO.bind ?_ (fun _ => ?_)
set_option maxHeartbeats 8000000 in
set_option maxRecDepth 100000 in
theorem ravelinref12_Read.calls (k : Nat) (a0 : ByteArray) (r1 : Int) (r2 : List (S49)) (r3 : Int) (r4 : Int) (w : World) (h : ravelinref12_Read.f k a0 = some (r1, r2, r3, r4)) :
  Calls Try.prog 12 #[.string a0] w fun e w' => ∃ v1_ : Value, e = .returned (.tuple #[.int .i64 r1, v1_, .int .i64 r3, .int .i64 r4]) ∧ Kd.R k49 49 w' w.heap.size (fun _ => True) v1_ r2 ∧ Below w.heap.size w w' := by
 have HB := Aside0.mk (Below.refl w.heap.size w)
 have H : ((ravelinref3_Open.f k a0).bind fun bt303 => (if bt303.2.2 = 0 then ((ravelinref3_TakeNum.f k bt303.1).bind fun bt306 => (if bt306.2.2 = 0 then (if 0 ≤ bt306.2.1 then (if bt306.2.1 ≤ (bt303.1.size : Int) then ((ravelinref12_TakeRow.f k (bt303.1.extract (bt306.2.1 : Int).toNat bt303.1.size)).bind fun bt309 => ((ravelinref12_Bytes.f k bt306.1 bt309.1).bind fun bt314 => (if bt309.2.2 = true then (if bt314.2 = 0 then (if 0 ≤ bt303.2.1 then (if bt303.2.1 ≤ (a0.size : Int) then (if bt314.1.toList = (a0.extract 0 (bt303.2.1 : Int).toNat).toList then (some (bt306.1, bt309.1, bt303.2.1, 0)) else (some (0, ([] : List (S49)), 0, 10))) else (none)) else (none)) else (some (0, ([] : List (S49)), 0, 10))) else (some (0, ([] : List (S49)), 0, 10))))) else (none)) else (none)) else (some (0, ([] : List (S49)), 0, 10)))) else (some (0, ([] : List (S49)), 0, bt303.2.2)))) = some (r1, r2, r3, r4) := h
 clear h
 replace H := Option.bind_eq_some_iff.mp H
 obtain ⟨⟨t303, t304, t305⟩, A20, H⟩ := H
 replace H : (if t305 = 0 then ((ravelinref3_TakeNum.f k t303).bind fun bt306 => (if bt306.2.2 = 0 then (if 0 ≤ bt306.2.1 then (if bt306.2.1 ≤ (t303.size : Int) then ((ravelinref12_TakeRow.f k (t303.extract (bt306.2.1 : Int).toNat t303.size)).bind fun bt309 => ((ravelinref12_Bytes.f k bt306.1 bt309.1).bind fun bt314 => (if bt309.2.2 = true then (if bt314.2 = 0 then (if 0 ≤ t304 then (if t304 ≤ (a0.size : Int) then (if bt314.1.toList = (a0.extract 0 (t304 : Int).toNat).toList then (some (bt306.1, bt309.1, t304, 0)) else (some (0, ([] : List (S49)), 0, 10))) else (none)) else (none)) else (some (0, ([] : List (S49)), 0, 10))) else (some (0, ([] : List (S49)), 0, 10))))) else (none)) else (none)) else (some (0, ([] : List (S49)), 0, 10)))) else (some (0, ([] : List (S49)), 0, t305))) = some (r1, r2, r3, r4) := H
 have A2 := Aside0.mk A20
 clear A20
 by_cases c3 : t305 = 0
 ·rw [if_pos c3] at H
  have c3b0 : (t305 == 0) = true := beq_iff_eq.mpr c3
  have c3b1 : (t305 != 0) = false := bne_eq_false_iff_eq.mpr c3
  clear c3
  replace H := Option.bind_eq_some_iff.mp H
  obtain ⟨⟨t306, t307, t308⟩, A40, H⟩ := H
  replace H : (if t308 = 0 then (if 0 ≤ t307 then (if t307 ≤ (t303.size : Int) then ((ravelinref12_TakeRow.f k (t303.extract (t307 : Int).toNat t303.size)).bind fun bt309 => ((ravelinref12_Bytes.f k t306 bt309.1).bind fun bt314 => (if bt309.2.2 = true then (if bt314.2 = 0 then (if 0 ≤ t304 then (if t304 ≤ (a0.size : Int) then (if bt314.1.toList = (a0.extract 0 (t304 : Int).toNat).toList then (some (t306, bt309.1, t304, 0)) else (some (0, ([] : List (S49)), 0, 10))) else (none)) else (none)) else (some (0, ([] : List (S49)), 0, 10))) else (some (0, ([] : List (S49)), 0, 10))))) else (none)) else (none)) else (some (0, ([] : List (S49)), 0, 10))) = some (r1, r2, r3, r4) := H
  have A4 := Aside0.mk A40
  clear A40
  by_cases c5 : t308 = 0
  ·rw [if_pos c5] at H
   have c5b0 : (t308 == 0) = true := beq_iff_eq.mpr c5
   have c5b1 : (t308 != 0) = false := bne_eq_false_iff_eq.mpr c5
   clear c5
   by_cases c6 : 0 ≤ t307
   ·rw [if_pos c6] at H
    have c6b0 := eq_true c6
    have c6b1 : decide (0 ≤ t307) = true := decide_eq_true c6
    clear c6
    by_cases c7 : t307 ≤ (t303.size : Int)
    ·rw [if_pos c7] at H
     have c7b0 := eq_true c7
     have c7b1 : decide (t307 ≤ (t303.size : Int)) = true := decide_eq_true c7
     clear c7
     replace H := Option.bind_eq_some_iff.mp H
     obtain ⟨⟨t309, t310, t311⟩, A80, H⟩ := H
     replace H : ((ravelinref12_Bytes.f k t306 t309).bind fun bt314 => (if t311 = true then (if bt314.2 = 0 then (if 0 ≤ t304 then (if t304 ≤ (a0.size : Int) then (if bt314.1.toList = (a0.extract 0 (t304 : Int).toNat).toList then (some (t306, t309, t304, 0)) else (some (0, ([] : List (S49)), 0, 10))) else (none)) else (none)) else (some (0, ([] : List (S49)), 0, 10))) else (some (0, ([] : List (S49)), 0, 10)))) = some (r1, r2, r3, r4) := H
     have A8 := Aside0.mk A80
     clear A80
     replace H := Option.bind_eq_some_iff.mp H
     obtain ⟨⟨t314, t315⟩, A90, H⟩ := H
     replace H : (if t311 = true then (if t315 = 0 then (if 0 ≤ t304 then (if t304 ≤ (a0.size : Int) then (if t314.toList = (a0.extract 0 (t304 : Int).toNat).toList then (some (t306, t309, t304, 0)) else (some (0, ([] : List (S49)), 0, 10))) else (none)) else (none)) else (some (0, ([] : List (S49)), 0, 10))) else (some (0, ([] : List (S49)), 0, 10))) = some (r1, r2, r3, r4) := H
     have A9 := Aside0.mk A90
     clear A90
     by_cases c10 : t311 = true
     ·subst c10
      have H1 : (if t315 = 0 then (if 0 ≤ t304 then (if t304 ≤ (a0.size : Int) then (if t314.toList = (a0.extract 0 (t304 : Int).toNat).toList then (some (t306, t309, t304, 0)) else (some (0, ([] : List (S49)), 0, 10))) else (none)) else (none)) else (some (0, ([] : List (S49)), 0, 10))) = some (r1, r2, r3, r4) := by rw [if_pos rfl] at H; exact H
      clear H
      have H := H1
      clear H1
      by_cases c11 : t315 = 0
      ·rw [if_pos c11] at H
       have c11b0 : (t315 == 0) = true := beq_iff_eq.mpr c11
       have c11b1 : (t315 != 0) = false := bne_eq_false_iff_eq.mpr c11
       clear c11
       by_cases c12 : 0 ≤ t304
       ·rw [if_pos c12] at H
        have c12b0 := eq_true c12
        have c12b1 : decide (0 ≤ t304) = true := decide_eq_true c12
        clear c12
        by_cases c13 : t304 ≤ (a0.size : Int)
        ·rw [if_pos c13] at H
         have c13b0 := eq_true c13
         have c13b1 : decide (t304 ≤ (a0.size : Int)) = true := decide_eq_true c13
         clear c13
         by_cases c14 : t314.toList = (a0.extract 0 (t304 : Int).toNat).toList
         ·rw [if_pos c14] at H
          have c14b0 : (t314.toList == (a0.extract 0 (t304 : Int).toNat).toList) = true := beq_iff_eq.mpr c14
          have c14b1 : (t314.toList != (a0.extract 0 (t304 : Int).toNat).toList) = false := bne_eq_false_iff_eq.mpr c14
          clear c14
          simp only [Option.some.injEq, Prod.mk.injEq] at H
          obtain ⟨rfl, rfl, rfl, rfl⟩ := H
          go_enter Try.func12, Try.ntmps12
          go_wp2_with (first | ((with_reducible refine gate_callee (f := 32) rfl ?_); refine goesL_ (some 19) rfl rfl Try.func32 (by kernel_rfl) rfl #[.string a0] rfl (by (try simp only [List.map_toArray, List.map_cons, List.map_nil]); first | done | rfl | (simp only [List.length_drop, List.length_take]; rfl)) ?_; (with_reducible refine (ravelinref3_Open.calls k a0 t303 t304 t305 _ A2.out).mono ?_); rintro e w15 ⟨rfl, hb⟩; refine ⟨_, rfl, ?_⟩; have n0_ := Aside0.mk (below_step (by repeat (first | (with_reducible first | exact HB.out | apply below_alloc | apply pw_below_drewN | apply below_drew1) | exact HB.out)) hb); clear HB; have HB := n0_; clear n0_; (try clear hb); (try clear hb2); (try clear hk); (try clear hi)) | ((with_reducible refine gate_callee (f := 33) rfl ?_); refine goesL_ (some 28) rfl rfl Try.func33 (by kernel_rfl) rfl #[.string t303] rfl (by (try simp only [List.map_toArray, List.map_cons, List.map_nil]); first | done | rfl | (simp only [List.length_drop, List.length_take]; rfl)) ?_; (with_reducible refine (ravelinref3_TakeNum.calls k t303 t306 t307 t308 _ A4.out).mono ?_); rintro e w' ⟨rfl, ⟨nd, rfl⟩⟩; refine ⟨_, rfl, ?_⟩) | ((with_reducible refine gate_callee (f := 34) rfl ?_); refine goesL_ (some 38) rfl rfl Try.func34 (by kernel_rfl) rfl #[.string (t303.extract (t307 : Int).toNat t303.size)] rfl (by (try simp only [List.map_toArray, List.map_cons, List.map_nil]); first | done | rfl | (simp only [List.length_drop, List.length_take]; rfl)) ?_; (with_reducible refine (ravelinref12_TakeRow.calls k (t303.extract (t307 : Int).toNat t303.size) t309 t310 true _ A8.out).mono ?_); rintro e w16 ⟨v312, rfl, ho0, hb⟩; refine ⟨_, rfl, ?_⟩; have n0_ := Aside0.mk (Kd.R_lower ho0 (below_size (by repeat (first | (with_reducible first | exact HB.out | apply below_alloc | apply pw_below_drewN | apply below_drew1) | exact HB.out)))); have n1_ := Aside0.mk (below_step (by repeat (first | (with_reducible first | exact HB.out | apply below_alloc | apply pw_below_drewN | apply below_drew1) | exact HB.out)) hb); clear HB; have HO313 := n0_; have HB := n1_; clear n0_ n1_; (try clear hb); (try clear hb2); (try clear hk); (try clear hi); (try clear ho0); obtain ⟨Ao17, co17, eo17⟩ := Kd.R_slice HO313.out; subst eo17) | ((with_reducible refine gate_callee (f := 10) rfl ?_); refine goesL_ (some 45) rfl rfl Try.func10 (by kernel_rfl) rfl #[.int .i64 t306, .slice Ao17 t309.length co17] rfl (by (try simp only [List.map_toArray, List.map_cons, List.map_nil]); first | done | rfl | (simp only [List.length_drop, List.length_take]; rfl)) ?_; (with_reducible refine (ravelinref12_Bytes.calls k t306 _ _ t309 t314 t315 _ ?side1 ?side2 A9.out).mono ?_); (case side1 => repeat (first | exact (Kd.R_reads' HO313.out).2.2 | (with_reducible refine Kd.C_alloc ?_ _) | (with_reducible refine Kd.C_drewN ?_ _) | (with_reducible refine Kd.C_drew ?_))); (case side2 => exact (Kd.R_reads' HO313.out).2.1); rintro e w18 ⟨rfl, hb⟩; refine ⟨_, rfl, ?_⟩; have n0_ := Aside0.mk (Kd.R_below (by (with_reducible repeat (first | apply Kd.R_alloc | apply Kd.R_drewN | apply Kd.R_drew)); exact HO313.out) hb); have n1_ := Aside0.mk (below_step (by repeat (first | (with_reducible first | exact HB.out | apply below_alloc | apply pw_below_drewN | apply below_drew1) | exact HB.out)) hb); clear HO313; clear HB; have HO313 := n0_; have HB := n1_; clear n0_ n1_; (try clear hb); (try clear hb2); (try clear hk); (try clear hi)))
          refine bodyPost_ret (results_list (rs := [.tmp 2, .tmp 3, .tmp 4, .tmp 5]) rfl (by simp) (.tmp (.tmp (.tmp (.tmp .nil))))) rfl ?_
          exact ⟨_, by first | rfl | (simp [errW_none, errW_some] <;> rfl) | (simp [*, errW_none, errW_some] <;> rfl), by (with_reducible repeat (first | apply Kd.R_alloc | apply Kd.R_drewN | apply Kd.R_drew)); exact HO313.out, by repeat (first | (with_reducible first | exact HB.out | apply below_alloc | apply pw_below_drewN | apply below_drew1) | exact HB.out)⟩
         ·rw [if_neg c14] at H
          have c14b0 : (t314.toList == (a0.extract 0 (t304 : Int).toNat).toList) = false := beq_eq_false_iff_ne.mpr c14
          have c14b1 : (t314.toList != (a0.extract 0 (t304 : Int).toNat).toList) = true := bne_iff_ne.mpr c14
          simp only [Option.some.injEq, Prod.mk.injEq] at H
          obtain ⟨rfl, rfl, rfl, rfl⟩ := H
          go_enter Try.func12, Try.ntmps12
          go_wp2_with (first | ((with_reducible refine gate_callee (f := 32) rfl ?_); refine goesL_ (some 19) rfl rfl Try.func32 (by kernel_rfl) rfl #[.string a0] rfl (by (try simp only [List.map_toArray, List.map_cons, List.map_nil]); first | done | rfl | (simp only [List.length_drop, List.length_take]; rfl)) ?_; (with_reducible refine (ravelinref3_Open.calls k a0 t303 t304 t305 _ A2.out).mono ?_); rintro e w19 ⟨rfl, hb⟩; refine ⟨_, rfl, ?_⟩; have n0_ := Aside0.mk (below_step (by repeat (first | (with_reducible first | exact HB.out | apply below_alloc | apply pw_below_drewN | apply below_drew1) | exact HB.out)) hb); clear HB; have HB := n0_; clear n0_; (try clear hb); (try clear hb2); (try clear hk); (try clear hi)) | ((with_reducible refine gate_callee (f := 33) rfl ?_); refine goesL_ (some 28) rfl rfl Try.func33 (by kernel_rfl) rfl #[.string t303] rfl (by (try simp only [List.map_toArray, List.map_cons, List.map_nil]); first | done | rfl | (simp only [List.length_drop, List.length_take]; rfl)) ?_; (with_reducible refine (ravelinref3_TakeNum.calls k t303 t306 t307 t308 _ A4.out).mono ?_); rintro e w' ⟨rfl, ⟨nd, rfl⟩⟩; refine ⟨_, rfl, ?_⟩) | ((with_reducible refine gate_callee (f := 34) rfl ?_); refine goesL_ (some 38) rfl rfl Try.func34 (by kernel_rfl) rfl #[.string (t303.extract (t307 : Int).toNat t303.size)] rfl (by (try simp only [List.map_toArray, List.map_cons, List.map_nil]); first | done | rfl | (simp only [List.length_drop, List.length_take]; rfl)) ?_; (with_reducible refine (ravelinref12_TakeRow.calls k (t303.extract (t307 : Int).toNat t303.size) t309 t310 true _ A8.out).mono ?_); rintro e w20 ⟨v312, rfl, ho0, hb⟩; refine ⟨_, rfl, ?_⟩; have n0_ := Aside0.mk (Kd.R_lower ho0 (below_size (by repeat (first | (with_reducible first | exact HB.out | apply below_alloc | apply pw_below_drewN | apply below_drew1) | exact HB.out)))); have n1_ := Aside0.mk (below_step (by repeat (first | (with_reducible first | exact HB.out | apply below_alloc | apply pw_below_drewN | apply below_drew1) | exact HB.out)) hb); clear HB; have HO313 := n0_; have HB := n1_; clear n0_ n1_; (try clear hb); (try clear hb2); (try clear hk); (try clear hi); (try clear ho0); obtain ⟨Ao21, co21, eo21⟩ := Kd.R_slice HO313.out; subst eo21) | ((with_reducible refine gate_callee (f := 10) rfl ?_); refine goesL_ (some 45) rfl rfl Try.func10 (by kernel_rfl) rfl #[.int .i64 t306, .slice Ao21 t309.length co21] rfl (by (try simp only [List.map_toArray, List.map_cons, List.map_nil]); first | done | rfl | (simp only [List.length_drop, List.length_take]; rfl)) ?_; (with_reducible refine (ravelinref12_Bytes.calls k t306 _ _ t309 t314 t315 _ ?side1 ?side2 A9.out).mono ?_); (case side1 => repeat (first | exact (Kd.R_reads' HO313.out).2.2 | (with_reducible refine Kd.C_alloc ?_ _) | (with_reducible refine Kd.C_drewN ?_ _) | (with_reducible refine Kd.C_drew ?_))); (case side2 => exact (Kd.R_reads' HO313.out).2.1); rintro e w22 ⟨rfl, hb⟩; refine ⟨_, rfl, ?_⟩; have n0_ := Aside0.mk (Kd.R_below (by (with_reducible repeat (first | apply Kd.R_alloc | apply Kd.R_drewN | apply Kd.R_drew)); exact HO313.out) hb); have n1_ := Aside0.mk (below_step (by repeat (first | (with_reducible first | exact HB.out | apply below_alloc | apply pw_below_drewN | apply below_drew1) | exact HB.out)) hb); clear HO313; clear HB; have HO313 := n0_; have HB := n1_; clear n0_ n1_; (try clear hb); (try clear hb2); (try clear hk); (try clear hi)))
          refine bodyPost_ret (results_list (rs := [.tmp 2, .tmp 3, .tmp 4, .tmp 5]) rfl (by simp) (.tmp (.tmp (.tmp (.tmp .nil))))) rfl ?_
          exact ⟨_, by first | rfl | (simp [errW_none, errW_some] <;> rfl) | (simp [*, errW_none, errW_some] <;> rfl), by first | exact Kd.R_nil _ _ _ _ _ | exact Kd.N_nil _ _ _ _ _ | exact Kd.V_nil _ _ _ _ _ | exact Kd.Q_nil _ _ _ _ _ | exact Kd.S_nil _ _ _ _ _, by repeat (first | (with_reducible first | exact HB.out | apply below_alloc | apply pw_below_drewN | apply below_drew1) | exact HB.out)⟩
        ·rw [if_neg c13] at H
         exact absurd H (by simp)
       ·rw [if_neg c12] at H
        exact absurd H (by simp)
      ·rw [if_neg c11] at H
       have c11b0 : (t315 == 0) = false := beq_eq_false_iff_ne.mpr c11
       have c11b1 : (t315 != 0) = true := bne_iff_ne.mpr c11
       simp only [Option.some.injEq, Prod.mk.injEq] at H
       obtain ⟨rfl, rfl, rfl, rfl⟩ := H
       go_enter Try.func12, Try.ntmps12
       go_wp2_with (first | ((with_reducible refine gate_callee (f := 32) rfl ?_); refine goesL_ (some 19) rfl rfl Try.func32 (by kernel_rfl) rfl #[.string a0] rfl (by (try simp only [List.map_toArray, List.map_cons, List.map_nil]); first | done | rfl | (simp only [List.length_drop, List.length_take]; rfl)) ?_; (with_reducible refine (ravelinref3_Open.calls k a0 t303 t304 t305 _ A2.out).mono ?_); rintro e w23 ⟨rfl, hb⟩; refine ⟨_, rfl, ?_⟩; have n0_ := Aside0.mk (below_step (by repeat (first | (with_reducible first | exact HB.out | apply below_alloc | apply pw_below_drewN | apply below_drew1) | exact HB.out)) hb); clear HB; have HB := n0_; clear n0_; (try clear hb); (try clear hb2); (try clear hk); (try clear hi)) | ((with_reducible refine gate_callee (f := 33) rfl ?_); refine goesL_ (some 28) rfl rfl Try.func33 (by kernel_rfl) rfl #[.string t303] rfl (by (try simp only [List.map_toArray, List.map_cons, List.map_nil]); first | done | rfl | (simp only [List.length_drop, List.length_take]; rfl)) ?_; (with_reducible refine (ravelinref3_TakeNum.calls k t303 t306 t307 t308 _ A4.out).mono ?_); rintro e w' ⟨rfl, ⟨nd, rfl⟩⟩; refine ⟨_, rfl, ?_⟩) | ((with_reducible refine gate_callee (f := 34) rfl ?_); refine goesL_ (some 38) rfl rfl Try.func34 (by kernel_rfl) rfl #[.string (t303.extract (t307 : Int).toNat t303.size)] rfl (by (try simp only [List.map_toArray, List.map_cons, List.map_nil]); first | done | rfl | (simp only [List.length_drop, List.length_take]; rfl)) ?_; (with_reducible refine (ravelinref12_TakeRow.calls k (t303.extract (t307 : Int).toNat t303.size) t309 t310 true _ A8.out).mono ?_); rintro e w24 ⟨v312, rfl, ho0, hb⟩; refine ⟨_, rfl, ?_⟩; have n0_ := Aside0.mk (Kd.R_lower ho0 (below_size (by repeat (first | (with_reducible first | exact HB.out | apply below_alloc | apply pw_below_drewN | apply below_drew1) | exact HB.out)))); have n1_ := Aside0.mk (below_step (by repeat (first | (with_reducible first | exact HB.out | apply below_alloc | apply pw_below_drewN | apply below_drew1) | exact HB.out)) hb); clear HB; have HO313 := n0_; have HB := n1_; clear n0_ n1_; (try clear hb); (try clear hb2); (try clear hk); (try clear hi); (try clear ho0); obtain ⟨Ao25, co25, eo25⟩ := Kd.R_slice HO313.out; subst eo25) | ((with_reducible refine gate_callee (f := 10) rfl ?_); refine goesL_ (some 45) rfl rfl Try.func10 (by kernel_rfl) rfl #[.int .i64 t306, .slice Ao25 t309.length co25] rfl (by (try simp only [List.map_toArray, List.map_cons, List.map_nil]); first | done | rfl | (simp only [List.length_drop, List.length_take]; rfl)) ?_; (with_reducible refine (ravelinref12_Bytes.calls k t306 _ _ t309 t314 t315 _ ?side1 ?side2 A9.out).mono ?_); (case side1 => repeat (first | exact (Kd.R_reads' HO313.out).2.2 | (with_reducible refine Kd.C_alloc ?_ _) | (with_reducible refine Kd.C_drewN ?_ _) | (with_reducible refine Kd.C_drew ?_))); (case side2 => exact (Kd.R_reads' HO313.out).2.1); rintro e w26 ⟨rfl, hb⟩; refine ⟨_, rfl, ?_⟩; have n0_ := Aside0.mk (Kd.R_below (by (with_reducible repeat (first | apply Kd.R_alloc | apply Kd.R_drewN | apply Kd.R_drew)); exact HO313.out) hb); have n1_ := Aside0.mk (below_step (by repeat (first | (with_reducible first | exact HB.out | apply below_alloc | apply pw_below_drewN | apply below_drew1) | exact HB.out)) hb); clear HO313; clear HB; have HO313 := n0_; have HB := n1_; clear n0_ n1_; (try clear hb); (try clear hb2); (try clear hk); (try clear hi)))
       refine bodyPost_ret (results_list (rs := [.tmp 2, .tmp 3, .tmp 4, .tmp 5]) rfl (by simp) (.tmp (.tmp (.tmp (.tmp .nil))))) rfl ?_
       exact ⟨_, by first | rfl | (simp [errW_none, errW_some] <;> rfl) | (simp [*, errW_none, errW_some] <;> rfl), by first | exact Kd.R_nil _ _ _ _ _ | exact Kd.N_nil _ _ _ _ _ | exact Kd.V_nil _ _ _ _ _ | exact Kd.Q_nil _ _ _ _ _ | exact Kd.S_nil _ _ _ _ _, by repeat (first | (with_reducible first | exact HB.out | apply below_alloc | apply pw_below_drewN | apply below_drew1) | exact HB.out)⟩
     ·replace c10 := Bool.eq_false_iff.mpr c10
      subst c10
      have H1 : (some (0, ([] : List (S49)), 0, 10)) = some (r1, r2, r3, r4) := by rw [if_neg (show ¬ (false = true) by decide)] at H; exact H
      clear H
      have H := H1
      clear H1
      simp only [Option.some.injEq, Prod.mk.injEq] at H
      obtain ⟨rfl, rfl, rfl, rfl⟩ := H
      go_enter Try.func12, Try.ntmps12
      go_wp2_with (first | ((with_reducible refine gate_callee (f := 32) rfl ?_); refine goesL_ (some 19) rfl rfl Try.func32 (by kernel_rfl) rfl #[.string a0] rfl (by (try simp only [List.map_toArray, List.map_cons, List.map_nil]); first | done | rfl | (simp only [List.length_drop, List.length_take]; rfl)) ?_; (with_reducible refine (ravelinref3_Open.calls k a0 t303 t304 t305 _ A2.out).mono ?_); rintro e w27 ⟨rfl, hb⟩; refine ⟨_, rfl, ?_⟩; have n0_ := Aside0.mk (below_step (by repeat (first | (with_reducible first | exact HB.out | apply below_alloc | apply pw_below_drewN | apply below_drew1) | exact HB.out)) hb); clear HB; have HB := n0_; clear n0_; (try clear hb); (try clear hb2); (try clear hk); (try clear hi)) | ((with_reducible refine gate_callee (f := 33) rfl ?_); refine goesL_ (some 28) rfl rfl Try.func33 (by kernel_rfl) rfl #[.string t303] rfl (by (try simp only [List.map_toArray, List.map_cons, List.map_nil]); first | done | rfl | (simp only [List.length_drop, List.length_take]; rfl)) ?_; (with_reducible refine (ravelinref3_TakeNum.calls k t303 t306 t307 t308 _ A4.out).mono ?_); rintro e w' ⟨rfl, ⟨nd, rfl⟩⟩; refine ⟨_, rfl, ?_⟩) | ((with_reducible refine gate_callee (f := 34) rfl ?_); refine goesL_ (some 38) rfl rfl Try.func34 (by kernel_rfl) rfl #[.string (t303.extract (t307 : Int).toNat t303.size)] rfl (by (try simp only [List.map_toArray, List.map_cons, List.map_nil]); first | done | rfl | (simp only [List.length_drop, List.length_take]; rfl)) ?_; (with_reducible refine (ravelinref12_TakeRow.calls k (t303.extract (t307 : Int).toNat t303.size) t309 t310 false _ A8.out).mono ?_); rintro e w28 ⟨v312, rfl, ho0, hb⟩; refine ⟨_, rfl, ?_⟩; have n0_ := Aside0.mk (Kd.R_lower ho0 (below_size (by repeat (first | (with_reducible first | exact HB.out | apply below_alloc | apply pw_below_drewN | apply below_drew1) | exact HB.out)))); have n1_ := Aside0.mk (below_step (by repeat (first | (with_reducible first | exact HB.out | apply below_alloc | apply pw_below_drewN | apply below_drew1) | exact HB.out)) hb); clear HB; have HO313 := n0_; have HB := n1_; clear n0_ n1_; (try clear hb); (try clear hb2); (try clear hk); (try clear hi); (try clear ho0); obtain ⟨Ao29, co29, eo29⟩ := Kd.R_slice HO313.out; subst eo29) | ((with_reducible refine gate_callee (f := 10) rfl ?_); refine goesL_ (some 45) rfl rfl Try.func10 (by kernel_rfl) rfl #[.int .i64 t306, .slice Ao29 t309.length co29] rfl (by (try simp only [List.map_toArray, List.map_cons, List.map_nil]); first | done | rfl | (simp only [List.length_drop, List.length_take]; rfl)) ?_; (with_reducible refine (ravelinref12_Bytes.calls k t306 _ _ t309 t314 t315 _ ?side1 ?side2 A9.out).mono ?_); (case side1 => repeat (first | exact (Kd.R_reads' HO313.out).2.2 | (with_reducible refine Kd.C_alloc ?_ _) | (with_reducible refine Kd.C_drewN ?_ _) | (with_reducible refine Kd.C_drew ?_))); (case side2 => exact (Kd.R_reads' HO313.out).2.1); rintro e w30 ⟨rfl, hb⟩; refine ⟨_, rfl, ?_⟩; have n0_ := Aside0.mk (Kd.R_below (by (with_reducible repeat (first | apply Kd.R_alloc | apply Kd.R_drewN | apply Kd.R_drew)); exact HO313.out) hb); have n1_ := Aside0.mk (below_step (by repeat (first | (with_reducible first | exact HB.out | apply below_alloc | apply pw_below_drewN | apply below_drew1) | exact HB.out)) hb); clear HO313; clear HB; have HO313 := n0_; have HB := n1_; clear n0_ n1_; (try clear hb); (try clear hb2); (try clear hk); (try clear hi)))
      refine bodyPost_ret (results_list (rs := [.tmp 2, .tmp 3, .tmp 4, .tmp 5]) rfl (by simp) (.tmp (.tmp (.tmp (.tmp .nil))))) rfl ?_
      exact ⟨_, by first | rfl | (simp [errW_none, errW_some] <;> rfl) | (simp [*, errW_none, errW_some] <;> rfl), by first | exact Kd.R_nil _ _ _ _ _ | exact Kd.N_nil _ _ _ _ _ | exact Kd.V_nil _ _ _ _ _ | exact Kd.Q_nil _ _ _ _ _ | exact Kd.S_nil _ _ _ _ _, by repeat (first | (with_reducible first | exact HB.out | apply below_alloc | apply pw_below_drewN | apply below_drew1) | exact HB.out)⟩
    ·rw [if_neg c7] at H
     exact absurd H (by simp)
   ·rw [if_neg c6] at H
    exact absurd H (by simp)
  ·rw [if_neg c5] at H
   have c5b0 : (t308 == 0) = false := beq_eq_false_iff_ne.mpr c5
   have c5b1 : (t308 != 0) = true := bne_iff_ne.mpr c5
   simp only [Option.some.injEq, Prod.mk.injEq] at H
   obtain ⟨rfl, rfl, rfl, rfl⟩ := H
   go_enter Try.func12, Try.ntmps12
   go_wp2_with (first | ((with_reducible refine gate_callee (f := 32) rfl ?_); refine goesL_ (some 19) rfl rfl Try.func32 (by kernel_rfl) rfl #[.string a0] rfl (by (try simp only [List.map_toArray, List.map_cons, List.map_nil]); first | done | rfl | (simp only [List.length_drop, List.length_take]; rfl)) ?_; (with_reducible refine (ravelinref3_Open.calls k a0 t303 t304 t305 _ A2.out).mono ?_); rintro e w31 ⟨rfl, hb⟩; refine ⟨_, rfl, ?_⟩; have n0_ := Aside0.mk (below_step (by repeat (first | (with_reducible first | exact HB.out | apply below_alloc | apply pw_below_drewN | apply below_drew1) | exact HB.out)) hb); clear HB; have HB := n0_; clear n0_; (try clear hb); (try clear hb2); (try clear hk); (try clear hi)) | ((with_reducible refine gate_callee (f := 33) rfl ?_); refine goesL_ (some 28) rfl rfl Try.func33 (by kernel_rfl) rfl #[.string t303] rfl (by (try simp only [List.map_toArray, List.map_cons, List.map_nil]); first | done | rfl | (simp only [List.length_drop, List.length_take]; rfl)) ?_; (with_reducible refine (ravelinref3_TakeNum.calls k t303 t306 t307 t308 _ A4.out).mono ?_); rintro e w' ⟨rfl, ⟨nd, rfl⟩⟩; refine ⟨_, rfl, ?_⟩))
   refine bodyPost_ret (results_list (rs := [.tmp 2, .tmp 3, .tmp 4, .tmp 5]) rfl (by simp) (.tmp (.tmp (.tmp (.tmp .nil))))) rfl ?_
   exact ⟨_, by first | rfl | (simp [errW_none, errW_some] <;> rfl) | (simp [*, errW_none, errW_some] <;> rfl), by first | exact Kd.R_nil _ _ _ _ _ | exact Kd.N_nil _ _ _ _ _ | exact Kd.V_nil _ _ _ _ _ | exact Kd.Q_nil _ _ _ _ _ | exact Kd.S_nil _ _ _ _ _, by repeat (first | (with_reducible first | exact HB.out | apply below_alloc | apply pw_below_drewN | apply below_drew1) | exact HB.out)⟩
 ·rw [if_neg c3] at H
  have c3b0 : (t305 == 0) = false := beq_eq_false_iff_ne.mpr c3
  have c3b1 : (t305 != 0) = true := bne_iff_ne.mpr c3
  simp only [Option.some.injEq, Prod.mk.injEq] at H
  obtain ⟨rfl, rfl, rfl, rfl⟩ := H
  go_enter Try.func12, Try.ntmps12
  go_wp2_with (first | ((with_reducible refine gate_callee (f := 32) rfl ?_); refine goesL_ (some 19) rfl rfl Try.func32 (by kernel_rfl) rfl #[.string a0] rfl (by (try simp only [List.map_toArray, List.map_cons, List.map_nil]); first | done | rfl | (simp only [List.length_drop, List.length_take]; rfl)) ?_; (with_reducible refine (ravelinref3_Open.calls k a0 t303 t304 t305 _ A2.out).mono ?_); rintro e w32 ⟨rfl, hb⟩; refine ⟨_, rfl, ?_⟩; have n0_ := Aside0.mk (below_step (by repeat (first | (with_reducible first | exact HB.out | apply below_alloc | apply pw_below_drewN | apply below_drew1) | exact HB.out)) hb); clear HB; have HB := n0_; clear n0_; (try clear hb); (try clear hb2); (try clear hk); (try clear hi)))
  refine bodyPost_ret (results_list (rs := [.tmp 2, .tmp 3, .tmp 4, .tmp 5]) rfl (by simp) (.tmp (.tmp (.tmp (.tmp .nil))))) rfl ?_
  exact ⟨_, by first | rfl | (simp [errW_none, errW_some] <;> rfl) | (simp [*, errW_none, errW_some] <;> rfl), by first | exact Kd.R_nil _ _ _ _ _ | exact Kd.N_nil _ _ _ _ _ | exact Kd.V_nil _ _ _ _ _ | exact Kd.Q_nil _ _ _ _ _ | exact Kd.S_nil _ _ _ _ _, by repeat (first | (with_reducible first | exact HB.out | apply below_alloc | apply pw_below_drewN | apply below_drew1) | exact HB.out)⟩

end Go.Proofs.Ytnjbmcjhhadojaa.P
