-- Printed by a changed copy of the kit's printer (wip/tools/ext.py); labels and more
import Derived.Test.YtcnlhpakiadipaaM0
import Derived.Test.YtcnlhpakiadipaaM1
import Derived.Test.YtcnlhpakiadipaaM2
namespace Go.Proofs.Ytcnlhpakiadipaa.P
open Go.RowKit Go.Proofs.YtcnlhpakiadipaaW.PrintWords Go.Proofs.YtcnlhpakiadipaaW.PrintLast Go.Proofs.YtcnlhpakiadipaaW.PrintMore
attribute [local go_sem] max2_int min2_int max_two min_two max_three min_three max_four min_four   -- for this text's walks alone
set_option linter.unusedVariables false
set_option linter.unusedSimpArgs false

/-! ### ravelinlaw7_SieveHas: function 4 -/
mutual
def ravelinlaw7_SieveHas.j0 : Nat → List ByteArray → Int → Bool → Option (Bool)
  | 0, _, _, _ => none
  | k + 1, x0, x1, x21 => if x21 = true then (some true) else ((sieve_Make.f k x0).bind fun t157 => (if (x0.length : Int) = 0 then (none) else (if 0 ≤ (Int.tmod (wrap64 (x1)) (x0.length : Int)) then (if (Int.tmod (wrap64 (x1)) (x0.length : Int)) ≤ (x0.length : Int) then (if ([] : List ByteArray).length + (x0.drop ((Int.tmod (wrap64 (x1)) (x0.length : Int)) : Int).toNat).length < 8796093022208 then ((some (([] : List ByteArray) ++ (x0.drop ((Int.tmod (wrap64 (x1)) (x0.length : Int)) : Int).toNat) : List ByteArray)).bind fun y159 => (if y159.length + (x0.take ((Int.tmod (wrap64 (x1)) (x0.length : Int)) : Int).toNat).length < 8796093022208 then (ravelinlaw7_SieveHas.l0 k x0 t157 (y159 ++ (x0.take ((Int.tmod (wrap64 (x1)) (x0.length : Int)) : Int).toNat)) 0) else (none))) else (none)) else (none)) else (none))))
def ravelinlaw7_SieveHas.l0 : Nat → List ByteArray → ByteArray → List ByteArray → Int → Option (Bool)
  | 0, _, _, _, _ => none
  | k + 1, x0, x5, x7, x8 => if x8 < (x0.length : Int) then (if 0 ≤ x8 then ((sieve_May.f k x5 (rdOf ByteArray.empty x0 x8)).bind fun t167 => (if t167 = true then (ravelinlaw7_SieveHas.l0 k x0 x5 x7 (wrap64 (x8 + 1))) else (some false))) else (none)) else (ravelinlaw7_SieveHas.l1 k x0 x5 x7 0 0)
def ravelinlaw7_SieveHas.l1 : Nat → List ByteArray → ByteArray → List ByteArray → Int → Int → Option (Bool)
  | 0, _, _, _, _, _ => none
  | k + 1, x0, x5, x7, x9, x10 => if x10 < (x5.size : Int) then (ravelinlaw7_SieveHas.l2 k x0 x5 x7 x9 x10 0) else ((sieve_Make.f k x7).bind fun t168 => (if t168.toList = x5.toList then (if (x5.size : Int) = (mx 8 (x0.length : Int)) then (if x9 ≤ (wrap64 (4 * (x0.length : Int))) then (some (decide (x9 > 0))) else (some false)) else (some false)) else (some false)))
def ravelinlaw7_SieveHas.l2 : Nat → List ByteArray → ByteArray → List ByteArray → Int → Int → Int → Option (Bool)
  | 0, _, _, _, _, _, _ => none
  | k + 1, x0, x5, x7, x9, x10, x11 => if x11 < 8 then (if 0 ≤ x10 then (if x10 < (x5.size : Int) then (if 0 ≤ (IntKind.u64.wrap (x11)) then (ravelinlaw7_SieveHas.l2 k x0 x5 x7 (wrap64 (x9 + (wrap64 (Go.bits .and .u8 (shr .u8 (bt x5 x10) (IntKind.u64.wrap (x11))) 1)))) x10 (wrap64 (x11 + 1))) else (none)) else (none)) else (none)) else (ravelinlaw7_SieveHas.l1 k x0 x5 x7 x9 (wrap64 (x10 + 1)))
end
def ravelinlaw7_SieveHas.f (k : Nat) (l0 : List ByteArray) (a1 : Int) : Option (Bool) := (ravelinlaw7_known.f k).bind fun t155 => (if t155 = true then ((ravelinlaw7_few.f k l0).bind fun t156 => (if t156 = true then (ravelinlaw7_SieveHas.j0 k l0 a1 ((l0.length : Int) == 0)) else (ravelinlaw7_SieveHas.j0 k l0 a1 true))) else (some false))
theorem ravelinlaw7_SieveHas.mono_l : ∀ k, (∀ y0 y1 y2, LeO (ravelinlaw7_SieveHas.j0 k y0 y1 y2) (ravelinlaw7_SieveHas.j0 (k + 1) y0 y1 y2)) ∧ (∀ y0 y1 y2 y3, LeO (ravelinlaw7_SieveHas.l0 k y0 y1 y2 y3) (ravelinlaw7_SieveHas.l0 (k + 1) y0 y1 y2 y3)) ∧ (∀ y0 y1 y2 y3 y4, LeO (ravelinlaw7_SieveHas.l1 k y0 y1 y2 y3 y4) (ravelinlaw7_SieveHas.l1 (k + 1) y0 y1 y2 y3 y4)) ∧ (∀ y0 y1 y2 y3 y4 y5, LeO (ravelinlaw7_SieveHas.l2 k y0 y1 y2 y3 y4 y5) (ravelinlaw7_SieveHas.l2 (k + 1) y0 y1 y2 y3 y4 y5))
  | 0 => ⟨fun _ _ _ r h => by simp [ravelinlaw7_SieveHas.j0] at h, fun _ _ _ _ r h => by simp [ravelinlaw7_SieveHas.l0] at h, fun _ _ _ _ _ r h => by simp [ravelinlaw7_SieveHas.l1] at h, fun _ _ _ _ _ _ r h => by simp [ravelinlaw7_SieveHas.l2] at h⟩
  | k + 1 => by
    obtain ⟨ih0, ih1, ih2, ih3⟩ := ravelinlaw7_SieveHas.mono_l k
    refine ⟨?_, ?_, ?_, ?_⟩
    · intro y0 y1 y2
      unfold ravelinlaw7_SieveHas.j0
      repeat' first
      | (with_reducible exact ih0 _ _ _)
      | (with_reducible exact ih1 _ _ _ _)
      | (with_reducible exact ih2 _ _ _ _ _)
      | (with_reducible exact ih3 _ _ _ _ _ _)
      | (with_reducible exact ravelinlaw7_few.mono _ _)
      | (with_reducible exact ravelinlaw7_known.mono _)
      | (with_reducible exact sieve_Make.mono _ _)
      | (with_reducible exact sieve_May.mono _ _ _)
      | (with_reducible exact LeO.refl _)
      | (with_reducible exact LeO.none _)
      | (with_reducible refine LeO.ite ?_ ?_)
      | (with_reducible refine LeO.bind ?_ (fun _ => ?_))
      | exact ih0 _ _ _
      | exact ih1 _ _ _ _
      | exact ih2 _ _ _ _ _
      | exact ih3 _ _ _ _ _ _
      | exact ravelinlaw7_few.mono _ _
      | exact ravelinlaw7_known.mono _
      | exact sieve_Make.mono _ _
      | exact sieve_May.mono _ _ _
      | exact LeO.none _
      | refine LeO.ite ?_ ?_
      | refine LeO.bind ?_ (fun _ => ?_)
    · intro y0 y1 y2 y3
      unfold ravelinlaw7_SieveHas.l0
      repeat' first
      | (with_reducible exact ih0 _ _ _)
      | (with_reducible exact ih1 _ _ _ _)
      | (with_reducible exact ih2 _ _ _ _ _)
      | (with_reducible exact ih3 _ _ _ _ _ _)
      | (with_reducible exact ravelinlaw7_few.mono _ _)
      | (with_reducible exact ravelinlaw7_known.mono _)
      | (with_reducible exact sieve_Make.mono _ _)
      | (with_reducible exact sieve_May.mono _ _ _)
      | (with_reducible exact LeO.refl _)
      | (with_reducible exact LeO.none _)
      | (with_reducible refine LeO.ite ?_ ?_)
      | (with_reducible refine LeO.bind ?_ (fun _ => ?_))
      | exact ih0 _ _ _
      | exact ih1 _ _ _ _
      | exact ih2 _ _ _ _ _
      | exact ih3 _ _ _ _ _ _
      | exact ravelinlaw7_few.mono _ _
      | exact ravelinlaw7_known.mono _
      | exact sieve_Make.mono _ _
      | exact sieve_May.mono _ _ _
      | exact LeO.none _
      | refine LeO.ite ?_ ?_
      | refine LeO.bind ?_ (fun _ => ?_)
    · intro y0 y1 y2 y3 y4
      unfold ravelinlaw7_SieveHas.l1
      repeat' first
      | (with_reducible exact ih0 _ _ _)
      | (with_reducible exact ih1 _ _ _ _)
      | (with_reducible exact ih2 _ _ _ _ _)
      | (with_reducible exact ih3 _ _ _ _ _ _)
      | (with_reducible exact ravelinlaw7_few.mono _ _)
      | (with_reducible exact ravelinlaw7_known.mono _)
      | (with_reducible exact sieve_Make.mono _ _)
      | (with_reducible exact sieve_May.mono _ _ _)
      | (with_reducible exact LeO.refl _)
      | (with_reducible exact LeO.none _)
      | (with_reducible refine LeO.ite ?_ ?_)
      | (with_reducible refine LeO.bind ?_ (fun _ => ?_))
      | exact ih0 _ _ _
      | exact ih1 _ _ _ _
      | exact ih2 _ _ _ _ _
      | exact ih3 _ _ _ _ _ _
      | exact ravelinlaw7_few.mono _ _
      | exact ravelinlaw7_known.mono _
      | exact sieve_Make.mono _ _
      | exact sieve_May.mono _ _ _
      | exact LeO.none _
      | refine LeO.ite ?_ ?_
      | refine LeO.bind ?_ (fun _ => ?_)
    · intro y0 y1 y2 y3 y4 y5
      unfold ravelinlaw7_SieveHas.l2
      repeat' first
      | (with_reducible exact ih0 _ _ _)
      | (with_reducible exact ih1 _ _ _ _)
      | (with_reducible exact ih2 _ _ _ _ _)
      | (with_reducible exact ih3 _ _ _ _ _ _)
      | (with_reducible exact ravelinlaw7_few.mono _ _)
      | (with_reducible exact ravelinlaw7_known.mono _)
      | (with_reducible exact sieve_Make.mono _ _)
      | (with_reducible exact sieve_May.mono _ _ _)
      | (with_reducible exact LeO.refl _)
      | (with_reducible exact LeO.none _)
      | (with_reducible refine LeO.ite ?_ ?_)
      | (with_reducible refine LeO.bind ?_ (fun _ => ?_))
      | exact ih0 _ _ _
      | exact ih1 _ _ _ _
      | exact ih2 _ _ _ _ _
      | exact ih3 _ _ _ _ _ _
      | exact ravelinlaw7_few.mono _ _
      | exact ravelinlaw7_known.mono _
      | exact sieve_Make.mono _ _
      | exact sieve_May.mono _ _ _
      | exact LeO.none _
      | refine LeO.ite ?_ ?_
      | refine LeO.bind ?_ (fun _ => ?_)
theorem ravelinlaw7_SieveHas.mono : ∀ a0 a1 k, LeO (ravelinlaw7_SieveHas.f k a0 a1) (ravelinlaw7_SieveHas.f (k + 1) a0 a1) := by
  intro a0 a1 k
  obtain ⟨ih0, ih1, ih2, ih3⟩ := ravelinlaw7_SieveHas.mono_l k
  unfold ravelinlaw7_SieveHas.f
  repeat' first
      | (with_reducible exact ih0 _ _ _)
      | (with_reducible exact ih1 _ _ _ _)
      | (with_reducible exact ih2 _ _ _ _ _)
      | (with_reducible exact ih3 _ _ _ _ _ _)
      | (with_reducible exact ravelinlaw7_few.mono _ _)
      | (with_reducible exact ravelinlaw7_known.mono _)
      | (with_reducible exact sieve_Make.mono _ _)
      | (with_reducible exact sieve_May.mono _ _ _)
      | (with_reducible exact LeO.refl _)
      | (with_reducible exact LeO.none _)
      | (with_reducible refine LeO.ite ?_ ?_)
      | (with_reducible refine LeO.bind ?_ (fun _ => ?_))
      | exact ih0 _ _ _
      | exact ih1 _ _ _ _
      | exact ih2 _ _ _ _ _
      | exact ih3 _ _ _ _ _ _
      | exact ravelinlaw7_few.mono _ _
      | exact ravelinlaw7_known.mono _
      | exact sieve_Make.mono _ _
      | exact sieve_May.mono _ _ _
      | exact LeO.none _
      | refine LeO.ite ?_ ?_
      | refine LeO.bind ?_ (fun _ => ?_)
def ravelinlaw7_SieveHas.T7 : Bool × List (List Nat × List Nat) := (true, [([], []), ([], []), ([0, 1], [0, 1]), ([2], [2]), ([], []), ([], []), ([4, 5], [4, 5]), ([3, 6, 3], [3, 6]), ([7, 7, 0, 1, 2, 3, 4, 5, 6, 7], [7])])
def ravelinlaw7_SieveHas.B7 : List Nat := [0, 0, 3, 7, 0, 0, 48, 127, 255]
theorem ravelinlaw7_SieveHas.tab7 : rtab .any (opsOf Try.f4 7) = ravelinlaw7_SieveHas.T7 := by kernel_rfl
theorem ravelinlaw7_SieveHas.bits7 : waitsOk ravelinlaw7_SieveHas.T7.2 ravelinlaw7_SieveHas.B7 = true := by kernel_rfl
set_option maxHeartbeats 8000000 in
set_option maxRecDepth 100000 in
theorem ravelinlaw7_SieveHas.calls (k : Nat) (A0 : Option Addr) (c0 : Nat) (l0 : List ByteArray) (a1 : Int) (r : Bool) (w : World) (hr0 : Kd.C Kd.string w A0 l0.length l0) (hc0 : l0.length ≤ c0) (h : ravelinlaw7_SieveHas.f k l0 a1 = some r) (hr_ : r = true) :
    Calls Try.prog 4 #[.slice A0 l0.length c0, .int .u8 a1] w fun e w' => e = .returned (.bool r) ∧ Below w.heap.size w w' := by
  have HR0 := Aside0.mk hr0
  have HC0 := Aside0.mk hc0
  clear hr0 hc0
  have HB := Aside0.mk (Below.refl w.heap.size w)
  have H : ((ravelinlaw7_known.f k).bind fun t155 => (if t155 = true then ((ravelinlaw7_few.f k l0).bind fun t156 => (if t156 = true then (ravelinlaw7_SieveHas.j0 k l0 a1 ((l0.length : Int) == 0)) else (ravelinlaw7_SieveHas.j0 k l0 a1 true))) else (some false))) = some r := h
  clear h
  have HR_ := Aside0.mk hr_
  clear hr_
  replace H := Option.bind_eq_some_iff.mp H
  obtain ⟨t155, A30, H⟩ := H
  replace H : (if t155 = true then ((ravelinlaw7_few.f k l0).bind fun t156 => (if t156 = true then (ravelinlaw7_SieveHas.j0 k l0 a1 ((l0.length : Int) == 0)) else (ravelinlaw7_SieveHas.j0 k l0 a1 true))) else (some false)) = some r := H
  have A3 := Aside0.mk A30
  clear A30
  by_cases c4 : t155 = true
  · subst c4
    have H1 : ((ravelinlaw7_few.f k l0).bind fun t156 => (if t156 = true then (ravelinlaw7_SieveHas.j0 k l0 a1 ((l0.length : Int) == 0)) else (ravelinlaw7_SieveHas.j0 k l0 a1 true))) = some r := by rw [if_pos rfl] at H; exact H
    clear H
    have H := H1
    clear H1
    have HC5 := Aside0.mk H
    clear H
    go_enter Try.func4, Try.ntmps4
    go_upto_region 3 with (first | ((with_reducible refine gate_callee (f := 7) rfl ?_); refine goesL_ (some 12) rfl rfl Try.func7 (by kernel_rfl) rfl #[] rfl (by (try simp only [List.map_toArray, List.map_cons, List.map_nil]); first | done | rfl | (simp only [List.length_drop, List.length_take]; rfl)) ?_; (with_reducible refine (ravelinlaw7_known.calls k  true _ A3.out (by first | rfl | assumption | exact of_decide_eq_true (by assumption))).mono ?_); rintro e w6 ⟨rfl, hb⟩; refine ⟨_, rfl, ?_⟩; have n0_ := Aside0.mk (below_step (by repeat (first | (with_reducible first | exact HB.out | apply below_alloc | apply pw_below_drewN | apply below_drew1) | exact HB.out)) hb); clear HB; have HB := n0_; clear n0_; (try clear hb); (try clear hb2); (try clear hk); (try clear hi)))
    (try simp only [Act.put, List.setIfInBounds_toArray, List.set_cons_zero, List.set_cons_succ])
    go_cut [21] (fun v21 wc => ∃ (kq : Nat) (x21_4 : Bool), v21 = .bool x21_4 ∧ Aside0 (ravelinlaw7_SieveHas.j0 kq l0 a1 x21_4 = some r) ∧ Aside0 (kq ≤ k) ∧ Aside0 (Below w.heap.size w wc))
    case first =>
      have H := HC5.out
      clear HC5
      replace H := Option.bind_eq_some_iff.mp H
      obtain ⟨t156, A70, H⟩ := H
      replace H : (if t156 = true then (ravelinlaw7_SieveHas.j0 k l0 a1 ((l0.length : Int) == 0)) else (ravelinlaw7_SieveHas.j0 k l0 a1 true)) = some r := H
      have A7 := Aside0.mk A70
      clear A70
      by_cases c8 : t156 = true
      · subst c8
        have H1 : (ravelinlaw7_SieveHas.j0 k l0 a1 ((l0.length : Int) == 0)) = some r := by rw [if_pos rfl] at H; exact H
        clear H
        have H := H1
        clear H1
        have H' := Aside0.mk H
        clear H
        go_wp2_with (first | ((with_reducible refine gate_callee (f := 8) rfl ?_); refine goesL_ (some 15) rfl rfl Try.func8 (by kernel_rfl) rfl #[.slice A0 l0.length c0] rfl (by (try simp only [List.map_toArray, List.map_cons, List.map_nil]); first | done | rfl | (simp only [List.length_drop, List.length_take]; rfl)) ?_; (with_reducible refine (ravelinlaw7_few.calls k _ _ l0 true _ ?side1 ?side2 A7.out).mono ?_); (case side1 => repeat (first | exact (Kd.C_below HR0.out HB.out) | (with_reducible refine Kd.C_alloc ?_ _) | (with_reducible refine Kd.C_drewN ?_ _) | (with_reducible refine Kd.C_drew ?_))); (case side2 => exact HC0.out); rintro e w' ⟨rfl, ⟨nd, rfl⟩⟩; refine ⟨_, rfl, ?_⟩))
        go_meet
        case rel => exact ⟨_, (((l0.length : Int) == 0)), (by first | rfl | (simp; done) | (simp [*]; done)), H', ⟨by first | omega | exact Nat.le_refl _⟩, ⟨by repeat (first | (with_reducible first | exact HB.out | apply below_alloc | apply pw_below_drewN | apply below_drew1) | exact HB.out)⟩⟩
      · replace c8 := Bool.eq_false_iff.mpr c8
        subst c8
        have H1 : (ravelinlaw7_SieveHas.j0 k l0 a1 true) = some r := by rw [if_neg (show ¬ (false = true) by decide)] at H; exact H
        clear H
        have H := H1
        clear H1
        have H' := Aside0.mk H
        clear H
        go_wp2_with (first | ((with_reducible refine gate_callee (f := 8) rfl ?_); refine goesL_ (some 15) rfl rfl Try.func8 (by kernel_rfl) rfl #[.slice A0 l0.length c0] rfl (by (try simp only [List.map_toArray, List.map_cons, List.map_nil]); first | done | rfl | (simp only [List.length_drop, List.length_take]; rfl)) ?_; (with_reducible refine (ravelinlaw7_few.calls k _ _ l0 false _ ?side1 ?side2 A7.out).mono ?_); (case side1 => repeat (first | exact (Kd.C_below HR0.out HB.out) | (with_reducible refine Kd.C_alloc ?_ _) | (with_reducible refine Kd.C_drewN ?_ _) | (with_reducible refine Kd.C_drew ?_))); (case side2 => exact HC0.out); rintro e w' ⟨rfl, ⟨nd, rfl⟩⟩; refine ⟨_, rfl, ?_⟩))
        go_meet
        case rel => exact ⟨_, (true), (by first | rfl | (simp; done) | (simp [*]; done)), H', ⟨by first | omega | exact Nat.le_refl _⟩, ⟨by repeat (first | (with_reducible first | exact HB.out | apply below_alloc | apply pw_below_drewN | apply below_drew1) | exact HB.out)⟩⟩
    case rest =>
      clear HC5
      try clear p2
      try clear c4
      try clear c7
      try clear c8
      obtain ⟨kq, x21_4, rfl, HA, HJ4, HB⟩ := hcut
      cases kq with
      | zero => exact absurd HA.out (by simp [ravelinlaw7_SieveHas.j0])
      | succ kj4 =>
        have H := HA.out
        clear HA
        simp only [ravelinlaw7_SieveHas.j0] at H
        by_cases c9 : x21_4 = true
        · subst c9
          have H1 : (some true) = some r := by rw [if_pos rfl] at H; exact H
          clear H
          have H := H1
          clear H1
          obtain rfl := Option.some.inj H
          go_wp2
          go_ret
          exact ⟨by first | rfl | (simp [errW_none, errW_some] <;> rfl) | (simp [*, errW_none, errW_some] <;> rfl), by repeat (first | (with_reducible first | exact HB.out | apply below_alloc | apply pw_below_drewN | apply below_drew1) | exact HB.out)⟩
        · replace c9 := Bool.eq_false_iff.mpr c9
          subst c9
          have H1 : ((sieve_Make.f kj4 l0).bind fun t157 => (if (l0.length : Int) = 0 then (none) else (if 0 ≤ (Int.tmod (wrap64 (a1)) (l0.length : Int)) then (if (Int.tmod (wrap64 (a1)) (l0.length : Int)) ≤ (l0.length : Int) then (if ([] : List ByteArray).length + (l0.drop ((Int.tmod (wrap64 (a1)) (l0.length : Int)) : Int).toNat).length < 8796093022208 then ((some (([] : List ByteArray) ++ (l0.drop ((Int.tmod (wrap64 (a1)) (l0.length : Int)) : Int).toNat) : List ByteArray)).bind fun y159 => (if y159.length + (l0.take ((Int.tmod (wrap64 (a1)) (l0.length : Int)) : Int).toNat).length < 8796093022208 then (ravelinlaw7_SieveHas.l0 kj4 l0 t157 (y159 ++ (l0.take ((Int.tmod (wrap64 (a1)) (l0.length : Int)) : Int).toNat)) 0) else (none))) else (none)) else (none)) else (none)))) = some r := by rw [if_neg (show ¬ (false = true) by decide)] at H; exact H
          clear H
          have H := H1
          clear H1
          replace H := Option.bind_eq_some_iff.mp H
          obtain ⟨t157, A100, H⟩ := H
          replace H : (if (l0.length : Int) = 0 then (none) else (if 0 ≤ (Int.tmod (wrap64 (a1)) (l0.length : Int)) then (if (Int.tmod (wrap64 (a1)) (l0.length : Int)) ≤ (l0.length : Int) then (if ([] : List ByteArray).length + (l0.drop ((Int.tmod (wrap64 (a1)) (l0.length : Int)) : Int).toNat).length < 8796093022208 then ((some (([] : List ByteArray) ++ (l0.drop ((Int.tmod (wrap64 (a1)) (l0.length : Int)) : Int).toNat) : List ByteArray)).bind fun y159 => (if y159.length + (l0.take ((Int.tmod (wrap64 (a1)) (l0.length : Int)) : Int).toNat).length < 8796093022208 then (ravelinlaw7_SieveHas.l0 kj4 l0 t157 (y159 ++ (l0.take ((Int.tmod (wrap64 (a1)) (l0.length : Int)) : Int).toNat)) 0) else (none))) else (none)) else (none)) else (none))) = some r := H
          have A10 := Aside0.mk A100
          clear A100
          by_cases c11 : (l0.length : Int) = 0
          · rw [if_pos c11] at H
            exact absurd H (by simp)
          · rw [if_neg c11] at H
            have c11b0 : ((l0.length : Int) == 0) = false := beq_eq_false_iff_ne.mpr c11
            have c11b1 : ((l0.length : Int) != 0) = true := bne_iff_ne.mpr c11
            have c11b2 : ¬ (l0 = []) := fun h_ => c11 (by rw [h_]; rfl)
            obtain ⟨ji12, hji12⟩ : ∃ j_ : Int, (Int.tmod (wrap64 (a1)) (l0.length : Int)) = j_ := ⟨_, rfl⟩
            replace H : (if 0 ≤ (ji12) then (if (ji12) ≤ (l0.length : Int) then (if ([] : List ByteArray).length + (l0.drop ((ji12) : Int).toNat).length < 8796093022208 then ((some (([] : List ByteArray) ++ (l0.drop ((ji12) : Int).toNat) : List ByteArray)).bind fun y159 => (if y159.length + (l0.take ((ji12) : Int).toNat).length < 8796093022208 then (ravelinlaw7_SieveHas.l0 kj4 l0 t157 (y159 ++ (l0.take ((ji12) : Int).toNat)) 0) else (none))) else (none)) else (none)) else (none)) = some r := by first | (rw [hji12] at H; exact H) | (simp only [hji12] at H ⊢; exact H)
            (try rw [hji12] at A10)
            by_cases c13 : 0 ≤ (ji12)
            · rw [if_pos c13] at H
              have c13b0 := eq_true c13
              have c13b1 : decide (0 ≤ (ji12)) = true := decide_eq_true c13
              clear c13
              by_cases c14 : (ji12) ≤ (l0.length : Int)
              · rw [if_pos c14] at H
                have c14b0 := eq_true c14
                have c14b1 : decide ((ji12) ≤ (l0.length : Int)) = true := decide_eq_true c14
                clear c14
                by_cases c15 : ([] : List ByteArray).length + (l0.drop ((ji12) : Int).toNat).length < 8796093022208
                · rw [if_pos c15] at H
                  have LMc15 := Aside0.mk c15
                  clear c15
                  obtain ⟨y159, hy159⟩ : ∃ y_ : List ByteArray, y_ = (([] : List ByteArray) ++ (l0.drop ((ji12) : Int).toNat)) := ⟨_, rfl⟩
                  replace H : (if y159.length + (l0.take ((ji12) : Int).toNat).length < 8796093022208 then (ravelinlaw7_SieveHas.l0 kj4 l0 t157 (y159 ++ (l0.take ((ji12) : Int).toNat)) 0) else (none)) = some r := by first | (rw [hy159]; with_reducible exact H) | (have H2_ := (Option.bind_some _ _).symm.trans H; rw [hy159]; with_reducible exact H2_) | (have H2_ := (Option.bind_some _ _).symm.trans H; with_reducible exact H2_) | with_reducible exact H | (rw [hy159]; exact H) | exact H
                  have Ny159 := Aside0.mk hy159
                  clear hy159
                  have c16b0 := eq_true (of_decide_eq_true (by first | (with_reducible assumption) | assumption) : 0 ≤ (ji12))
                  have c17b0 := eq_true (of_decide_eq_true (by first | (with_reducible assumption) | assumption) : (ji12) ≤ (l0.length : Int))
                  by_cases c18 : y159.length + (l0.take ((ji12) : Int).toNat).length < 8796093022208
                  · rw [if_pos c18] at H
                    have LMc18 := Aside0.mk c18
                    clear c18
                    obtain ⟨y163, hy163⟩ : ∃ y_ : List ByteArray, y_ = (y159 ++ (l0.take ((ji12) : Int).toNat)) := ⟨_, rfl⟩
                    replace H : (ravelinlaw7_SieveHas.l0 kj4 l0 t157 y163 0) = some r := by first | (rw [hy163]; with_reducible exact H) | (have H2_ := (Option.bind_some _ _).symm.trans H; rw [hy163]; with_reducible exact H2_) | (have H2_ := (Option.bind_some _ _).symm.trans H; with_reducible exact H2_) | with_reducible exact H | (rw [hy163]; exact H) | exact H
                    have Ny163 := Aside0.mk hy163
                    clear hy163
                    have H' := Aside0.mk H
                    clear H
                    try go_wp2_with (first | ((with_reducible refine gate_callee (f := 11) rfl ?_); refine goesL_ (some 23) rfl rfl Try.func11 (by kernel_rfl) rfl #[.slice A0 l0.length c0] rfl (by (try simp only [List.map_toArray, List.map_cons, List.map_nil]); first | done | rfl | (simp only [List.length_drop, List.length_take]; rfl)) ?_; (with_reducible refine (sieve_Make.calls kj4 _ _ l0 t157 _ ?side1 ?side2 A10.out).mono ?_); (case side1 => repeat (first | exact (Kd.C_below HR0.out HB.out) | (with_reducible refine Kd.C_alloc ?_ _) | (with_reducible refine Kd.C_drewN ?_ _) | (with_reducible refine Kd.C_drew ?_))); (case side2 => exact HC0.out); rintro e w19 ⟨rfl, hb⟩; refine ⟨_, rfl, ?_⟩; have n0_ := Aside0.mk (below_step (by repeat (first | (with_reducible first | exact HB.out | apply below_alloc | apply pw_below_drewN | apply below_drew1) | exact HB.out)) hb); clear HB; have HB := n0_; clear n0_; (try clear hb); (try clear hb2); (try clear hk); (try clear hi)))
                    have n0_ := Aside0.mk (below_drew1 HB.out)
                    clear HB
                    have HB := n0_
                    clear n0_
                    obtain ⟨i021, hi021, _, hsz21, _⟩ := info_parts info9
                    obtain ⟨A21, hcut21, hA21, hC21⟩ := print_drop_of (P := Try.prog) Value.string (⟨#[]⟩ : ByteArray) 22 9 .i64 Try.underlying22 hi021 hsz21 A0 c0 l0 (ji12) (of_decide_eq_true (by first | (with_reducible assumption) | assumption)) (of_decide_eq_true (by first | (with_reducible assumption) | assumption)) HC0.out
                    have HR158 := Aside0.mk (Kd.C_of_reads (h1 := fun _ => rfl) (hA21 _ (Kd.reads_of_C HR0.out)))
                    have HC158 := Aside0.mk hC21
                    clear hA21 hC21 hi021 hsz21
                    obtain ⟨i022, hi022, _, hsz22, _⟩ := info_parts info9
                    obtain ⟨hcut22, hA22, hC22⟩ := print_take_of (P := Try.prog) Value.string (⟨#[]⟩ : ByteArray) 22 9 .i64 Try.underlying22 hi022 hsz22 A0 c0 l0 (ji12) (of_decide_eq_true (by first | (with_reducible assumption) | assumption)) (of_decide_eq_true (by first | (with_reducible assumption) | assumption)) HC0.out
                    have HR162 := Aside0.mk (Kd.C_of_reads (h1 := fun _ => rfl) (hA22 _ (Kd.reads_of_C HR0.out)))
                    have HC162 := Aside0.mk hC22
                    clear hA22 hC22 hi022 hsz22
                    refine start_ (n := 9) (S := fun w' => True) (ds := []) #[false, false, false, false, false, false, false, false, false] (by kernel_rfl) rfl rfl trivial (fun hHeld => ?_); refine with_tabW ravelinlaw7_SieveHas.tab7 ravelinlaw7_SieveHas.bits7 (fun HT_ HW_ => ?_)
                    generalize w19.drew = w20 at HB HR158 HR162 hHeld ⊢
                    refine pure_ (i := 0) (N := some 29) (v := ?_) (a' := ?_) #[true, false, false, false, false, false, false, false, false] rfl rfl (any_of HT_.out (by kernel_rfl)) (fun _ _ _ h => h) (Or.inl ⟨by rfl, ?_⟩) ?_ ?_
                    rotate_left
                    · intro w'
                      go_simp
                      with_reducible rfl
                    rotate_left
                    · simp only [Act.put, List.setIfInBounds_toArray, List.set_cons_zero, List.set_cons_succ, i64_w, i32_w]
                      rfl
                    refine pure_ (i := 1) (N := some 30) (v := ?_) (a' := ?_) #[true, true, false, false, false, false, false, false, false] rfl rfl (any_of HT_.out (by kernel_rfl)) (fun _ _ _ h => h) (Or.inl ⟨by rfl, ?_⟩) ?_ ?_
                    rotate_left
                    · intro w'
                      go_simp
                      with_reducible rfl
                    rotate_left
                    · simp only [Act.put, List.setIfInBounds_toArray, List.set_cons_zero, List.set_cons_succ, i64_w, i32_w]
                      rfl
                    refine pure_ (i := 2) (N := some 31) (v := ?_) (a' := ?_) #[true, true, true, false, false, false, false, false, false] rfl rfl (any_of HT_.out (by kernel_rfl)) (fun _ _ _ h => h) (Or.inl ⟨by rfl, ?_⟩) ?_ ?_
                    rotate_left
                    · intro w'
                      go_simp
                      with_reducible rfl
                    rotate_left
                    · simp only [Act.put, List.setIfInBounds_toArray, List.set_cons_zero, List.set_cons_succ, i64_w, i32_w]
                      rfl
                    refine pure_ (i := 4) (N := some 33) (v := ?_) (a' := ?_) #[true, true, true, false, true, false, false, false, false] rfl rfl (any_of HT_.out (by kernel_rfl)) (fun _ _ _ h => h) (Or.inl ⟨by rfl, ?_⟩) ?_ ?_
                    rotate_left
                    · intro w'
                      go_simp
                      with_reducible rfl
                    rotate_left
                    · simp only [Act.put, List.setIfInBounds_toArray, List.set_cons_zero, List.set_cons_succ, i64_w, i32_w]
                      rfl
                    refine pure_ (i := 5) (N := some 34) (v := ?_) (a' := ?_) #[true, true, true, false, true, true, false, false, false] rfl rfl (any_of HT_.out (by kernel_rfl)) (fun _ _ _ h => h) (Or.inl ⟨by rfl, ?_⟩) ?_ ?_
                    rotate_left
                    · intro w'
                      go_simp
                      with_reducible rfl
                    rotate_left
                    · simp only [Act.put, List.setIfInBounds_toArray, List.set_cons_zero, List.set_cons_succ, i64_w, i32_w]
                      rfl
                    refine pure_ (i := 6) (N := some 35) (v := ?_) (a' := ?_) #[true, true, true, false, true, true, true, false, false] rfl rfl (any_of HT_.out (by kernel_rfl)) (fun _ _ _ h => h) (Or.inl ⟨by rfl, ?_⟩) ?_ ?_
                    rotate_left
                    · intro w'
                      go_simp
                      with_reducible rfl
                    rotate_left
                    · simp only [Act.put, List.setIfInBounds_toArray, List.set_cons_zero, List.set_cons_succ, i64_w, i32_w]
                      rfl
                    refine one_ (i := 3) (N := some 32) #[true, true, true, true, true, true, true, false, false] rfl rfl (one_of HT_.out (by kernel_rfl)) (by decide) (fun K hK => ?_)
                    refine Kd.R_append_rows_step Kd.string (w0 := w) w.heap.size (by rfl) (.const (.slice none 0 0)) (.tmp 31) 22 9 (.string ⟨#[]⟩) 16 rfl Try.underlying22 info9 rfl (by decide) (by omega) (.slice none 0 0) ([] : List ByteArray) (l0.drop ((ji12) : Int).toNat) _ _ _ (fun _ => True) (fun _ => False) rfl rfl ?aO ?aR (fun _ _ h => h) (fun _ h => h.elim) ?aF ?aB ?aS ?aL ?_
                    (case aR => first | (refine Eq.mp (congrArg (fun n_ => ReadsRow _ _ _ _ n_ _) (show (l0.drop ((ji12) : Int).toNat).length = (l0.length - (ji12).toNat) from List.length_drop)) ?_; repeat (first | exact (Kd.C_below HR158.out HB.out) | (with_reducible refine Kd.C_alloc ?_ _) | (with_reducible refine Kd.C_drewN ?_ _) | (with_reducible refine Kd.C_drew ?_)); done) | (rw [← show (l0.drop ((ji12) : Int).toNat).length = (l0.length - (ji12).toNat) from List.length_drop]; repeat (first | exact (Kd.C_below HR158.out HB.out) | (with_reducible refine Kd.C_alloc ?_ _) | (with_reducible refine Kd.C_drewN ?_ _) | (with_reducible refine Kd.C_drew ?_)); done) | (repeat (first | exact (Kd.C_below HR158.out HB.out) | (with_reducible refine Kd.C_alloc ?_ _) | (with_reducible refine Kd.C_drewN ?_ _) | (with_reducible refine Kd.C_drew ?_))))
                    (case aB => exact (by repeat (first | (with_reducible first | exact HB.out | apply below_alloc | apply pw_below_drewN | apply below_drew1) | exact HB.out)))
                    (case aF => exact (fun _ _ => trivial))
                    (case aO => exact ((Kd.R_nil _ _ _ _ (fun _ => True))))
                    (case aS => exact (below_size (by repeat (first | (with_reducible first | exact HB.out | apply below_alloc | apply pw_below_drewN | apply below_drew1) | exact HB.out))))
                    (case aL => have := LMc15.out; have hlx_ := (show (l0.drop ((ji12) : Int).toNat).length = (l0.length - (ji12).toNat) from List.length_drop); omega)
                    intro v160 w23 ho hb hg hat
                    rw [← Ny159.out] at ho
                    have n0_ := Aside0.mk (hb)
                    have n1_ := Aside0.mk (ho)
                    clear HB
                    have HB := n0_
                    have HO161 := n1_
                    clear n0_ n1_
                    clear ho hb hg hat
                    refine hK.out _ _ trivial (fun hHeld => ?_)
                    clear hK K
                    refine norm_ (a' := ?_) ?_ ?_
                    rotate_left
                    · show Act.put _ (some 32) _ = _
                      simp only [Act.put, List.setIfInBounds_toArray, List.set_cons_zero, List.set_cons_succ, i64_w, i32_w]
                      rfl
                    refine one_ (i := 7) (N := some 36) #[true, true, true, true, true, true, true, true, false] rfl rfl (one_of HT_.out (by kernel_rfl)) (by decide) (fun K hK => ?_)
                    refine Kd.R_append_rows_step Kd.string (w0 := w) w.heap.size (by rfl) (.tmp 32) (.tmp 35) 22 9 (.string ⟨#[]⟩) 16 rfl Try.underlying22 info9 rfl (by decide) (by omega) v160 y159 (l0.take ((ji12) : Int).toNat) _ _ _ (fun _ => True) (fun _ => False) rfl rfl ?aO ?aR (fun _ _ h => h) (fun _ h => h.elim) ?aF ?aB ?aS ?aL ?_
                    (case aR => first | (refine Eq.mp (congrArg (fun n_ => ReadsRow _ _ _ _ n_ _) (show (l0.take ((ji12) : Int).toNat).length = (ji12).toNat from (by rw [List.length_take]; have h_ : ((ji12) : Int) ≤ (l0.length : Int) := of_decide_eq_true (by first | (with_reducible assumption) | assumption); omega))) ?_; repeat (first | exact (Kd.C_below HR162.out HB.out) | (with_reducible refine Kd.C_alloc ?_ _) | (with_reducible refine Kd.C_drewN ?_ _) | (with_reducible refine Kd.C_drew ?_)); done) | (rw [← show (l0.take ((ji12) : Int).toNat).length = (ji12).toNat from (by rw [List.length_take]; have h_ : ((ji12) : Int) ≤ (l0.length : Int) := of_decide_eq_true (by first | (with_reducible assumption) | assumption); omega)]; repeat (first | exact (Kd.C_below HR162.out HB.out) | (with_reducible refine Kd.C_alloc ?_ _) | (with_reducible refine Kd.C_drewN ?_ _) | (with_reducible refine Kd.C_drew ?_)); done) | (repeat (first | exact (Kd.C_below HR162.out HB.out) | (with_reducible refine Kd.C_alloc ?_ _) | (with_reducible refine Kd.C_drewN ?_ _) | (with_reducible refine Kd.C_drew ?_))))
                    (case aB => exact (by repeat (first | (with_reducible first | exact HB.out | apply below_alloc | apply pw_below_drewN | apply below_drew1) | exact HB.out)))
                    (case aF => exact (fun _ _ => trivial))
                    (case aO => exact (by (with_reducible repeat (first | apply Kd.R_alloc | apply Kd.R_drewN | apply Kd.R_drew)); exact HO161.out))
                    (case aS => exact (below_size (by repeat (first | (with_reducible first | exact HB.out | apply below_alloc | apply pw_below_drewN | apply below_drew1) | exact HB.out))))
                    (case aL => have := LMc18.out; have hlx_ := (show (l0.take ((ji12) : Int).toNat).length = (ji12).toNat from (by rw [List.length_take]; have h_ : ((ji12) : Int) ≤ (l0.length : Int) := of_decide_eq_true (by first | (with_reducible assumption) | assumption); omega)); omega)
                    intro v164 w24 ho hb hg hat
                    rw [← Ny163.out] at ho
                    have n0_ := Aside0.mk (hb)
                    have n1_ := Aside0.mk (ho)
                    clear HB
                    clear HO161
                    have HB := n0_
                    have HO165 := n1_
                    clear n0_ n1_
                    clear ho hb hg hat
                    refine hK.out _ _ trivial (fun hHeld => ?_)
                    clear hK K
                    refine norm_ (a' := ?_) ?_ ?_
                    rotate_left
                    · show Act.put _ (some 36) _ = _
                      simp only [Act.put, List.setIfInBounds_toArray, List.set_cons_zero, List.set_cons_succ, i64_w, i32_w]
                      rfl
                    refine pure_ (i := 8) (N := some 7) (v := ?_) (a' := ?_) #[true, true, true, true, true, true, true, true, true] rfl rfl (any_of HT_.out (by kernel_rfl)) (fun _ _ _ h => h) (Or.inl ⟨by rfl, ?_⟩) ?_ ?_
                    rotate_left
                    · intro w'
                      go_simp
                      with_reducible rfl
                    rotate_left
                    · simp only [Act.put, List.setIfInBounds_toArray, List.set_cons_zero, List.set_cons_succ, i64_w, i32_w]
                      rfl
                    refine done_ (done_of HT_.out (by kernel_rfl)) ?_
                    try go_wp2
                    go_loopg [8] kj4 (fun kq v8 w' => ∃ (x8_2 : Int), v8 = .int .i64 x8_2 ∧ Aside0 (ravelinlaw7_SieveHas.l0 kq l0 t157 y163 x8_2 = some r) ∧ Aside0 (kq ≤ kj4) ∧ Aside0 (Kd.R Kd.string 9 w' w.heap.size (fun _ => True) v164 y163) ∧ Aside0 (Below w.heap.size w w'))
                    case atStart => exact ⟨(0), (by first | rfl | (simp; done) | (simp [*]; done)), H', ⟨Nat.le_refl _⟩, ⟨by (with_reducible repeat (first | apply Kd.R_alloc | apply Kd.R_drewN | apply Kd.R_drew)); exact HO165.out⟩, ⟨by repeat (first | (with_reducible first | exact HB.out | apply below_alloc | apply pw_below_drewN | apply below_drew1) | exact HB.out)⟩⟩
                    case round =>
                      clear H'
                      try clear c1
                      try clear p2
                      try clear c4
                      try clear p6
                      try clear c7
                      try clear c8
                      try clear c9
                      try clear c11
                      try clear c11b0
                      try clear c11b1
                      try clear c11b2
                      try clear c13
                      try clear c13b0
                      try clear c13b1
                      try clear c14
                      try clear c14b0
                      try clear c14b1
                      try clear c15
                      try clear c16
                      try clear c16b0
                      try clear c17
                      try clear c17b0
                      try clear c18
                      try clear p2
                      obtain ⟨x8_2, rfl, HA, HK2, HO_7, HB⟩ := hrel
                      cases gk with
                      | zero => exact absurd HA.out (by simp [ravelinlaw7_SieveHas.l0])
                      | succ k2 =>
                        have H := HA.out
                        clear HA
                        simp only [ravelinlaw7_SieveHas.l0] at H
                        by_cases c25 : x8_2 < (l0.length : Int)
                        · rw [if_pos c25] at H
                          have c25b0 : decide (x8_2 < (l0.length : Int)) = true := decide_eq_true c25
                          clear c25
                          by_cases c26 : 0 ≤ x8_2
                          · rw [if_pos c26] at H
                            have c26b0 : decide (0 ≤ x8_2) = true := decide_eq_true c26
                            clear c26
                            replace H := Option.bind_eq_some_iff.mp H
                            obtain ⟨t167, A270, H⟩ := H
                            replace H : (if t167 = true then (ravelinlaw7_SieveHas.l0 k2 l0 t157 y163 (wrap64 (x8_2 + 1))) else (some false)) = some r := H
                            have A27 := Aside0.mk A270
                            clear A270
                            by_cases c28 : t167 = true
                            · subst c28
                              have H1 : (ravelinlaw7_SieveHas.l0 k2 l0 t157 y163 (wrap64 (x8_2 + 1))) = some r := by rw [if_pos rfl] at H; exact H
                              clear H
                              have H := H1
                              clear H1
                              have H' := Aside0.mk H
                              clear H
                              have p166 : 0 ≤ (x8_2 : Int) := of_decide_eq_true (by first | (with_reducible assumption) | assumption)
                              have q166 : x8_2 < (l0.length : Int) := of_decide_eq_true (by first | (with_reducible assumption) | assumption)
                              obtain ⟨ad166, e166, hx166_0⟩ := Kd.at_string HR0.out x8_2 p166 q166
                              cases e166
                              replace hx166_0 := (HB.out.cell (World.block_lt_of_cell? w _ hx166_0)).trans hx166_0
                              replace p166 := eq_true p166
                              replace q166 := eq_true q166
                              go_wp2_with (first | ((with_reducible refine gate_callee (f := 13) rfl ?_); refine goesL_ (some 48) rfl rfl Try.func13 (by kernel_rfl) rfl #[.string t157, .string (rdOf ByteArray.empty l0 x8_2)] rfl (by (try simp only [List.map_toArray, List.map_cons, List.map_nil]); first | done | rfl | (simp only [List.length_drop, List.length_take]; rfl)) ?_; (with_reducible refine (sieve_May.calls k2 t157 (rdOf ByteArray.empty l0 x8_2) true _ A27.out).mono ?_); rintro e w29 ⟨rfl, hb⟩; refine ⟨_, rfl, ?_⟩; have n0_ := Aside0.mk (Kd.R_below (by (with_reducible repeat (first | apply Kd.R_alloc | apply Kd.R_drewN | apply Kd.R_drew)); exact HO_7.out) hb); have n1_ := Aside0.mk (below_step (by repeat (first | (with_reducible first | exact HB.out | apply below_alloc | apply pw_below_drewN | apply below_drew1) | exact HB.out)) hb); clear HO_7; clear HB; have HO_7 := n0_; have HB := n1_; clear n0_ n1_; (try clear hb); (try clear hb2); (try clear hk); (try clear hi)))
                              go_roundg k2
                              case measure => have := HJ4.out; have := HK2.out; omega
                              case rel => exact ⟨(wrap64 (x8_2 + 1)), (by first | rfl | (simp; done) | (simp [*]; done)), H', ⟨by have := HJ4.out; have := HK2.out; omega⟩, ⟨by (with_reducible repeat (first | apply Kd.R_alloc | apply Kd.R_drewN | apply Kd.R_drew)); exact HO_7.out⟩, ⟨by repeat (first | (with_reducible first | exact HB.out | apply below_alloc | apply pw_below_drewN | apply below_drew1) | exact HB.out)⟩⟩
                            · replace c28 := Bool.eq_false_iff.mpr c28
                              subst c28
                              have H1 : (some false) = some r := by rw [if_neg (show ¬ (false = true) by decide)] at H; exact H
                              clear H
                              have H := H1
                              clear H1
                              exact absurd ((Option.some.inj H).trans HR_.out) (by decide)
                          · rw [if_neg c26] at H
                            exact absurd H (by simp)
                        · rw [if_neg c25] at H
                          have c25b0 : decide (x8_2 < (l0.length : Int)) = false := decide_eq_false c25
                          clear c25
                          have H' := Aside0.mk H
                          clear H
                          go_wp2
                          go_loopg [9, 10] k2 (fun kq v9 v10 w' => ∃ (x9_3 : Int) (x10_3 : Int), v9 = .int .i64 x9_3 ∧ v10 = .int .i64 x10_3 ∧ Aside0 (ravelinlaw7_SieveHas.l1 kq l0 t157 y163 x9_3 x10_3 = some r) ∧ Aside0 (kq ≤ k2) ∧ Aside0 (Kd.R Kd.string 9 w' w.heap.size (fun _ => True) v164 y163) ∧ Aside0 (Below w.heap.size w w'))
                          case atStart => exact ⟨(0), (0), (by first | rfl | (simp; done) | (simp [*]; done)), (by first | rfl | (simp; done) | (simp [*]; done)), H', ⟨Nat.le_refl _⟩, ⟨by (with_reducible repeat (first | apply Kd.R_alloc | apply Kd.R_drewN | apply Kd.R_drew)); exact HO_7.out⟩, ⟨by repeat (first | (with_reducible first | exact HB.out | apply below_alloc | apply pw_below_drewN | apply below_drew1) | exact HB.out)⟩⟩
                          case round =>
                            clear H'
                            try clear c1
                            try clear p1
                            try clear q1
                            try clear hx1
                            try clear c2
                            try clear p2
                            try clear c4
                            try clear p6
                            try clear c7
                            try clear c8
                            try clear c9
                            try clear c11
                            try clear c11b0
                            try clear c11b1
                            try clear c11b2
                            try clear c13
                            try clear c13b0
                            try clear c13b1
                            try clear c14
                            try clear c14b0
                            try clear c14b1
                            try clear c15
                            try clear c16
                            try clear c16b0
                            try clear p16
                            try clear q16
                            try clear hx16
                            try clear c17
                            try clear c17b0
                            try clear c18
                            try clear c25
                            try clear c25b0
                            try clear c26
                            try clear c26b0
                            try clear c28
                            try clear hx166_0
                            try clear p166
                            try clear p2
                            try clear p6
                            try clear q166
                            obtain ⟨x9_3, x10_3, rfl, rfl, HA, HK3, HO_7, HB⟩ := hrel
                            cases gk with
                            | zero => exact absurd HA.out (by simp [ravelinlaw7_SieveHas.l1])
                            | succ k3 =>
                              have H := HA.out
                              clear HA
                              simp only [ravelinlaw7_SieveHas.l1] at H
                              by_cases c30 : x10_3 < (t157.size : Int)
                              · rw [if_pos c30] at H
                                have c30b0 : decide (x10_3 < (t157.size : Int)) = true := decide_eq_true c30
                                clear c30
                                have H' := Aside0.mk H
                                clear H
                                go_wp2
                                go_loopg [9, 11] k3 (fun kq v9 v11 w' => ∃ (x9_4 : Int) (x11_4 : Int), v9 = .int .i64 x9_4 ∧ v11 = .int .i64 x11_4 ∧ Aside0 (ravelinlaw7_SieveHas.l2 kq l0 t157 y163 x9_4 x10_3 x11_4 = some r) ∧ Aside0 (kq ≤ k3) ∧ Aside0 (Kd.R Kd.string 9 w' w.heap.size (fun _ => True) v164 y163) ∧ Aside0 (Below w.heap.size w w'))
                                case atStart => exact ⟨(x9_3), (0), (by first | rfl | (simp; done) | (simp [*]; done)), (by first | rfl | (simp; done) | (simp [*]; done)), H', ⟨Nat.le_refl _⟩, ⟨by (with_reducible repeat (first | apply Kd.R_alloc | apply Kd.R_drewN | apply Kd.R_drew)); exact HO_7.out⟩, ⟨by repeat (first | (with_reducible first | exact HB.out | apply below_alloc | apply pw_below_drewN | apply below_drew1) | exact HB.out)⟩⟩
                                case round =>
                                  clear H'
                                  try clear c1
                                  try clear p1
                                  try clear q1
                                  try clear hx1
                                  try clear c2
                                  try clear p2
                                  try clear c3
                                  try clear c4
                                  try clear p6
                                  try clear c7
                                  try clear c8
                                  try clear c9
                                  try clear c11
                                  try clear c11b0
                                  try clear c11b1
                                  try clear c11b2
                                  try clear c13
                                  try clear c13b0
                                  try clear c13b1
                                  try clear c14
                                  try clear c14b0
                                  try clear c14b1
                                  try clear c15
                                  try clear c16
                                  try clear c16b0
                                  try clear p16
                                  try clear q16
                                  try clear hx16
                                  try clear c17
                                  try clear c17b0
                                  try clear c18
                                  try clear c25
                                  try clear c25b0
                                  try clear c26
                                  try clear c26b0
                                  try clear c28
                                  try clear c30
                                  try clear c30b0
                                  try clear hx166_0
                                  try clear p1
                                  try clear p16
                                  try clear p166
                                  try clear p2
                                  try clear p6
                                  try clear q1
                                  try clear q16
                                  try clear q166
                                  obtain ⟨x9_4, x11_4, rfl, rfl, HA, HK4, HO_7, HB⟩ := hrel
                                  cases gk with
                                  | zero => exact absurd HA.out (by simp [ravelinlaw7_SieveHas.l2])
                                  | succ k4 =>
                                    have H := HA.out
                                    clear HA
                                    simp only [ravelinlaw7_SieveHas.l2] at H
                                    by_cases c31 : x11_4 < 8
                                    · rw [if_pos c31] at H
                                      have c31b0 : decide (x11_4 < 8) = true := decide_eq_true c31
                                      clear c31
                                      by_cases c32 : 0 ≤ x10_3
                                      · rw [if_pos c32] at H
                                        have c32b0 : decide (0 ≤ x10_3) = true := decide_eq_true c32
                                        clear c32
                                        by_cases c33 : x10_3 < (t157.size : Int)
                                        · rw [if_pos c33] at H
                                          have c33b0 : decide (x10_3 < (t157.size : Int)) = true := decide_eq_true c33
                                          clear c33
                                          obtain ⟨ji35, hji35⟩ : ∃ j_ : Int, (IntKind.u64.wrap (x11_4)) = j_ := ⟨_, rfl⟩
                                          replace H : (if 0 ≤ (ji35) then (ravelinlaw7_SieveHas.l2 k4 l0 t157 y163 (wrap64 (x9_4 + (wrap64 (Go.bits .and .u8 (shr .u8 (bt t157 x10_3) (ji35)) 1)))) x10_3 (wrap64 (x11_4 + 1))) else (none)) = some r := by first | (rw [hji35] at H; exact H) | (simp only [hji35] at H ⊢; exact H)
                                          by_cases c36 : 0 ≤ (ji35)
                                          · rw [if_pos c36] at H
                                            have c36b0 := eq_true c36
                                            have c36b1 : decide (0 ≤ (ji35)) = true := decide_eq_true c36
                                            clear c36
                                            obtain ⟨ji37, hji37⟩ : ∃ j_ : Int, (shr .u8 (bt t157 x10_3) (ji35)) = j_ := ⟨_, rfl⟩
                                            replace H : (ravelinlaw7_SieveHas.l2 k4 l0 t157 y163 (wrap64 (x9_4 + (wrap64 (Go.bits .and .u8 (ji37) 1)))) x10_3 (wrap64 (x11_4 + 1))) = some r := by first | (rw [hji37] at H; exact H) | (simp only [hji37] at H ⊢; exact H)
                                            have hji37_ : ((bt t157 x10_3) / 2 ^ min (ji35).toNat 8) = ji37 := hji37
                                            have hji37z : (ji35) ≤ 8 → ((bt t157 x10_3) / 2 ^ (ji35).toNat) = ji37 := shr_small hji37
                                            have H' := Aside0.mk H
                                            clear H
                                            have p34 : 0 ≤ (x10_3 : Int) := of_decide_eq_true (by first | (with_reducible assumption) | assumption)
                                            have q34 : x10_3 < (t157.size : Int) := of_decide_eq_true (by first | (with_reducible assumption) | assumption)
                                            have hx34 := bt_at t157 x10_3
                                            replace p34 := eq_true p34
                                            replace q34 := eq_true q34
                                            go_wp2
                                            go_roundg k4
                                            case measure => have := HJ4.out; have := HK2.out; have := HK3.out; have := HK4.out; omega
                                            case rel => exact ⟨(wrap64 (x9_4 + (wrap64 (Go.bits .and .u8 (ji37) 1)))), (wrap64 (x11_4 + 1)), (by first | rfl | (simp; done) | (simp only [← hji37] <;> (first | rfl | simp)) | (simp [*]; done)), (by first | rfl | (simp; done) | (simp [*]; done)), H', ⟨by have := HJ4.out; have := HK2.out; have := HK3.out; have := HK4.out; omega⟩, ⟨by (with_reducible repeat (first | apply Kd.R_alloc | apply Kd.R_drewN | apply Kd.R_drew)); exact HO_7.out⟩, ⟨by repeat (first | (with_reducible first | exact HB.out | apply below_alloc | apply pw_below_drewN | apply below_drew1) | exact HB.out)⟩⟩
                                          · rw [if_neg c36] at H
                                            exact absurd H (by simp)
                                        · rw [if_neg c33] at H
                                          exact absurd H (by simp)
                                      · rw [if_neg c32] at H
                                        exact absurd H (by simp)
                                    · rw [if_neg c31] at H
                                      have c31b0 : decide (x11_4 < 8) = false := decide_eq_false c31
                                      clear c31
                                      have H' := Aside0.mk H
                                      clear H
                                      go_wp2
                                      go_roundg k4
                                      case measure => have := HJ4.out; have := HK2.out; have := HK3.out; have := HK4.out; omega
                                      case rel => exact ⟨(x9_4), (wrap64 (x10_3 + 1)), (by first | rfl | (simp; done) | (simp [*]; done)), (by first | rfl | (simp; done) | (simp [*]; done)), H', ⟨by have := HJ4.out; have := HK2.out; have := HK3.out; have := HK4.out; omega⟩, ⟨by (with_reducible repeat (first | apply Kd.R_alloc | apply Kd.R_drewN | apply Kd.R_drew)); exact HO_7.out⟩, ⟨by repeat (first | (with_reducible first | exact HB.out | apply below_alloc | apply pw_below_drewN | apply below_drew1) | exact HB.out)⟩⟩
                              · rw [if_neg c30] at H
                                have c30b0 : decide (x10_3 < (t157.size : Int)) = false := decide_eq_false c30
                                clear c30
                                replace H := Option.bind_eq_some_iff.mp H
                                obtain ⟨t168, A380, H⟩ := H
                                replace H : (if t168.toList = t157.toList then (if (t157.size : Int) = (mx 8 (l0.length : Int)) then (if x9_3 ≤ (wrap64 (4 * (l0.length : Int))) then (some (decide (x9_3 > 0))) else (some false)) else (some false)) else (some false)) = some r := H
                                have A38 := Aside0.mk A380
                                clear A380
                                by_cases c39 : t168.toList = t157.toList
                                · rw [if_pos c39] at H
                                  have c39b0 : (t168.toList == t157.toList) = true := beq_iff_eq.mpr c39
                                  have c39b1 : (t168.toList != t157.toList) = false := bne_eq_false_iff_eq.mpr c39
                                  clear c39
                                  obtain ⟨ji40, hji40⟩ : ∃ j_ : Int, (mx 8 (l0.length : Int)) = j_ := ⟨_, rfl⟩
                                  replace H : (if (t157.size : Int) = (ji40) then (if x9_3 ≤ (wrap64 (4 * (l0.length : Int))) then (some (decide (x9_3 > 0))) else (some false)) else (some false)) = some r := by first | (rw [hji40] at H; exact H) | (simp only [hji40] at H ⊢; exact H)
                                  (try rw [hji40] at A38)
                                  (try (have hji40l : 8 ≤ ji40 := by (rw [← hji40]; unfold mx; (repeat' split) <;> omega)))
                                  (try (have hji40m : 0 ≤ ji40 := by omega))
                                  have hji40_ : (if 8 < (l0.length : Int) then (l0.length : Int) else 8) = ji40 := hji40
                                  (try (have hji40_n := hji40_; simp only [Int.ofNat_lt] at hji40_n))
                                  by_cases c41 : (t157.size : Int) = (ji40)
                                  · rw [if_pos c41] at H
                                    have c41b0 : ((t157.size : Int) == (ji40)) = true := beq_iff_eq.mpr c41
                                    have c41b1 : ((t157.size : Int) != (ji40)) = false := bne_eq_false_iff_eq.mpr c41
                                    clear c41
                                    by_cases c42 : x9_3 ≤ (wrap64 (4 * (l0.length : Int)))
                                    · rw [if_pos c42] at H
                                      have c42b0 : decide (x9_3 ≤ (wrap64 (4 * (l0.length : Int)))) = true := decide_eq_true c42
                                      clear c42
                                      obtain rfl := Option.some.inj H
                                      obtain ⟨Ao43, co43, eo43⟩ := Kd.R_slice HO_7.out
                                      subst eo43
                                      go_wp2_with (first | ((with_reducible refine gate_callee (f := 11) rfl ?_); refine goesL_ (some 71) rfl rfl Try.func11 (by kernel_rfl) rfl #[.slice Ao43 y163.length co43] rfl (by (try simp only [List.map_toArray, List.map_cons, List.map_nil]); first | done | rfl | (simp only [List.length_drop, List.length_take]; rfl)) ?_; (with_reducible refine (sieve_Make.calls k3 _ _ y163 t168 _ ?side1 ?side2 A38.out).mono ?_); (case side1 => repeat (first | exact (Kd.R_reads' HO_7.out).2.2 | (with_reducible refine Kd.C_alloc ?_ _) | (with_reducible refine Kd.C_drewN ?_ _) | (with_reducible refine Kd.C_drew ?_))); (case side2 => exact (Kd.R_reads' HO_7.out).2.1); rintro e w44 ⟨rfl, hb⟩; refine ⟨_, rfl, ?_⟩; have n0_ := Aside0.mk (Kd.R_below (by (with_reducible repeat (first | apply Kd.R_alloc | apply Kd.R_drewN | apply Kd.R_drew)); exact HO_7.out) hb); have n1_ := Aside0.mk (below_step (by repeat (first | (with_reducible first | exact HB.out | apply below_alloc | apply pw_below_drewN | apply below_drew1) | exact HB.out)) hb); clear HO_7; clear HB; have HO_7 := n0_; have HB := n1_; clear n0_ n1_; (try clear hb); (try clear hb2); (try clear hk); (try clear hi)))
                                      go_ret
                                      exact ⟨by first | rfl | (simp [errW_none, errW_some] <;> rfl) | (simp only [← hji12, ← hji40]; first | rfl | (simp [errW_none, errW_some] <;> rfl)) | (simp [*, errW_none, errW_some] <;> rfl), by repeat (first | (with_reducible first | exact HB.out | apply below_alloc | apply pw_below_drewN | apply below_drew1) | exact HB.out)⟩
                                    · rw [if_neg c42] at H
                                      have c42b0 : decide (x9_3 ≤ (wrap64 (4 * (l0.length : Int)))) = false := decide_eq_false c42
                                      clear c42
                                      exact absurd ((Option.some.inj H).trans HR_.out) (by decide)
                                  · rw [if_neg c41] at H
                                    have c41b0 : ((t157.size : Int) == (ji40)) = false := beq_eq_false_iff_ne.mpr c41
                                    have c41b1 : ((t157.size : Int) != (ji40)) = true := bne_iff_ne.mpr c41
                                    exact absurd ((Option.some.inj H).trans HR_.out) (by decide)
                                · rw [if_neg c39] at H
                                  have c39b0 : (t168.toList == t157.toList) = false := beq_eq_false_iff_ne.mpr c39
                                  have c39b1 : (t168.toList != t157.toList) = true := bne_iff_ne.mpr c39
                                  exact absurd ((Option.some.inj H).trans HR_.out) (by decide)
                  · rw [if_neg c18] at H
                    exact absurd H (by simp)
                · rw [if_neg c15] at H
                  exact absurd H (by simp)
              · rw [if_neg c14] at H
                exact absurd H (by simp)
            · rw [if_neg c13] at H
              exact absurd H (by simp)
  · replace c4 := Bool.eq_false_iff.mpr c4
    subst c4
    have H1 : (some false) = some r := by rw [if_neg (show ¬ (false = true) by decide)] at H; exact H
    clear H
    have H := H1
    clear H1
    exact absurd ((Option.some.inj H).trans HR_.out) (by decide)
def ravelinlaw7_SieveHas.Pure : Prop := ∀ (l0 : List ByteArray) (a1 : Int), l0.length ≤ 9223372036854775807 → (∀ y_ ∈ l0, y_.size ≤ 9223372036854775807) → (Lit.int .u8 a1).wf = true → ∃ k, ravelinlaw7_SieveHas.f k l0 a1 = some true

end Go.Proofs.Ytcnlhpakiadipaa.P
