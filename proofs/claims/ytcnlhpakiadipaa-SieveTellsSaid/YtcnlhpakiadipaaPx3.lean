-- Printed by a changed copy of the kit's printer (wip/tools/ext.py); labels and more
import Derived.Test.YtcnlhpakiadipaaM0
import Derived.Test.YtcnlhpakiadipaaM1
import Derived.Test.YtcnlhpakiadipaaM2
namespace Go.Proofs.Ytcnlhpakiadipaa.P
open Go.RowKit Go.Proofs.YtcnlhpakiadipaaW.PrintWords Go.Proofs.YtcnlhpakiadipaaW.PrintLast Go.Proofs.YtcnlhpakiadipaaW.PrintMore
attribute [local go_sem] max2_int min2_int max_two min_two max_three min_three max_four min_four   -- for this text's walks alone
set_option linter.unusedVariables false
set_option linter.unusedSimpArgs false

/-! ### ravelinlaw7_SieveTells: function 3 -/
def ravelinlaw7_SieveTells.j0 : Nat → List ByteArray → ByteArray → ByteArray → Bool → Option (Bool)
  | 0, _, _, _, _ => none
  | k + 1, x0, x1, x2, x26 => if x26 = true then (some true) else ((sieve_Hash.f k x2).bind fun bt145 => ((ravelinref6_Hash.f k x2).bind fun bt147 => ((sieve_Make.f k x0).bind fun t149 => (if bt145.1 = bt147.1 then (if bt145.2 = bt147.2 then ((ravelinref6_Sieve.f k x0).bind fun t150 => (if t149.toList = t150.toList then ((sieve_May.f k x1 x2).bind fun t151 => ((ravelinref6_May.f k x1 x2).bind fun t152 => (if (t151 == t152) = true then ((sieve_May.f k t149 x2).bind fun t153 => ((ravelinref6_May.f k t149 x2).bind fun t154 => (some (t153 == t154)))) else (some false)))) else (some false))) else (some false)) else (some false)))))
def ravelinlaw7_SieveTells.f (k : Nat) (l0 : List ByteArray) (a1 : ByteArray) (a2 : ByteArray) : Option (Bool) := (ravelinlaw7_known.f k).bind fun t143 => (if t143 = true then ((ravelinlaw7_few.f k l0).bind fun t144 => (if t144 = true then (if (a1.size : Int) > 200 then (ravelinlaw7_SieveTells.j0 k l0 a1 a2 true) else (ravelinlaw7_SieveTells.j0 k l0 a1 a2 (decide ((a2.size : Int) > 40)))) else (ravelinlaw7_SieveTells.j0 k l0 a1 a2 true))) else (some false))
theorem ravelinlaw7_SieveTells.mono_l : ∀ k, (∀ y0 y1 y2 y3, LeO (ravelinlaw7_SieveTells.j0 k y0 y1 y2 y3) (ravelinlaw7_SieveTells.j0 (k + 1) y0 y1 y2 y3))
  | 0 => fun _ _ _ _ r h => by simp [ravelinlaw7_SieveTells.j0] at h
  | k + 1 => by
    have ih0 := ravelinlaw7_SieveTells.mono_l k
    · intro y0 y1 y2 y3
      unfold ravelinlaw7_SieveTells.j0
      repeat' first
      | (with_reducible exact ih0 _ _ _ _)
      | (with_reducible exact ravelinlaw7_few.mono _ _)
      | (with_reducible exact ravelinlaw7_known.mono _)
      | (with_reducible exact ravelinref6_Hash.mono _ _)
      | (with_reducible exact ravelinref6_May.mono _ _ _)
      | (with_reducible exact ravelinref6_Sieve.mono _ _)
      | (with_reducible exact sieve_Hash.mono _ _)
      | (with_reducible exact sieve_Make.mono _ _)
      | (with_reducible exact sieve_May.mono _ _ _)
      | (with_reducible exact LeO.refl _)
      | (with_reducible exact LeO.none _)
      | (with_reducible refine LeO.ite ?_ ?_)
      | (with_reducible refine LeO.bind ?_ (fun _ => ?_))
      | exact ih0 _ _ _ _
      | exact ravelinlaw7_few.mono _ _
      | exact ravelinlaw7_known.mono _
      | exact ravelinref6_Hash.mono _ _
      | exact ravelinref6_May.mono _ _ _
      | exact ravelinref6_Sieve.mono _ _
      | exact sieve_Hash.mono _ _
      | exact sieve_Make.mono _ _
      | exact sieve_May.mono _ _ _
      | exact LeO.none _
      | refine LeO.ite ?_ ?_
      | refine LeO.bind ?_ (fun _ => ?_)
theorem ravelinlaw7_SieveTells.mono : ∀ a0 a1 a2 k, LeO (ravelinlaw7_SieveTells.f k a0 a1 a2) (ravelinlaw7_SieveTells.f (k + 1) a0 a1 a2) := by
  intro a0 a1 a2 k
  have ih0 := ravelinlaw7_SieveTells.mono_l k
  unfold ravelinlaw7_SieveTells.f
  repeat' first
      | (with_reducible exact ih0 _ _ _ _)
      | (with_reducible exact ravelinlaw7_few.mono _ _)
      | (with_reducible exact ravelinlaw7_known.mono _)
      | (with_reducible exact ravelinref6_Hash.mono _ _)
      | (with_reducible exact ravelinref6_May.mono _ _ _)
      | (with_reducible exact ravelinref6_Sieve.mono _ _)
      | (with_reducible exact sieve_Hash.mono _ _)
      | (with_reducible exact sieve_Make.mono _ _)
      | (with_reducible exact sieve_May.mono _ _ _)
      | (with_reducible exact LeO.refl _)
      | (with_reducible exact LeO.none _)
      | (with_reducible refine LeO.ite ?_ ?_)
      | (with_reducible refine LeO.bind ?_ (fun _ => ?_))
      | exact ih0 _ _ _ _
      | exact ravelinlaw7_few.mono _ _
      | exact ravelinlaw7_known.mono _
      | exact ravelinref6_Hash.mono _ _
      | exact ravelinref6_May.mono _ _ _
      | exact ravelinref6_Sieve.mono _ _
      | exact sieve_Hash.mono _ _
      | exact sieve_Make.mono _ _
      | exact sieve_May.mono _ _ _
      | exact LeO.none _
      | refine LeO.ite ?_ ?_
      | refine LeO.bind ?_ (fun _ => ?_)
set_option maxHeartbeats 8000000 in
set_option maxRecDepth 100000 in
theorem ravelinlaw7_SieveTells.calls (k : Nat) (A0 : Option Addr) (c0 : Nat) (l0 : List ByteArray) (a1 : ByteArray) (a2 : ByteArray) (r : Bool) (w : World) (hr0 : Kd.C Kd.string w A0 l0.length l0) (hc0 : l0.length ≤ c0) (h : ravelinlaw7_SieveTells.f k l0 a1 a2 = some r) (hr_ : r = true) :
    Calls Try.prog 3 #[.slice A0 l0.length c0, .string a1, .string a2] w fun e w' => e = .returned (.bool r) ∧ Below w.heap.size w w' := by
  have HR0 := Aside0.mk hr0
  have HC0 := Aside0.mk hc0
  clear hr0 hc0
  have HB := Aside0.mk (Below.refl w.heap.size w)
  have H : ((ravelinlaw7_known.f k).bind fun t143 => (if t143 = true then ((ravelinlaw7_few.f k l0).bind fun t144 => (if t144 = true then (if (a1.size : Int) > 200 then (ravelinlaw7_SieveTells.j0 k l0 a1 a2 true) else (ravelinlaw7_SieveTells.j0 k l0 a1 a2 (decide ((a2.size : Int) > 40)))) else (ravelinlaw7_SieveTells.j0 k l0 a1 a2 true))) else (some false))) = some r := h
  clear h
  have HR_ := Aside0.mk hr_
  clear hr_
  replace H := Option.bind_eq_some_iff.mp H
  obtain ⟨t143, A40, H⟩ := H
  replace H : (if t143 = true then ((ravelinlaw7_few.f k l0).bind fun t144 => (if t144 = true then (if (a1.size : Int) > 200 then (ravelinlaw7_SieveTells.j0 k l0 a1 a2 true) else (ravelinlaw7_SieveTells.j0 k l0 a1 a2 (decide ((a2.size : Int) > 40)))) else (ravelinlaw7_SieveTells.j0 k l0 a1 a2 true))) else (some false)) = some r := H
  have A4 := Aside0.mk A40
  clear A40
  by_cases c5 : t143 = true
  · subst c5
    have H1 : ((ravelinlaw7_few.f k l0).bind fun t144 => (if t144 = true then (if (a1.size : Int) > 200 then (ravelinlaw7_SieveTells.j0 k l0 a1 a2 true) else (ravelinlaw7_SieveTells.j0 k l0 a1 a2 (decide ((a2.size : Int) > 40)))) else (ravelinlaw7_SieveTells.j0 k l0 a1 a2 true))) = some r := by rw [if_pos rfl] at H; exact H
    clear H
    have H := H1
    clear H1
    have HC6 := Aside0.mk H
    clear H
    go_enter Try.func3, Try.ntmps3
    go_upto_region 3 with (first | ((with_reducible refine gate_callee (f := 7) rfl ?_); refine goesL_ (some 12) rfl rfl Try.func7 (by kernel_rfl) rfl #[] rfl (by (try simp only [List.map_toArray, List.map_cons, List.map_nil]); first | done | rfl | (simp only [List.length_drop, List.length_take]; rfl)) ?_; (with_reducible refine (ravelinlaw7_known.calls k  true _ A4.out (by first | rfl | assumption | exact of_decide_eq_true (by assumption))).mono ?_); rintro e w7 ⟨rfl, hb⟩; refine ⟨_, rfl, ?_⟩; have n0_ := Aside0.mk (below_step (by repeat (first | (with_reducible first | exact HB.out | apply below_alloc | apply pw_below_drewN | apply below_drew1) | exact HB.out)) hb); clear HB; have HB := n0_; clear n0_; (try clear hb); (try clear hb2); (try clear hk); (try clear hi)))
    (try simp only [Act.put, List.setIfInBounds_toArray, List.set_cons_zero, List.set_cons_succ])
    go_cut [26] (fun v26 wc => ∃ (kq : Nat) (x26_5 : Bool), v26 = .bool x26_5 ∧ Aside0 (ravelinlaw7_SieveTells.j0 kq l0 a1 a2 x26_5 = some r) ∧ Aside0 (kq ≤ k) ∧ Aside0 (Below w.heap.size w wc))
    case first =>
      have H := HC6.out
      clear HC6
      replace H := Option.bind_eq_some_iff.mp H
      obtain ⟨t144, A80, H⟩ := H
      replace H : (if t144 = true then (if (a1.size : Int) > 200 then (ravelinlaw7_SieveTells.j0 k l0 a1 a2 true) else (ravelinlaw7_SieveTells.j0 k l0 a1 a2 (decide ((a2.size : Int) > 40)))) else (ravelinlaw7_SieveTells.j0 k l0 a1 a2 true)) = some r := H
      have A8 := Aside0.mk A80
      clear A80
      by_cases c9 : t144 = true
      · subst c9
        have H1 : (if (a1.size : Int) > 200 then (ravelinlaw7_SieveTells.j0 k l0 a1 a2 true) else (ravelinlaw7_SieveTells.j0 k l0 a1 a2 (decide ((a2.size : Int) > 40)))) = some r := by rw [if_pos rfl] at H; exact H
        clear H
        have H := H1
        clear H1
        by_cases c10 : (a1.size : Int) > 200
        · rw [if_pos c10] at H
          have c10b0 : decide (200 < (a1.size : Int)) = true := decide_eq_true c10
          have c10b1 : decide (200 < a1.size) = true := decide_eq_true (by omega)
          clear c10
          (first | rw [c10b0] | (simp only [i64_w, i32_w]; rw [c10b0]) | skip)
          have H' := Aside0.mk H
          clear H
          go_wp2_with (first | ((with_reducible refine gate_callee (f := 8) rfl ?_); refine goesL_ (some 15) rfl rfl Try.func8 (by kernel_rfl) rfl #[.slice A0 l0.length c0] rfl (by (try simp only [List.map_toArray, List.map_cons, List.map_nil]); first | done | rfl | (simp only [List.length_drop, List.length_take]; rfl)) ?_; (with_reducible refine (ravelinlaw7_few.calls k _ _ l0 true _ ?side1 ?side2 A8.out).mono ?_); (case side1 => repeat (first | exact (Kd.C_below HR0.out HB.out) | (with_reducible refine Kd.C_alloc ?_ _) | (with_reducible refine Kd.C_drewN ?_ _) | (with_reducible refine Kd.C_drew ?_))); (case side2 => exact HC0.out); rintro e w' ⟨rfl, ⟨nd, rfl⟩⟩; refine ⟨_, rfl, ?_⟩))
          go_meet
          case rel => exact ⟨_, (true), (by first | rfl | (simp; done) | (simp [*]; done)), H', ⟨by first | omega | exact Nat.le_refl _⟩, ⟨by repeat (first | (with_reducible first | exact HB.out | apply below_alloc | apply pw_below_drewN | apply below_drew1) | exact HB.out)⟩⟩
        · rw [if_neg c10] at H
          have c10b0 : decide (200 < (a1.size : Int)) = false := decide_eq_false c10
          have c10b1 : decide (200 < a1.size) = false := decide_eq_false (by omega)
          clear c10
          (first | rw [c10b0] | (simp only [i64_w, i32_w]; rw [c10b0]) | skip)
          have H' := Aside0.mk H
          clear H
          go_wp2_with (first | ((with_reducible refine gate_callee (f := 8) rfl ?_); refine goesL_ (some 15) rfl rfl Try.func8 (by kernel_rfl) rfl #[.slice A0 l0.length c0] rfl (by (try simp only [List.map_toArray, List.map_cons, List.map_nil]); first | done | rfl | (simp only [List.length_drop, List.length_take]; rfl)) ?_; (with_reducible refine (ravelinlaw7_few.calls k _ _ l0 true _ ?side1 ?side2 A8.out).mono ?_); (case side1 => repeat (first | exact (Kd.C_below HR0.out HB.out) | (with_reducible refine Kd.C_alloc ?_ _) | (with_reducible refine Kd.C_drewN ?_ _) | (with_reducible refine Kd.C_drew ?_))); (case side2 => exact HC0.out); rintro e w' ⟨rfl, ⟨nd, rfl⟩⟩; refine ⟨_, rfl, ?_⟩))
          go_meet
          case rel => exact ⟨_, (decide ((a2.size : Int) > 40)), (by first | rfl | (simp; done) | (simp [*]; done)), H', ⟨by first | omega | exact Nat.le_refl _⟩, ⟨by repeat (first | (with_reducible first | exact HB.out | apply below_alloc | apply pw_below_drewN | apply below_drew1) | exact HB.out)⟩⟩
      · replace c9 := Bool.eq_false_iff.mpr c9
        subst c9
        have H1 : (ravelinlaw7_SieveTells.j0 k l0 a1 a2 true) = some r := by rw [if_neg (show ¬ (false = true) by decide)] at H; exact H
        clear H
        have H := H1
        clear H1
        have H' := Aside0.mk H
        clear H
        go_wp2_with (first | ((with_reducible refine gate_callee (f := 8) rfl ?_); refine goesL_ (some 15) rfl rfl Try.func8 (by kernel_rfl) rfl #[.slice A0 l0.length c0] rfl (by (try simp only [List.map_toArray, List.map_cons, List.map_nil]); first | done | rfl | (simp only [List.length_drop, List.length_take]; rfl)) ?_; (with_reducible refine (ravelinlaw7_few.calls k _ _ l0 false _ ?side1 ?side2 A8.out).mono ?_); (case side1 => repeat (first | exact (Kd.C_below HR0.out HB.out) | (with_reducible refine Kd.C_alloc ?_ _) | (with_reducible refine Kd.C_drewN ?_ _) | (with_reducible refine Kd.C_drew ?_))); (case side2 => exact HC0.out); rintro e w' ⟨rfl, ⟨nd, rfl⟩⟩; refine ⟨_, rfl, ?_⟩))
        go_meet
        case rel => exact ⟨_, (true), (by first | rfl | (simp; done) | (simp [*]; done)), H', ⟨by first | omega | exact Nat.le_refl _⟩, ⟨by repeat (first | (with_reducible first | exact HB.out | apply below_alloc | apply pw_below_drewN | apply below_drew1) | exact HB.out)⟩⟩
    case rest =>
      clear HC6
      try clear c1
      try clear p2
      try clear c3
      try clear c5
      try clear c7
      try clear c8
      try clear c9
      try clear c10
      try clear c10b0
      try clear c10b1
      obtain ⟨kq, x26_5, rfl, HA, HJ5, HB⟩ := hcut
      cases kq with
      | zero => exact absurd HA.out (by simp [ravelinlaw7_SieveTells.j0])
      | succ kj5 =>
        have H := HA.out
        clear HA
        simp only [ravelinlaw7_SieveTells.j0] at H
        by_cases c11 : x26_5 = true
        · subst c11
          have H1 : (some true) = some r := by rw [if_pos rfl] at H; exact H
          clear H
          have H := H1
          clear H1
          obtain rfl := Option.some.inj H
          go_wp2
          go_ret
          exact ⟨by first | rfl | (simp [errW_none, errW_some] <;> rfl) | (simp [*, errW_none, errW_some] <;> rfl), by repeat (first | (with_reducible first | exact HB.out | apply below_alloc | apply pw_below_drewN | apply below_drew1) | exact HB.out)⟩
        · replace c11 := Bool.eq_false_iff.mpr c11
          subst c11
          have H1 : ((sieve_Hash.f kj5 a2).bind fun bt145 => ((ravelinref6_Hash.f kj5 a2).bind fun bt147 => ((sieve_Make.f kj5 l0).bind fun t149 => (if bt145.1 = bt147.1 then (if bt145.2 = bt147.2 then ((ravelinref6_Sieve.f kj5 l0).bind fun t150 => (if t149.toList = t150.toList then ((sieve_May.f kj5 a1 a2).bind fun t151 => ((ravelinref6_May.f kj5 a1 a2).bind fun t152 => (if (t151 == t152) = true then ((sieve_May.f kj5 t149 a2).bind fun t153 => ((ravelinref6_May.f kj5 t149 a2).bind fun t154 => (some (t153 == t154)))) else (some false)))) else (some false))) else (some false)) else (some false))))) = some r := by rw [if_neg (show ¬ (false = true) by decide)] at H; exact H
          clear H
          have H := H1
          clear H1
          replace H := Option.bind_eq_some_iff.mp H
          obtain ⟨⟨t145, t146⟩, A120, H⟩ := H
          replace H : ((ravelinref6_Hash.f kj5 a2).bind fun bt147 => ((sieve_Make.f kj5 l0).bind fun t149 => (if t145 = bt147.1 then (if t146 = bt147.2 then ((ravelinref6_Sieve.f kj5 l0).bind fun t150 => (if t149.toList = t150.toList then ((sieve_May.f kj5 a1 a2).bind fun t151 => ((ravelinref6_May.f kj5 a1 a2).bind fun t152 => (if (t151 == t152) = true then ((sieve_May.f kj5 t149 a2).bind fun t153 => ((ravelinref6_May.f kj5 t149 a2).bind fun t154 => (some (t153 == t154)))) else (some false)))) else (some false))) else (some false)) else (some false)))) = some r := H
          have A12 := Aside0.mk A120
          clear A120
          replace H := Option.bind_eq_some_iff.mp H
          obtain ⟨⟨t147, t148⟩, A130, H⟩ := H
          replace H : ((sieve_Make.f kj5 l0).bind fun t149 => (if t145 = t147 then (if t146 = t148 then ((ravelinref6_Sieve.f kj5 l0).bind fun t150 => (if t149.toList = t150.toList then ((sieve_May.f kj5 a1 a2).bind fun t151 => ((ravelinref6_May.f kj5 a1 a2).bind fun t152 => (if (t151 == t152) = true then ((sieve_May.f kj5 t149 a2).bind fun t153 => ((ravelinref6_May.f kj5 t149 a2).bind fun t154 => (some (t153 == t154)))) else (some false)))) else (some false))) else (some false)) else (some false))) = some r := H
          have A13 := Aside0.mk A130
          clear A130
          replace H := Option.bind_eq_some_iff.mp H
          obtain ⟨t149, A140, H⟩ := H
          replace H : (if t145 = t147 then (if t146 = t148 then ((ravelinref6_Sieve.f kj5 l0).bind fun t150 => (if t149.toList = t150.toList then ((sieve_May.f kj5 a1 a2).bind fun t151 => ((ravelinref6_May.f kj5 a1 a2).bind fun t152 => (if (t151 == t152) = true then ((sieve_May.f kj5 t149 a2).bind fun t153 => ((ravelinref6_May.f kj5 t149 a2).bind fun t154 => (some (t153 == t154)))) else (some false)))) else (some false))) else (some false)) else (some false)) = some r := H
          have A14 := Aside0.mk A140
          clear A140
          by_cases c15 : t145 = t147
          · rw [if_pos c15] at H
            have c15b0 : (t145 == t147) = true := beq_iff_eq.mpr c15
            have c15b1 : (t145 != t147) = false := bne_eq_false_iff_eq.mpr c15
            clear c15
            by_cases c16 : t146 = t148
            · rw [if_pos c16] at H
              have c16b0 : (t146 == t148) = true := beq_iff_eq.mpr c16
              have c16b1 : (t146 != t148) = false := bne_eq_false_iff_eq.mpr c16
              clear c16
              replace H := Option.bind_eq_some_iff.mp H
              obtain ⟨t150, A170, H⟩ := H
              replace H : (if t149.toList = t150.toList then ((sieve_May.f kj5 a1 a2).bind fun t151 => ((ravelinref6_May.f kj5 a1 a2).bind fun t152 => (if (t151 == t152) = true then ((sieve_May.f kj5 t149 a2).bind fun t153 => ((ravelinref6_May.f kj5 t149 a2).bind fun t154 => (some (t153 == t154)))) else (some false)))) else (some false)) = some r := H
              have A17 := Aside0.mk A170
              clear A170
              by_cases c18 : t149.toList = t150.toList
              · rw [if_pos c18] at H
                have c18b0 : (t149.toList == t150.toList) = true := beq_iff_eq.mpr c18
                have c18b1 : (t149.toList != t150.toList) = false := bne_eq_false_iff_eq.mpr c18
                clear c18
                replace H := Option.bind_eq_some_iff.mp H
                obtain ⟨t151, A190, H⟩ := H
                replace H : ((ravelinref6_May.f kj5 a1 a2).bind fun t152 => (if (t151 == t152) = true then ((sieve_May.f kj5 t149 a2).bind fun t153 => ((ravelinref6_May.f kj5 t149 a2).bind fun t154 => (some (t153 == t154)))) else (some false))) = some r := H
                have A19 := Aside0.mk A190
                clear A190
                replace H := Option.bind_eq_some_iff.mp H
                obtain ⟨t152, A200, H⟩ := H
                replace H : (if (t151 == t152) = true then ((sieve_May.f kj5 t149 a2).bind fun t153 => ((ravelinref6_May.f kj5 t149 a2).bind fun t154 => (some (t153 == t154)))) else (some false)) = some r := H
                have A20 := Aside0.mk A200
                clear A200
                by_cases c21 : (t151 == t152) = true
                · rw [if_pos c21] at H
                  have c21b0 : (t151 == t152) = true := c21
                  (try (have c21b1 : decide (t151 = t152) = true := by simpa using c21))
                  (try (have c21b2 : (t151 == t152) = true := by simpa using c21))
                  (try (have c21b3 : (t152) = t151 := by have h_ := c21; revert h_; generalize t151 = u_; generalize t152 = v_; cases u_ <;> cases v_ <;> simp))
                  clear c21
                  replace H := Option.bind_eq_some_iff.mp H
                  obtain ⟨t153, A220, H⟩ := H
                  replace H : ((ravelinref6_May.f kj5 t149 a2).bind fun t154 => (some (t153 == t154))) = some r := H
                  have A22 := Aside0.mk A220
                  clear A220
                  replace H := Option.bind_eq_some_iff.mp H
                  obtain ⟨t154, A230, H⟩ := H
                  replace H : (some (t153 == t154)) = some r := H
                  have A23 := Aside0.mk A230
                  clear A230
                  obtain rfl := Option.some.inj H
                  go_wp2_with (first | ((with_reducible refine gate_callee (f := 9) rfl ?_); refine goesL_ (some 29) rfl rfl Try.func9 (by kernel_rfl) rfl #[.string a2] rfl (by (try simp only [List.map_toArray, List.map_cons, List.map_nil]); first | done | rfl | (simp only [List.length_drop, List.length_take]; rfl)) ?_; (with_reducible refine (sieve_Hash.calls kj5 a2 t145 t146 _ A12.out).mono ?_); rintro e w' ⟨rfl, ⟨nd, rfl⟩⟩; refine ⟨_, rfl, ?_⟩) | ((with_reducible refine gate_callee (f := 10) rfl ?_); refine goesL_ (some 34) rfl rfl Try.func10 (by kernel_rfl) rfl #[.string a2] rfl (by (try simp only [List.map_toArray, List.map_cons, List.map_nil]); first | done | rfl | (simp only [List.length_drop, List.length_take]; rfl)) ?_; (with_reducible refine (ravelinref6_Hash.calls kj5 a2 t147 t148 _ A13.out).mono ?_); rintro e w' ⟨rfl, ⟨nd, rfl⟩⟩; refine ⟨_, rfl, ?_⟩) | ((with_reducible refine gate_callee (f := 11) rfl ?_); refine goesL_ (some 38) rfl rfl Try.func11 (by kernel_rfl) rfl #[.slice A0 l0.length c0] rfl (by (try simp only [List.map_toArray, List.map_cons, List.map_nil]); first | done | rfl | (simp only [List.length_drop, List.length_take]; rfl)) ?_; (with_reducible refine (sieve_Make.calls kj5 _ _ l0 t149 _ ?side1 ?side2 A14.out).mono ?_); (case side1 => repeat (first | exact (Kd.C_below HR0.out (by repeat (first | (with_reducible first | exact HB.out | apply below_alloc | apply pw_below_drewN | apply below_drew1) | exact HB.out))) | (with_reducible refine Kd.C_alloc ?_ _) | (with_reducible refine Kd.C_drewN ?_ _) | (with_reducible refine Kd.C_drew ?_))); (case side2 => exact HC0.out); rintro e w24 ⟨rfl, hb⟩; refine ⟨_, rfl, ?_⟩; have n0_ := Aside0.mk (below_step (by repeat (first | (with_reducible first | exact HB.out | apply below_alloc | apply pw_below_drewN | apply below_drew1) | exact HB.out)) hb); clear HB; have HB := n0_; clear n0_; (try clear hb); (try clear hb2); (try clear hk); (try clear hi)) | (go_at_call 12; (with_reducible refine (ravelinref6_Sieve.calls kj5 _ _ l0 t150 _ ?side1 ?side2 A17.out).mono ?_); (case side1 => repeat (first | exact (Kd.C_below HR0.out HB.out) | (with_reducible refine Kd.C_alloc ?_ _) | (with_reducible refine Kd.C_drewN ?_ _) | (with_reducible refine Kd.C_drew ?_))); (case side2 => exact HC0.out); rintro e w25 ⟨rfl, hb⟩; have n0_ := Aside0.mk (below_step (by repeat (first | (with_reducible first | exact HB.out | apply below_alloc | apply pw_below_drewN | apply below_drew1) | exact HB.out)) hb); clear HB; have HB := n0_; clear n0_; (try clear hb); (try clear hb2); (try clear hk); (try clear hi)) | (go_at_call 13; (with_reducible refine (sieve_May.calls kj5 a1 a2 t151 _ A19.out).mono ?_); rintro e w26 ⟨rfl, hb⟩; have n0_ := Aside0.mk (below_step (by repeat (first | (with_reducible first | exact HB.out | apply below_alloc | apply pw_below_drewN | apply below_drew1) | exact HB.out)) hb); clear HB; have HB := n0_; clear n0_; (try clear hb); (try clear hb2); (try clear hk); (try clear hi)) | (go_at_call 14; (with_reducible refine (ravelinref6_May.calls kj5 a1 a2 t152 _ A20.out).mono ?_); rintro e w' ⟨rfl, ⟨nd, rfl⟩⟩) | (go_at_call 13; (with_reducible refine (sieve_May.calls kj5 t149 a2 t153 _ A22.out).mono ?_); rintro e w27 ⟨rfl, hb⟩; have n0_ := Aside0.mk (below_step (by repeat (first | (with_reducible first | exact HB.out | apply below_alloc | apply pw_below_drewN | apply below_drew1) | exact HB.out)) hb); clear HB; have HB := n0_; clear n0_; (try clear hb); (try clear hb2); (try clear hk); (try clear hi)) | (go_at_call 14; (with_reducible refine (ravelinref6_May.calls kj5 t149 a2 t154 _ A23.out).mono ?_); rintro e w' ⟨rfl, ⟨nd, rfl⟩⟩))
                  go_ret
                  exact ⟨by first | rfl | (simp [errW_none, errW_some] <;> rfl) | (simp [*, errW_none, errW_some] <;> rfl), by repeat (first | (with_reducible first | exact HB.out | apply below_alloc | apply pw_below_drewN | apply below_drew1) | exact HB.out)⟩
                · rw [if_neg c21] at H
                  have c21b0 : (t151 == t152) = false := by simpa using c21
                  (try (have c21b1 : decide (t151 = t152) = false := by simpa using c21))
                  (try (have c21b2 : (t151 == t152) = false := by simpa using c21))
                  (try (have c21b3 : ¬ (t151 = t152) := by simpa using c21))
                  (try (have c21b4 : (t152) = !t151 := by have h_ := c21; revert h_; generalize t151 = u_; generalize t152 = v_; cases u_ <;> cases v_ <;> simp))
                  clear c21
                  exact absurd ((Option.some.inj H).trans HR_.out) (by decide)
              · rw [if_neg c18] at H
                have c18b0 : (t149.toList == t150.toList) = false := beq_eq_false_iff_ne.mpr c18
                have c18b1 : (t149.toList != t150.toList) = true := bne_iff_ne.mpr c18
                exact absurd ((Option.some.inj H).trans HR_.out) (by decide)
            · rw [if_neg c16] at H
              have c16b0 : (t146 == t148) = false := beq_eq_false_iff_ne.mpr c16
              have c16b1 : (t146 != t148) = true := bne_iff_ne.mpr c16
              exact absurd ((Option.some.inj H).trans HR_.out) (by decide)
          · rw [if_neg c15] at H
            have c15b0 : (t145 == t147) = false := beq_eq_false_iff_ne.mpr c15
            have c15b1 : (t145 != t147) = true := bne_iff_ne.mpr c15
            exact absurd ((Option.some.inj H).trans HR_.out) (by decide)
  · replace c5 := Bool.eq_false_iff.mpr c5
    subst c5
    have H1 : (some false) = some r := by rw [if_neg (show ¬ (false = true) by decide)] at H; exact H
    clear H
    have H := H1
    clear H1
    exact absurd ((Option.some.inj H).trans HR_.out) (by decide)
def ravelinlaw7_SieveTells.Pure : Prop := ∀ (l0 : List ByteArray) (a1 : ByteArray) (a2 : ByteArray), l0.length ≤ 9223372036854775807 → (∀ y_ ∈ l0, y_.size ≤ 9223372036854775807) → a1.size ≤ 140737488351232 → a2.size ≤ 140737488351232 → ∃ k, ravelinlaw7_SieveTells.f k l0 a1 a2 = some true

end Go.Proofs.Ytcnlhpakiadipaa.P
