-- Printed by a changed copy of the kit's printer (wip/tools/ext.py); labels and more
import Derived.Test.YtcnlhpakiadipaaM0
import Derived.Test.YtcnlhpakiadipaaM1
namespace Go.Proofs.Ytcnlhpakiadipaa.P
open Go.RowKit Go.Proofs.YtcnlhpakiadipaaW.PrintWords Go.Proofs.YtcnlhpakiadipaaW.PrintLast Go.Proofs.YtcnlhpakiadipaaW.PrintMore
attribute [local go_sem] max2_int min2_int max_two min_two max_three min_three max_four min_four   -- for this text's walks alone
set_option linter.unusedVariables false
set_option linter.unusedSimpArgs false

/-! ### ravelinlaw7_known: function 7 -/
def ravelinlaw7_known.f (k : Nat)  : Option (Bool) := (sieve_Make.f k (([(⟨#[97]⟩ : ByteArray), (⟨#[98]⟩ : ByteArray)] : List ByteArray))).bind fun t124 => ((sieve_Hash.f k (⟨#[]⟩ : ByteArray)).bind fun bt125 => (if (t124.size : Int) = 8 then ((sieve_May.f k t124 (⟨#[97]⟩ : ByteArray)).bind fun t127 => (if t127 = true then ((sieve_May.f k t124 (⟨#[98]⟩ : ByteArray)).bind fun t128 => (if t128 = true then ((sieve_May.f k (⟨#[]⟩ : ByteArray) (⟨#[122]⟩ : ByteArray)).bind fun t129 => (if t129 = true then (if bt125.1 = 5381 then (if bt125.2 = 52711 then ((sieve_Make.f k ([] : List ByteArray)).bind fun t130 => ((sieve_May.f k t130 (⟨#[97]⟩ : ByteArray)).bind fun t131 => (some (!t131)))) else (some false)) else (some false)) else (some false))) else (some false))) else (some false))) else (some false)))
theorem ravelinlaw7_known.mono : ∀ k, LeO (ravelinlaw7_known.f k ) (ravelinlaw7_known.f (k + 1) ) := by
  intro  k
  unfold ravelinlaw7_known.f
  repeat' first
      | (with_reducible exact sieve_Hash.mono _ _)
      | (with_reducible exact sieve_Make.mono _ _)
      | (with_reducible exact sieve_May.mono _ _ _)
      | (with_reducible exact LeO.refl _)
      | (with_reducible exact LeO.none _)
      | (with_reducible refine LeO.ite ?_ ?_)
      | (with_reducible refine LeO.bind ?_ (fun _ => ?_))
      | exact sieve_Hash.mono _ _
      | exact sieve_Make.mono _ _
      | exact sieve_May.mono _ _ _
      | exact LeO.none _
      | refine LeO.ite ?_ ?_
      | refine LeO.bind ?_ (fun _ => ?_)
set_option maxHeartbeats 8000000 in
set_option maxRecDepth 100000 in
theorem ravelinlaw7_known.calls (k : Nat)  (r : Bool) (w : World) (h : ravelinlaw7_known.f k  = some r) (hr_ : r = true) :
    Calls Try.prog 7 #[] w fun e w' => e = .returned (.bool r) ∧ Below w.heap.size w w' := by
  have HB := Aside0.mk (Below.refl w.heap.size w)
  have H : ((sieve_Make.f k (([(⟨#[97]⟩ : ByteArray), (⟨#[98]⟩ : ByteArray)] : List ByteArray))).bind fun t124 => ((sieve_Hash.f k (⟨#[]⟩ : ByteArray)).bind fun bt125 => (if (t124.size : Int) = 8 then ((sieve_May.f k t124 (⟨#[97]⟩ : ByteArray)).bind fun t127 => (if t127 = true then ((sieve_May.f k t124 (⟨#[98]⟩ : ByteArray)).bind fun t128 => (if t128 = true then ((sieve_May.f k (⟨#[]⟩ : ByteArray) (⟨#[122]⟩ : ByteArray)).bind fun t129 => (if t129 = true then (if bt125.1 = 5381 then (if bt125.2 = 52711 then ((sieve_Make.f k ([] : List ByteArray)).bind fun t130 => ((sieve_May.f k t130 (⟨#[97]⟩ : ByteArray)).bind fun t131 => (some (!t131)))) else (some false)) else (some false)) else (some false))) else (some false))) else (some false))) else (some false)))) = some r := h
  clear h
  have HR_ := Aside0.mk hr_
  clear hr_
  obtain ⟨y121, hy121⟩ : ∃ y_ : List ByteArray, y_ = (([(⟨#[97]⟩ : ByteArray), (⟨#[98]⟩ : ByteArray)] : List ByteArray)) := ⟨_, rfl⟩
  replace H : ((sieve_Make.f k y121).bind fun t124 => ((sieve_Hash.f k (⟨#[]⟩ : ByteArray)).bind fun bt125 => (if (t124.size : Int) = 8 then ((sieve_May.f k t124 (⟨#[97]⟩ : ByteArray)).bind fun t127 => (if t127 = true then ((sieve_May.f k t124 (⟨#[98]⟩ : ByteArray)).bind fun t128 => (if t128 = true then ((sieve_May.f k (⟨#[]⟩ : ByteArray) (⟨#[122]⟩ : ByteArray)).bind fun t129 => (if t129 = true then (if bt125.1 = 5381 then (if bt125.2 = 52711 then ((sieve_Make.f k ([] : List ByteArray)).bind fun t130 => ((sieve_May.f k t130 (⟨#[97]⟩ : ByteArray)).bind fun t131 => (some (!t131)))) else (some false)) else (some false)) else (some false))) else (some false))) else (some false))) else (some false)))) = some r := by first | (rw [hy121]; with_reducible exact H) | (have H2_ := (Option.bind_some _ _).symm.trans H; rw [hy121]; with_reducible exact H2_) | (have H2_ := (Option.bind_some _ _).symm.trans H; with_reducible exact H2_) | with_reducible exact H | (rw [hy121]; exact H) | exact H
  have Ny121 := Aside0.mk hy121
  clear hy121
  replace H := Option.bind_eq_some_iff.mp H
  obtain ⟨t124, A10, H⟩ := H
  replace H : ((sieve_Hash.f k (⟨#[]⟩ : ByteArray)).bind fun bt125 => (if (t124.size : Int) = 8 then ((sieve_May.f k t124 (⟨#[97]⟩ : ByteArray)).bind fun t127 => (if t127 = true then ((sieve_May.f k t124 (⟨#[98]⟩ : ByteArray)).bind fun t128 => (if t128 = true then ((sieve_May.f k (⟨#[]⟩ : ByteArray) (⟨#[122]⟩ : ByteArray)).bind fun t129 => (if t129 = true then (if bt125.1 = 5381 then (if bt125.2 = 52711 then ((sieve_Make.f k ([] : List ByteArray)).bind fun t130 => ((sieve_May.f k t130 (⟨#[97]⟩ : ByteArray)).bind fun t131 => (some (!t131)))) else (some false)) else (some false)) else (some false))) else (some false))) else (some false))) else (some false))) = some r := H
  have A1 := Aside0.mk A10
  clear A10
  replace H := Option.bind_eq_some_iff.mp H
  obtain ⟨⟨t125, t126⟩, A20, H⟩ := H
  replace H : (if (t124.size : Int) = 8 then ((sieve_May.f k t124 (⟨#[97]⟩ : ByteArray)).bind fun t127 => (if t127 = true then ((sieve_May.f k t124 (⟨#[98]⟩ : ByteArray)).bind fun t128 => (if t128 = true then ((sieve_May.f k (⟨#[]⟩ : ByteArray) (⟨#[122]⟩ : ByteArray)).bind fun t129 => (if t129 = true then (if t125 = 5381 then (if t126 = 52711 then ((sieve_Make.f k ([] : List ByteArray)).bind fun t130 => ((sieve_May.f k t130 (⟨#[97]⟩ : ByteArray)).bind fun t131 => (some (!t131)))) else (some false)) else (some false)) else (some false))) else (some false))) else (some false))) else (some false)) = some r := H
  have A2 := Aside0.mk A20
  clear A20
  by_cases c3 : (t124.size : Int) = 8
  · rw [if_pos c3] at H
    have c3b0 : ((t124.size : Int) == 8) = true := beq_iff_eq.mpr c3
    have c3b1 : ((t124.size : Int) != 8) = false := bne_eq_false_iff_eq.mpr c3
    clear c3
    replace H := Option.bind_eq_some_iff.mp H
    obtain ⟨t127, A40, H⟩ := H
    replace H : (if t127 = true then ((sieve_May.f k t124 (⟨#[98]⟩ : ByteArray)).bind fun t128 => (if t128 = true then ((sieve_May.f k (⟨#[]⟩ : ByteArray) (⟨#[122]⟩ : ByteArray)).bind fun t129 => (if t129 = true then (if t125 = 5381 then (if t126 = 52711 then ((sieve_Make.f k ([] : List ByteArray)).bind fun t130 => ((sieve_May.f k t130 (⟨#[97]⟩ : ByteArray)).bind fun t131 => (some (!t131)))) else (some false)) else (some false)) else (some false))) else (some false))) else (some false)) = some r := H
    have A4 := Aside0.mk A40
    clear A40
    by_cases c5 : t127 = true
    · subst c5
      have H1 : ((sieve_May.f k t124 (⟨#[98]⟩ : ByteArray)).bind fun t128 => (if t128 = true then ((sieve_May.f k (⟨#[]⟩ : ByteArray) (⟨#[122]⟩ : ByteArray)).bind fun t129 => (if t129 = true then (if t125 = 5381 then (if t126 = 52711 then ((sieve_Make.f k ([] : List ByteArray)).bind fun t130 => ((sieve_May.f k t130 (⟨#[97]⟩ : ByteArray)).bind fun t131 => (some (!t131)))) else (some false)) else (some false)) else (some false))) else (some false))) = some r := by rw [if_pos rfl] at H; exact H
      clear H
      have H := H1
      clear H1
      replace H := Option.bind_eq_some_iff.mp H
      obtain ⟨t128, A60, H⟩ := H
      replace H : (if t128 = true then ((sieve_May.f k (⟨#[]⟩ : ByteArray) (⟨#[122]⟩ : ByteArray)).bind fun t129 => (if t129 = true then (if t125 = 5381 then (if t126 = 52711 then ((sieve_Make.f k ([] : List ByteArray)).bind fun t130 => ((sieve_May.f k t130 (⟨#[97]⟩ : ByteArray)).bind fun t131 => (some (!t131)))) else (some false)) else (some false)) else (some false))) else (some false)) = some r := H
      have A6 := Aside0.mk A60
      clear A60
      by_cases c7 : t128 = true
      · subst c7
        have H1 : ((sieve_May.f k (⟨#[]⟩ : ByteArray) (⟨#[122]⟩ : ByteArray)).bind fun t129 => (if t129 = true then (if t125 = 5381 then (if t126 = 52711 then ((sieve_Make.f k ([] : List ByteArray)).bind fun t130 => ((sieve_May.f k t130 (⟨#[97]⟩ : ByteArray)).bind fun t131 => (some (!t131)))) else (some false)) else (some false)) else (some false))) = some r := by rw [if_pos rfl] at H; exact H
        clear H
        have H := H1
        clear H1
        replace H := Option.bind_eq_some_iff.mp H
        obtain ⟨t129, A80, H⟩ := H
        replace H : (if t129 = true then (if t125 = 5381 then (if t126 = 52711 then ((sieve_Make.f k ([] : List ByteArray)).bind fun t130 => ((sieve_May.f k t130 (⟨#[97]⟩ : ByteArray)).bind fun t131 => (some (!t131)))) else (some false)) else (some false)) else (some false)) = some r := H
        have A8 := Aside0.mk A80
        clear A80
        by_cases c9 : t129 = true
        · subst c9
          have H1 : (if t125 = 5381 then (if t126 = 52711 then ((sieve_Make.f k ([] : List ByteArray)).bind fun t130 => ((sieve_May.f k t130 (⟨#[97]⟩ : ByteArray)).bind fun t131 => (some (!t131)))) else (some false)) else (some false)) = some r := by rw [if_pos rfl] at H; exact H
          clear H
          have H := H1
          clear H1
          by_cases c10 : t125 = 5381
          · rw [if_pos c10] at H
            have c10b0 : (t125 == 5381) = true := beq_iff_eq.mpr c10
            have c10b1 : (t125 != 5381) = false := bne_eq_false_iff_eq.mpr c10
            clear c10
            by_cases c11 : t126 = 52711
            · rw [if_pos c11] at H
              have c11b0 : (t126 == 52711) = true := beq_iff_eq.mpr c11
              have c11b1 : (t126 != 52711) = false := bne_eq_false_iff_eq.mpr c11
              clear c11
              replace H := Option.bind_eq_some_iff.mp H
              obtain ⟨t130, A120, H⟩ := H
              replace H : ((sieve_May.f k t130 (⟨#[97]⟩ : ByteArray)).bind fun t131 => (some (!t131))) = some r := H
              have A12 := Aside0.mk A120
              clear A120
              replace H := Option.bind_eq_some_iff.mp H
              obtain ⟨t131, A130, H⟩ := H
              replace H : (some (!t131)) = some r := H
              have A13 := Aside0.mk A130
              clear A130
              obtain rfl := Option.some.inj H
              go_enter Try.func7, Try.ntmps7
              go_wp2_with (first | ((with_reducible refine gate_dst (N := 4) rfl ?_); refine Kd.R_lit Kd.string _ 9 ?hg (N := 4) ?hd (xs := ([(⟨#[97]⟩ : ByteArray), (⟨#[98]⟩ : ByteArray)] : List ByteArray)) (inner := [.string (⟨#[97]⟩ : ByteArray), .string (⟨#[98]⟩ : ByteArray)]) (ok := fun _ => True) (okp := fun _ => True) ?hr ?hp (fun _ hk => hk) trivial (Below.refl _ _) (Nat.le_refl _) (by simp) ?_; (case hd => rfl); (case hg => rfl); (case hr => first | (go_simp; done) | (go_simp; rfl)); (case hp => exact (Reps.one (show Kd.M Kd.string _ _ _ (⟨#[97]⟩ : ByteArray) [.string (⟨#[97]⟩ : ByteArray)] from rfl) (Reps.one (show Kd.M Kd.string _ _ _ (⟨#[98]⟩ : ByteArray) [.string (⟨#[98]⟩ : ByteArray)] from rfl) (Reps.none _ _)))); intro v122 w14 ho15 hb hg_ hnew_; clear hg_ hnew_; (first | rw [← Ny121.out] at ho15 | (simp only [Int.reduceToNat] at ho15; rw [← Ny121.out] at ho15)); have n0_ := Aside0.mk (Kd.R_lower ho15 (below_size (by repeat (first | (with_reducible first | exact HB.out | apply below_alloc | apply pw_below_drewN | apply below_drew1) | exact HB.out)))); have n1_ := Aside0.mk (below_step (by repeat (first | (with_reducible first | exact HB.out | apply below_alloc | apply pw_below_drewN | apply below_drew1) | exact HB.out)) hb); clear HB; have HO123 := n0_; have HB := n1_; clear n0_ n1_; clear hb ho15; obtain ⟨Ao16, co16, eo16⟩ := Kd.R_slice HO123.out; subst eo16) | ((with_reducible refine gate_callee (f := 11) rfl ?_); refine goesL_ (some 5) rfl rfl Try.func11 (by kernel_rfl) rfl #[.slice Ao16 y121.length co16] rfl (by (try simp only [List.map_toArray, List.map_cons, List.map_nil]); first | done | rfl | (simp only [List.length_drop, List.length_take]; rfl)) ?_; (with_reducible refine (sieve_Make.calls k _ _ y121 t124 _ ?side1 ?side2 A1.out).mono ?_); (case side1 => repeat (first | exact (Kd.R_reads' HO123.out).2.2 | (with_reducible refine Kd.C_alloc ?_ _) | (with_reducible refine Kd.C_drewN ?_ _) | (with_reducible refine Kd.C_drew ?_))); (case side2 => exact (Kd.R_reads' HO123.out).2.1); rintro e w17 ⟨rfl, hb⟩; refine ⟨_, rfl, ?_⟩; have n0_ := Aside0.mk (Kd.R_below (by (with_reducible repeat (first | apply Kd.R_alloc | apply Kd.R_drewN | apply Kd.R_drew)); exact HO123.out) hb); have n1_ := Aside0.mk (below_step (by repeat (first | (with_reducible first | exact HB.out | apply below_alloc | apply pw_below_drewN | apply below_drew1) | exact HB.out)) hb); clear HO123; clear HB; have HO123 := n0_; have HB := n1_; clear n0_ n1_; (try clear hb); (try clear hb2); (try clear hk); (try clear hi)) | ((with_reducible refine gate_callee (f := 9) rfl ?_); refine goesL_ (some 7) rfl rfl Try.func9 (by kernel_rfl) rfl #[.string (⟨#[]⟩ : ByteArray)] rfl (by (try simp only [List.map_toArray, List.map_cons, List.map_nil]); first | done | rfl | (simp only [List.length_drop, List.length_take]; rfl)) ?_; (with_reducible refine (sieve_Hash.calls k (⟨#[]⟩ : ByteArray) t125 t126 _ A2.out).mono ?_); rintro e w' ⟨rfl, ⟨nd, rfl⟩⟩; refine ⟨_, rfl, ?_⟩) | (go_at_call 13; (with_reducible refine (sieve_May.calls k t124 (⟨#[97]⟩ : ByteArray) true _ A4.out).mono ?_); rintro e w18 ⟨rfl, hb⟩; have n0_ := Aside0.mk (Kd.R_below (by (with_reducible repeat (first | apply Kd.R_alloc | apply Kd.R_drewN | apply Kd.R_drew)); exact HO123.out) hb); have n1_ := Aside0.mk (below_step (by repeat (first | (with_reducible first | exact HB.out | apply below_alloc | apply pw_below_drewN | apply below_drew1) | exact HB.out)) hb); clear HO123; clear HB; have HO123 := n0_; have HB := n1_; clear n0_ n1_; (try clear hb); (try clear hb2); (try clear hk); (try clear hi)) | (go_at_call 13; (with_reducible refine (sieve_May.calls k t124 (⟨#[98]⟩ : ByteArray) true _ A6.out).mono ?_); rintro e w19 ⟨rfl, hb⟩; have n0_ := Aside0.mk (Kd.R_below (by (with_reducible repeat (first | apply Kd.R_alloc | apply Kd.R_drewN | apply Kd.R_drew)); exact HO123.out) hb); have n1_ := Aside0.mk (below_step (by repeat (first | (with_reducible first | exact HB.out | apply below_alloc | apply pw_below_drewN | apply below_drew1) | exact HB.out)) hb); clear HO123; clear HB; have HO123 := n0_; have HB := n1_; clear n0_ n1_; (try clear hb); (try clear hb2); (try clear hk); (try clear hi)) | (go_at_call 13; (with_reducible refine (sieve_May.calls k (⟨#[]⟩ : ByteArray) (⟨#[122]⟩ : ByteArray) true _ A8.out).mono ?_); rintro e w20 ⟨rfl, hb⟩; have n0_ := Aside0.mk (Kd.R_below (by (with_reducible repeat (first | apply Kd.R_alloc | apply Kd.R_drewN | apply Kd.R_drew)); exact HO123.out) hb); have n1_ := Aside0.mk (below_step (by repeat (first | (with_reducible first | exact HB.out | apply below_alloc | apply pw_below_drewN | apply below_drew1) | exact HB.out)) hb); clear HO123; clear HB; have HO123 := n0_; have HB := n1_; clear n0_ n1_; (try clear hb); (try clear hb2); (try clear hk); (try clear hi)) | (go_at_call 11; (refine (sieve_Make.calls k _ _ ([] : List ByteArray) t130 _ ?side1 ?side2 A12.out).mono ?_); (case side1 => exact Kd.C_nil _ _); (case side2 => exact Nat.le_refl _); rintro e w21 ⟨rfl, hb⟩; have n0_ := Aside0.mk (Kd.R_below (by (with_reducible repeat (first | apply Kd.R_alloc | apply Kd.R_drewN | apply Kd.R_drew)); exact HO123.out) hb); have n1_ := Aside0.mk (below_step (by repeat (first | (with_reducible first | exact HB.out | apply below_alloc | apply pw_below_drewN | apply below_drew1) | exact HB.out)) hb); clear HO123; clear HB; have HO123 := n0_; have HB := n1_; clear n0_ n1_; (try clear hb); (try clear hb2); (try clear hk); (try clear hi)) | (go_at_call 13; (with_reducible refine (sieve_May.calls k t130 (⟨#[97]⟩ : ByteArray) t131 _ A13.out).mono ?_); rintro e w22 ⟨rfl, hb⟩; have n0_ := Aside0.mk (Kd.R_below (by (with_reducible repeat (first | apply Kd.R_alloc | apply Kd.R_drewN | apply Kd.R_drew)); exact HO123.out) hb); have n1_ := Aside0.mk (below_step (by repeat (first | (with_reducible first | exact HB.out | apply below_alloc | apply pw_below_drewN | apply below_drew1) | exact HB.out)) hb); clear HO123; clear HB; have HO123 := n0_; have HB := n1_; clear n0_ n1_; (try clear hb); (try clear hb2); (try clear hk); (try clear hi)))
              go_ret
              exact ⟨by first | rfl | (simp [errW_none, errW_some] <;> rfl) | (simp [*, errW_none, errW_some] <;> rfl), by repeat (first | (with_reducible first | exact HB.out | apply below_alloc | apply pw_below_drewN | apply below_drew1) | exact HB.out)⟩
            · rw [if_neg c11] at H
              have c11b0 : (t126 == 52711) = false := beq_eq_false_iff_ne.mpr c11
              have c11b1 : (t126 != 52711) = true := bne_iff_ne.mpr c11
              exact absurd ((Option.some.inj H).trans HR_.out) (by decide)
          · rw [if_neg c10] at H
            have c10b0 : (t125 == 5381) = false := beq_eq_false_iff_ne.mpr c10
            have c10b1 : (t125 != 5381) = true := bne_iff_ne.mpr c10
            exact absurd ((Option.some.inj H).trans HR_.out) (by decide)
        · replace c9 := Bool.eq_false_iff.mpr c9
          subst c9
          have H1 : (some false) = some r := by rw [if_neg (show ¬ (false = true) by decide)] at H; exact H
          clear H
          have H := H1
          clear H1
          exact absurd ((Option.some.inj H).trans HR_.out) (by decide)
      · replace c7 := Bool.eq_false_iff.mpr c7
        subst c7
        have H1 : (some false) = some r := by rw [if_neg (show ¬ (false = true) by decide)] at H; exact H
        clear H
        have H := H1
        clear H1
        exact absurd ((Option.some.inj H).trans HR_.out) (by decide)
    · replace c5 := Bool.eq_false_iff.mpr c5
      subst c5
      have H1 : (some false) = some r := by rw [if_neg (show ¬ (false = true) by decide)] at H; exact H
      clear H
      have H := H1
      clear H1
      exact absurd ((Option.some.inj H).trans HR_.out) (by decide)
  · rw [if_neg c3] at H
    have c3b0 : ((t124.size : Int) == 8) = false := beq_eq_false_iff_ne.mpr c3
    have c3b1 : ((t124.size : Int) != 8) = true := bne_iff_ne.mpr c3
    exact absurd ((Option.some.inj H).trans HR_.out) (by decide)

/-! ### ravelinlaw7_few: function 8 -/
def ravelinlaw7_few.l0 : Nat → List ByteArray → Int → Option (Bool)
  | 0, _, _ => none
  | k + 1, x0, x3 => if x3 < (x0.length : Int) then (if 0 ≤ x3 then (if ((rdOf ByteArray.empty x0 x3).size : Int) > 40 then (some false) else (ravelinlaw7_few.l0 k x0 (wrap64 (x3 + 1)))) else (none)) else (some (decide ((x0.length : Int) ≤ 60)))
def ravelinlaw7_few.f (k : Nat) (l0 : List ByteArray) : Option (Bool) := ravelinlaw7_few.l0 k l0 0
theorem ravelinlaw7_few.mono_l : ∀ k, (∀ y0 y1, LeO (ravelinlaw7_few.l0 k y0 y1) (ravelinlaw7_few.l0 (k + 1) y0 y1))
  | 0 => fun _ _ r h => by simp [ravelinlaw7_few.l0] at h
  | k + 1 => by
    have ih0 := ravelinlaw7_few.mono_l k
    · intro y0 y1
      unfold ravelinlaw7_few.l0
      repeat' first
      | (with_reducible exact ih0 _ _)
      | (with_reducible exact LeO.refl _)
      | (with_reducible exact LeO.none _)
      | (with_reducible refine LeO.ite ?_ ?_)
      | (with_reducible refine LeO.bind ?_ (fun _ => ?_))
      | exact ih0 _ _
      | exact LeO.none _
      | refine LeO.ite ?_ ?_
      | refine LeO.bind ?_ (fun _ => ?_)
theorem ravelinlaw7_few.mono : ∀ a0 k, LeO (ravelinlaw7_few.f k a0) (ravelinlaw7_few.f (k + 1) a0) := by
  intro a0 k
  have ih0 := ravelinlaw7_few.mono_l k
  unfold ravelinlaw7_few.f
  repeat' first
      | (with_reducible exact ih0 _ _)
      | (with_reducible exact LeO.refl _)
      | (with_reducible exact LeO.none _)
      | (with_reducible refine LeO.ite ?_ ?_)
      | (with_reducible refine LeO.bind ?_ (fun _ => ?_))
      | exact ih0 _ _
      | exact LeO.none _
      | refine LeO.ite ?_ ?_
      | refine LeO.bind ?_ (fun _ => ?_)
set_option maxHeartbeats 8000000 in
set_option maxRecDepth 100000 in
theorem ravelinlaw7_few.calls (k : Nat) (A0 : Option Addr) (c0 : Nat) (l0 : List ByteArray) (r : Bool) (w : World) (hr0 : Kd.C Kd.string w A0 l0.length l0) (hc0 : l0.length ≤ c0) (h : ravelinlaw7_few.f k l0 = some r) :
    Calls Try.prog 8 #[.slice A0 l0.length c0] w fun e w' => e = .returned (.bool r) ∧ Drawn0 w w' := by
  have HR0 := Aside0.mk hr0
  have HC0 := Aside0.mk hc0
  clear hr0 hc0
  have H : (ravelinlaw7_few.l0 k l0 0) = some r := h
  clear h
  have H' := Aside0.mk H
  clear H
  go_enter Try.func8, Try.ntmps8
  go_wp2
  go_loopg [3] k (fun kq v3 w' => ∃ (x3_1 : Int), v3 = .int .i64 x3_1 ∧ Aside0 (ravelinlaw7_few.l0 kq l0 x3_1 = some r) ∧ Aside0 (kq ≤ k) ∧ Drawn0 w w')
  case atStart => exact ⟨(0), (by first | rfl | (simp; done) | (simp [*]; done)), H', ⟨Nat.le_refl _⟩, by repeat (first | exact Drawn0.refl _ | apply Drawn0.step)⟩
  case round =>
    clear H'
    obtain ⟨x3_1, rfl, HA, HK1, ⟨m1, rfl⟩⟩ := hrel
    cases gk with
    | zero => exact absurd HA.out (by simp [ravelinlaw7_few.l0])
    | succ k1 =>
      have H := HA.out
      clear HA
      simp only [ravelinlaw7_few.l0] at H
      by_cases c2 : x3_1 < (l0.length : Int)
      · rw [if_pos c2] at H
        have c2b0 : decide (x3_1 < (l0.length : Int)) = true := decide_eq_true c2
        clear c2
        by_cases c3 : 0 ≤ x3_1
        · rw [if_pos c3] at H
          have c3b0 : decide (0 ≤ x3_1) = true := decide_eq_true c3
          clear c3
          by_cases c4 : ((rdOf ByteArray.empty l0 x3_1).size : Int) > 40
          · rw [if_pos c4] at H
            have c4b0 : decide (40 < ((rdOf ByteArray.empty l0 x3_1).size : Int)) = true := decide_eq_true c4
            have c4b1 : decide (40 < (rdOf ByteArray.empty l0 x3_1).size) = true := decide_eq_true (by omega)
            clear c4
            obtain rfl := Option.some.inj H
            have p132 : 0 ≤ (x3_1 : Int) := of_decide_eq_true (by first | (with_reducible assumption) | assumption)
            have q132 : x3_1 < (l0.length : Int) := of_decide_eq_true (by first | (with_reducible assumption) | assumption)
            obtain ⟨ad132, e132, hx132_0⟩ := Kd.at_string HR0.out x3_1 p132 q132
            cases e132
            replace p132 := eq_true p132
            replace q132 := eq_true q132
            go_wp2
            go_ret
            exact ⟨by first | rfl | (simp; done) | (simp [*]; done), by repeat (first | exact Drawn0.refl _ | apply Drawn0.step)⟩
          · rw [if_neg c4] at H
            have c4b0 : decide (40 < ((rdOf ByteArray.empty l0 x3_1).size : Int)) = false := decide_eq_false c4
            have c4b1 : decide (40 < (rdOf ByteArray.empty l0 x3_1).size) = false := decide_eq_false (by omega)
            clear c4
            have H' := Aside0.mk H
            clear H
            have p132 : 0 ≤ (x3_1 : Int) := of_decide_eq_true (by first | (with_reducible assumption) | assumption)
            have q132 : x3_1 < (l0.length : Int) := of_decide_eq_true (by first | (with_reducible assumption) | assumption)
            obtain ⟨ad132, e132, hx132_0⟩ := Kd.at_string HR0.out x3_1 p132 q132
            cases e132
            replace p132 := eq_true p132
            replace q132 := eq_true q132
            go_wp2
            go_roundg k1
            case measure => have := HK1.out; omega
            case rel => exact ⟨(wrap64 (x3_1 + 1)), (by first | rfl | (simp; done) | (simp [*]; done)), H', ⟨by have := HK1.out; omega⟩, by repeat (first | exact Drawn0.refl _ | apply Drawn0.step)⟩
        · rw [if_neg c3] at H
          exact absurd H (by simp)
      · rw [if_neg c2] at H
        have c2b0 : decide (x3_1 < (l0.length : Int)) = false := decide_eq_false c2
        clear c2
        obtain rfl := Option.some.inj H
        go_wp2
        go_ret
        exact ⟨by first | rfl | (simp; done) | (simp [*]; done), by repeat (first | exact Drawn0.refl _ | apply Drawn0.step)⟩

/-! ### ravelinref6_Hash: function 10 -/
def ravelinref6_Hash.l0 : Nat → ByteArray → Int → Int → Int → Option (Int × Int)
  | 0, _, _, _, _ => none
  | k + 1, x0, x4, x5, x6 => if x6 < (x0.size : Int) then (if 0 ≤ x6 then (ravelinref6_Hash.l0 k x0 ((((x4 * 33) % 4294967296) + ((bt x0 x6) % 4294967296)) % 4294967296) (Go.bits .xor .u32 ((x5 * 31) % 4294967296) ((bt x0 x6) % 4294967296)) (wrap64 (x6 + 1))) else (none)) else (some (x4, Go.bits .or .u32 x5 1))
def ravelinref6_Hash.f (k : Nat) (a0 : ByteArray) : Option (Int × Int) := ravelinref6_Hash.l0 k a0 5381 52711 0
theorem ravelinref6_Hash.mono_l : ∀ k, (∀ y0 y1 y2 y3, LeO (ravelinref6_Hash.l0 k y0 y1 y2 y3) (ravelinref6_Hash.l0 (k + 1) y0 y1 y2 y3))
  | 0 => fun _ _ _ _ r h => by simp [ravelinref6_Hash.l0] at h
  | k + 1 => by
    have ih0 := ravelinref6_Hash.mono_l k
    · intro y0 y1 y2 y3
      unfold ravelinref6_Hash.l0
      repeat' first
      | (with_reducible exact ih0 _ _ _ _)
      | (with_reducible exact LeO.refl _)
      | (with_reducible exact LeO.none _)
      | (with_reducible refine LeO.ite ?_ ?_)
      | (with_reducible refine LeO.bind ?_ (fun _ => ?_))
      | exact ih0 _ _ _ _
      | exact LeO.none _
      | refine LeO.ite ?_ ?_
      | refine LeO.bind ?_ (fun _ => ?_)
theorem ravelinref6_Hash.mono : ∀ a0 k, LeO (ravelinref6_Hash.f k a0) (ravelinref6_Hash.f (k + 1) a0) := by
  intro a0 k
  have ih0 := ravelinref6_Hash.mono_l k
  unfold ravelinref6_Hash.f
  repeat' first
      | (with_reducible exact ih0 _ _ _ _)
      | (with_reducible exact LeO.refl _)
      | (with_reducible exact LeO.none _)
      | (with_reducible refine LeO.ite ?_ ?_)
      | (with_reducible refine LeO.bind ?_ (fun _ => ?_))
      | exact ih0 _ _ _ _
      | exact LeO.none _
      | refine LeO.ite ?_ ?_
      | refine LeO.bind ?_ (fun _ => ?_)
set_option maxHeartbeats 8000000 in
set_option maxRecDepth 100000 in
theorem ravelinref6_Hash.calls (k : Nat) (a0 : ByteArray) (r1 : Int) (r2 : Int) (w : World) (h : ravelinref6_Hash.f k a0 = some (r1, r2)) :
    Calls Try.prog 10 #[.string a0] w fun e w' => e = .returned (.tuple #[.int .u32 r1, .int .u32 r2]) ∧ Drawn0 w w' := by
  have H : (ravelinref6_Hash.l0 k a0 5381 52711 0) = some (r1, r2) := h
  clear h
  have H' := Aside0.mk H
  clear H
  go_enter Try.func10, Try.ntmps10
  go_wp2
  go_loopg [4, 5, 6] k (fun kq v4 v5 v6 w' => ∃ (x4_1 : Int) (x5_1 : Int) (x6_1 : Int), v4 = .int .u32 x4_1 ∧ v5 = .int .u32 x5_1 ∧ v6 = .int .i64 x6_1 ∧ Aside0 (ravelinref6_Hash.l0 kq a0 x4_1 x5_1 x6_1 = some (r1, r2)) ∧ Aside0 (kq ≤ k) ∧ Drawn0 w w')
  case atStart => exact ⟨(5381), (52711), (0), (by first | rfl | (simp; done) | (simp [*]; done)), (by first | rfl | (simp; done) | (simp [*]; done)), (by first | rfl | (simp; done) | (simp [*]; done)), H', ⟨Nat.le_refl _⟩, by repeat (first | exact Drawn0.refl _ | apply Drawn0.step)⟩
  case round =>
    clear H'
    try clear c1
    obtain ⟨x4_1, x5_1, x6_1, rfl, rfl, rfl, HA, HK1, ⟨m1, rfl⟩⟩ := hrel
    cases gk with
    | zero => exact absurd HA.out (by simp [ravelinref6_Hash.l0])
    | succ k1 =>
      have H := HA.out
      clear HA
      simp only [ravelinref6_Hash.l0] at H
      by_cases c2 : x6_1 < (a0.size : Int)
      · rw [if_pos c2] at H
        have c2b0 : decide (x6_1 < (a0.size : Int)) = true := decide_eq_true c2
        clear c2
        by_cases c3 : 0 ≤ x6_1
        · rw [if_pos c3] at H
          have c3b0 : decide (0 ≤ x6_1) = true := decide_eq_true c3
          clear c3
          have H' := Aside0.mk H
          clear H
          have p4 : 0 ≤ (x6_1 : Int) := of_decide_eq_true (by first | (with_reducible assumption) | assumption)
          have q4 : x6_1 < (a0.size : Int) := of_decide_eq_true (by first | (with_reducible assumption) | assumption)
          have hx4 := bt_at a0 x6_1
          replace p4 := eq_true p4
          replace q4 := eq_true q4
          have p5 : 0 ≤ (x6_1 : Int) := of_decide_eq_true (by first | (with_reducible assumption) | assumption)
          have q5 : x6_1 < (a0.size : Int) := of_decide_eq_true (by first | (with_reducible assumption) | assumption)
          have hx5 := bt_at a0 x6_1
          replace p5 := eq_true p5
          replace q5 := eq_true q5
          go_wp2
          go_roundg k1
          case measure => have := HK1.out; omega
          case rel => exact ⟨((((x4_1 * 33) % 4294967296) + ((bt a0 x6_1) % 4294967296)) % 4294967296), (Go.bits .xor .u32 ((x5_1 * 31) % 4294967296) ((bt a0 x6_1) % 4294967296)), (wrap64 (x6_1 + 1)), (by first | rfl | (simp; done) | (simp [*]; done)), (by first | rfl | (simp; done) | (simp [*]; done)), (by first | rfl | (simp; done) | (simp [*]; done)), H', ⟨by have := HK1.out; omega⟩, by repeat (first | exact Drawn0.refl _ | apply Drawn0.step)⟩
        · rw [if_neg c3] at H
          exact absurd H (by simp)
      · rw [if_neg c2] at H
        have c2b0 : decide (x6_1 < (a0.size : Int)) = false := decide_eq_false c2
        clear c2
        simp only [Option.some.injEq, Prod.mk.injEq] at H
        obtain ⟨rfl, rfl⟩ := H
        go_wp2
        go_ret2
        exact ⟨by first | rfl | (simp; done) | (simp [*]; done), by repeat (first | exact Drawn0.refl _ | apply Drawn0.step)⟩

/-! ### ravelinref6_Sieve: function 12 -/
mutual
def ravelinref6_Sieve.l0 : Nat → List ByteArray → List Int → Int → Option (ByteArray)
  | 0, _, _, _ => none
  | k + 1, x0, x3, x4 => if x4 < (x0.length : Int) then (if 0 ≤ x4 then ((ravelinref6_Hash.f k (rdOf ByteArray.empty x0 x4)).bind fun bt137 => (ravelinref6_Sieve.l1 k x0 x3 x4 bt137.1 bt137.2 0)) else (none)) else (some (strOfNums x3))
def ravelinref6_Sieve.l1 : Nat → List ByteArray → List Int → Int → Int → Int → Int → Option (ByteArray)
  | 0, _, _, _, _, _, _ => none
  | k + 1, x0, x3, x4, x5, x6, x7 => if x7 < 4 then (if (IntKind.u64.wrap (wrap64 (8 * (x3.length : Int)))) = 0 then (none) else (if 0 ≤ (IntKind.u64.wrap (Int.tdiv (Int.tmod (IntKind.u64.wrap ((IntKind.u64.wrap (x5)) + (IntKind.u64.wrap (x7 * (IntKind.u64.wrap (x6)))))) (IntKind.u64.wrap (wrap64 (8 * (x3.length : Int))))) 8)) then (if (IntKind.u64.wrap (Int.tdiv (Int.tmod (IntKind.u64.wrap ((IntKind.u64.wrap (x5)) + (IntKind.u64.wrap (x7 * (IntKind.u64.wrap (x6)))))) (IntKind.u64.wrap (wrap64 (8 * (x3.length : Int))))) 8)) < (x3.length : Int) then (if 0 ≤ (Int.tmod (Int.tmod (IntKind.u64.wrap ((IntKind.u64.wrap (x5)) + (IntKind.u64.wrap (x7 * (IntKind.u64.wrap (x6)))))) (IntKind.u64.wrap (wrap64 (8 * (x3.length : Int))))) 8) then (ravelinref6_Sieve.l1 k x0 (x3.set ((IntKind.u64.wrap (Int.tdiv (Int.tmod (IntKind.u64.wrap ((IntKind.u64.wrap (x5)) + (IntKind.u64.wrap (x7 * (IntKind.u64.wrap (x6)))))) (IntKind.u64.wrap (wrap64 (8 * (x3.length : Int))))) 8)) : Int).toNat (Go.bits .or .u8 (rd x3 (IntKind.u64.wrap (Int.tdiv (Int.tmod (IntKind.u64.wrap ((IntKind.u64.wrap (x5)) + (IntKind.u64.wrap (x7 * (IntKind.u64.wrap (x6)))))) (IntKind.u64.wrap (wrap64 (8 * (x3.length : Int))))) 8))) (shl .u8 1 (Int.tmod (Int.tmod (IntKind.u64.wrap ((IntKind.u64.wrap (x5)) + (IntKind.u64.wrap (x7 * (IntKind.u64.wrap (x6)))))) (IntKind.u64.wrap (wrap64 (8 * (x3.length : Int))))) 8)))) x4 x5 x6 (IntKind.u64.wrap (x7 + 1))) else (none)) else (none)) else (none))) else (ravelinref6_Sieve.l0 k x0 x3 (wrap64 (x4 + 1)))
end
def ravelinref6_Sieve.f (k : Nat) (l0 : List ByteArray) : Option (ByteArray) := if 0 ≤ (mx 8 (l0.length : Int)) then (if (mx 8 (l0.length : Int) : Int).toNat ≤ 281474976710656 then (ravelinref6_Sieve.l0 k l0 (List.replicate (mx 8 (l0.length : Int) : Int).toNat 0) 0) else (none)) else (none)
theorem ravelinref6_Sieve.mono_l : ∀ k, (∀ y0 y1 y2, LeO (ravelinref6_Sieve.l0 k y0 y1 y2) (ravelinref6_Sieve.l0 (k + 1) y0 y1 y2)) ∧ (∀ y0 y1 y2 y3 y4 y5, LeO (ravelinref6_Sieve.l1 k y0 y1 y2 y3 y4 y5) (ravelinref6_Sieve.l1 (k + 1) y0 y1 y2 y3 y4 y5))
  | 0 => ⟨fun _ _ _ r h => by simp [ravelinref6_Sieve.l0] at h, fun _ _ _ _ _ _ r h => by simp [ravelinref6_Sieve.l1] at h⟩
  | k + 1 => by
    obtain ⟨ih0, ih1⟩ := ravelinref6_Sieve.mono_l k
    refine ⟨?_, ?_⟩
    · intro y0 y1 y2
      unfold ravelinref6_Sieve.l0
      repeat' first
      | (with_reducible exact ih0 _ _ _)
      | (with_reducible exact ih1 _ _ _ _ _ _)
      | (with_reducible exact ravelinref6_Hash.mono _ _)
      | (with_reducible exact LeO.refl _)
      | (with_reducible exact LeO.none _)
      | (with_reducible refine LeO.ite ?_ ?_)
      | (with_reducible refine LeO.bind ?_ (fun _ => ?_))
      | exact ih0 _ _ _
      | exact ih1 _ _ _ _ _ _
      | exact ravelinref6_Hash.mono _ _
      | exact LeO.none _
      | refine LeO.ite ?_ ?_
      | refine LeO.bind ?_ (fun _ => ?_)
    · intro y0 y1 y2 y3 y4 y5
      unfold ravelinref6_Sieve.l1
      repeat' first
      | (with_reducible exact ih0 _ _ _)
      | (with_reducible exact ih1 _ _ _ _ _ _)
      | (with_reducible exact ravelinref6_Hash.mono _ _)
      | (with_reducible exact LeO.refl _)
      | (with_reducible exact LeO.none _)
      | (with_reducible refine LeO.ite ?_ ?_)
      | (with_reducible refine LeO.bind ?_ (fun _ => ?_))
      | exact ih0 _ _ _
      | exact ih1 _ _ _ _ _ _
      | exact ravelinref6_Hash.mono _ _
      | exact LeO.none _
      | refine LeO.ite ?_ ?_
      | refine LeO.bind ?_ (fun _ => ?_)
theorem ravelinref6_Sieve.mono : ∀ a0 k, LeO (ravelinref6_Sieve.f k a0) (ravelinref6_Sieve.f (k + 1) a0) := by
  intro a0 k
  obtain ⟨ih0, ih1⟩ := ravelinref6_Sieve.mono_l k
  unfold ravelinref6_Sieve.f
  repeat' first
      | (with_reducible exact ih0 _ _ _)
      | (with_reducible exact ih1 _ _ _ _ _ _)
      | (with_reducible exact ravelinref6_Hash.mono _ _)
      | (with_reducible exact LeO.refl _)
      | (with_reducible exact LeO.none _)
      | (with_reducible refine LeO.ite ?_ ?_)
      | (with_reducible refine LeO.bind ?_ (fun _ => ?_))
      | exact ih0 _ _ _
      | exact ih1 _ _ _ _ _ _
      | exact ravelinref6_Hash.mono _ _
      | exact LeO.none _
      | refine LeO.ite ?_ ?_
      | refine LeO.bind ?_ (fun _ => ?_)
set_option maxHeartbeats 8000000 in
set_option maxRecDepth 100000 in
theorem ravelinref6_Sieve.calls (k : Nat) (A0 : Option Addr) (c0 : Nat) (l0 : List ByteArray) (r : ByteArray) (w : World) (hr0 : Kd.C Kd.string w A0 l0.length l0) (hc0 : l0.length ≤ c0) (h : ravelinref6_Sieve.f k l0 = some r) :
    Calls Try.prog 12 #[.slice A0 l0.length c0] w fun e w' => e = .returned (.string r) ∧ Below w.heap.size w w' := by
  have HR0 := Aside0.mk hr0
  have HC0 := Aside0.mk hc0
  clear hr0 hc0
  have HB := Aside0.mk (Below.refl w.heap.size w)
  have H : (if 0 ≤ (mx 8 (l0.length : Int)) then (if (mx 8 (l0.length : Int) : Int).toNat ≤ 281474976710656 then (ravelinref6_Sieve.l0 k l0 (List.replicate (mx 8 (l0.length : Int) : Int).toNat 0) 0) else (none)) else (none)) = some r := h
  clear h
  obtain ⟨ji2, hji2⟩ : ∃ j_ : Int, (mx 8 (l0.length : Int)) = j_ := ⟨_, rfl⟩
  replace H : (if 0 ≤ (ji2) then (if (ji2 : Int).toNat ≤ 281474976710656 then (ravelinref6_Sieve.l0 k l0 (List.replicate (ji2 : Int).toNat 0) 0) else (none)) else (none)) = some r := by first | (rw [hji2] at H; exact H) | (simp only [hji2] at H ⊢; exact H)
  (try (have hji2l : 8 ≤ ji2 := by (rw [← hji2]; unfold mx; (repeat' split) <;> omega)))
  (try (have hji2m : 0 ≤ ji2 := by omega))
  have hji2_ : (if 8 < (l0.length : Int) then (l0.length : Int) else 8) = ji2 := hji2
  (try (have hji2_n := hji2_; simp only [Int.ofNat_lt] at hji2_n))
  by_cases c3 : 0 ≤ (ji2)
  · rw [if_pos c3] at H
    have c3b0 := eq_true c3
    have c3b1 : decide (0 ≤ (ji2)) = true := decide_eq_true c3
    clear c3
    by_cases c4 : (ji2 : Int).toNat ≤ 281474976710656
    · rw [if_pos c4] at H
      have c4b0 := eq_true c4
      have c4b1 : decide ((ji2 : Int).toNat ≤ 281474976710656) = true := decide_eq_true c4
      clear c4
      obtain ⟨y133, hy133⟩ : ∃ y_ : List Int, y_ = (List.replicate (ji2 : Int).toNat 0) := ⟨_, rfl⟩
      replace H : (ravelinref6_Sieve.l0 k l0 y133 0) = some r := by first | (rw [hy133]; with_reducible exact H) | (have H2_ := (Option.bind_some _ _).symm.trans H; rw [hy133]; with_reducible exact H2_) | (have H2_ := (Option.bind_some _ _).symm.trans H; with_reducible exact H2_) | with_reducible exact H | (rw [hy133]; exact H) | exact H
      have Ny133 := Aside0.mk hy133
      clear hy133
      have H' := Aside0.mk H
      clear H
      go_enter Try.func12, Try.ntmps12
      go_wp2_with (first | ((with_reducible refine gate_dst (N := 12) rfl ?_); refine Kd.R_make (Kd.int .u8) _ 5 rfl (N := 12) rfl 33 _ _ rfl ji2 (by first | rfl | (simp only [hji2]; rfl)) (by first | rfl | (simp only [hji2]; rfl)) Try.underlying33 (.int .u8 0) 1 info5 rfl (by decide) (by omega) 0 (ok := fun _ => True) (okp := fun _ => True) rfl (fun _ hk => hk) trivial (of_decide_eq_true (by first | (with_reducible assumption) | assumption)) (Nat.le_trans (Nat.mul_le_mul_right _ (of_decide_eq_true (by first | (with_reducible assumption) | assumption) : ji2.toNat ≤ 281474976710656)) (by omega)) (Below.refl _ _) (Nat.le_refl _) ?_; intro v134 w5 ho6 hb hg_ hnew_; clear hg_ hnew_; (first | rw [← Ny133.out] at ho6 | (simp only [Int.reduceToNat] at ho6; rw [← Ny133.out] at ho6)); have n0_ := Aside0.mk (Kd.R_lower ho6 (below_size (by repeat (first | (with_reducible first | exact HB.out | apply below_alloc | apply pw_below_drewN | apply below_drew1) | exact HB.out)))); have n1_ := Aside0.mk (below_step (by repeat (first | (with_reducible first | exact HB.out | apply below_alloc | apply pw_below_drewN | apply below_drew1) | exact HB.out)) hb); clear HB; have HO135 := n0_; have HB := n1_; clear n0_ n1_; clear hb ho6))
      go_loopg [4] k (fun kq v4 w' => ∃ (x3_1 : List Int) (x4_1 : Int), v4 = .int .i64 x4_1 ∧ Aside0 (ravelinref6_Sieve.l0 kq l0 x3_1 x4_1 = some r) ∧ Aside0 (kq ≤ k) ∧ Aside0 (Kd.R (Kd.int .u8) 5 w' w.heap.size (fun _ => True) v134 x3_1) ∧ Aside0 (Below w.heap.size w w'))
      case atStart => exact ⟨(y133), (0), (by first | rfl | (simp; done) | (simp [*]; done)), H', ⟨Nat.le_refl _⟩, ⟨by (with_reducible repeat (first | apply Kd.R_alloc | apply Kd.R_drewN | apply Kd.R_drew)); exact HO135.out⟩, ⟨by repeat (first | (with_reducible first | exact HB.out | apply below_alloc | apply pw_below_drewN | apply below_drew1) | exact HB.out)⟩⟩
      case round =>
        clear H'
        try clear c1
        try clear p2
        try clear c3
        try clear c3b0
        try clear c3b1
        try clear c4
        try clear c4b0
        try clear c4b1
        obtain ⟨x3_1, x4_1, rfl, HA, HK1, HO_3, HB⟩ := hrel
        cases gk with
        | zero => exact absurd HA.out (by simp [ravelinref6_Sieve.l0])
        | succ k1 =>
          have H := HA.out
          clear HA
          simp only [ravelinref6_Sieve.l0] at H
          by_cases c7 : x4_1 < (l0.length : Int)
          · rw [if_pos c7] at H
            have c7b0 : decide (x4_1 < (l0.length : Int)) = true := decide_eq_true c7
            clear c7
            by_cases c8 : 0 ≤ x4_1
            · rw [if_pos c8] at H
              have c8b0 : decide (0 ≤ x4_1) = true := decide_eq_true c8
              clear c8
              replace H := Option.bind_eq_some_iff.mp H
              obtain ⟨⟨t137, t138⟩, A90, H⟩ := H
              replace H : (ravelinref6_Sieve.l1 k1 l0 x3_1 x4_1 t137 t138 0) = some r := H
              have A9 := Aside0.mk A90
              clear A90
              have H' := Aside0.mk H
              clear H
              have p136 : 0 ≤ (x4_1 : Int) := of_decide_eq_true (by first | (with_reducible assumption) | assumption)
              have q136 : x4_1 < (l0.length : Int) := of_decide_eq_true (by first | (with_reducible assumption) | assumption)
              obtain ⟨ad136, e136, hx136_0⟩ := Kd.at_string HR0.out x4_1 p136 q136
              cases e136
              replace hx136_0 := (HB.out.cell (World.block_lt_of_cell? w _ hx136_0)).trans hx136_0
              replace p136 := eq_true p136
              replace q136 := eq_true q136
              go_wp2_with (first | ((with_reducible refine gate_callee (f := 10) rfl ?_); refine goesL_ (some 24) rfl rfl Try.func10 (by kernel_rfl) rfl #[.string (rdOf ByteArray.empty l0 x4_1)] rfl (by (try simp only [List.map_toArray, List.map_cons, List.map_nil]); first | done | rfl | (simp only [List.length_drop, List.length_take]; rfl)) ?_; (with_reducible refine (ravelinref6_Hash.calls k1 (rdOf ByteArray.empty l0 x4_1) t137 t138 _ A9.out).mono ?_); rintro e w' ⟨rfl, ⟨nd, rfl⟩⟩; refine ⟨_, rfl, ?_⟩))
              go_loopg [7] k1 (fun kq v7 w' => ∃ (x3_2 : List Int) (x7_2 : Int), v7 = .int .u64 x7_2 ∧ Aside0 (ravelinref6_Sieve.l1 kq l0 x3_2 x4_1 t137 t138 x7_2 = some r) ∧ Aside0 (kq ≤ k1) ∧ Aside0 (Kd.R (Kd.int .u8) 5 w' w.heap.size (fun _ => True) v134 x3_2) ∧ Aside0 (Below w.heap.size w w'))
              case atStart => exact ⟨(x3_1), (0), (by first | rfl | (simp; done) | (simp [*]; done)), H', ⟨Nat.le_refl _⟩, ⟨by (with_reducible repeat (first | apply Kd.R_alloc | apply Kd.R_drewN | apply Kd.R_drew)); exact HO_3.out⟩, ⟨by repeat (first | (with_reducible first | exact HB.out | apply below_alloc | apply pw_below_drewN | apply below_drew1) | exact HB.out)⟩⟩
              case round =>
                clear H'
                try clear c1
                try clear p1
                try clear q1
                try clear hx1
                try clear p2
                try clear c3
                try clear c3b0
                try clear c3b1
                try clear c4
                try clear c4b0
                try clear c4b1
                try clear c7
                try clear c7b0
                try clear c8
                try clear c8b0
                try clear hx136_0
                try clear p136
                try clear p2
                try clear q136
                obtain ⟨x3_2, x7_2, rfl, HA, HK2, HO_3, HB⟩ := hrel
                cases gk with
                | zero => exact absurd HA.out (by simp [ravelinref6_Sieve.l1])
                | succ k2 =>
                  have H := HA.out
                  clear HA
                  simp only [ravelinref6_Sieve.l1] at H
                  by_cases c10 : x7_2 < 4
                  · rw [if_pos c10] at H
                    have c10b0 : decide (x7_2 < 4) = true := decide_eq_true c10
                    clear c10
                    by_cases c11 : (IntKind.u64.wrap (wrap64 (8 * (x3_2.length : Int)))) = 0
                    · rw [if_pos c11] at H
                      exact absurd H (by simp)
                    · rw [if_neg c11] at H
                      have c11b0 : ((IntKind.u64.wrap (wrap64 (8 * (x3_2.length : Int)))) == 0) = false := beq_eq_false_iff_ne.mpr c11
                      have c11b1 : ((IntKind.u64.wrap (wrap64 (8 * (x3_2.length : Int)))) != 0) = true := bne_iff_ne.mpr c11
                      obtain ⟨ji12, hji12⟩ : ∃ j_ : Int, (IntKind.u64.wrap (Int.tdiv (Int.tmod (IntKind.u64.wrap ((IntKind.u64.wrap (t137)) + (IntKind.u64.wrap (x7_2 * (IntKind.u64.wrap (t138)))))) (IntKind.u64.wrap (wrap64 (8 * (x3_2.length : Int))))) 8)) = j_ := ⟨_, rfl⟩
                      replace H : (if 0 ≤ (ji12) then (if (ji12) < (x3_2.length : Int) then (if 0 ≤ (Int.tmod (Int.tmod (IntKind.u64.wrap ((IntKind.u64.wrap (t137)) + (IntKind.u64.wrap (x7_2 * (IntKind.u64.wrap (t138)))))) (IntKind.u64.wrap (wrap64 (8 * (x3_2.length : Int))))) 8) then (ravelinref6_Sieve.l1 k2 l0 (x3_2.set ((ji12) : Int).toNat (Go.bits .or .u8 (rd x3_2 (ji12)) (shl .u8 1 (Int.tmod (Int.tmod (IntKind.u64.wrap ((IntKind.u64.wrap (t137)) + (IntKind.u64.wrap (x7_2 * (IntKind.u64.wrap (t138)))))) (IntKind.u64.wrap (wrap64 (8 * (x3_2.length : Int))))) 8)))) x4_1 t137 t138 (IntKind.u64.wrap (x7_2 + 1))) else (none)) else (none)) else (none)) = some r := by first | (rw [hji12] at H; exact H) | (simp only [hji12] at H ⊢; exact H)
                      by_cases c13 : 0 ≤ (ji12)
                      · rw [if_pos c13] at H
                        have c13b0 : decide (0 ≤ (ji12)) = true := decide_eq_true c13
                        clear c13
                        by_cases c14 : (ji12) < (x3_2.length : Int)
                        · rw [if_pos c14] at H
                          have c14b0 : decide ((ji12) < (x3_2.length : Int)) = true := decide_eq_true c14
                          clear c14
                          obtain ⟨ji15, hji15⟩ : ∃ j_ : Int, (Int.tmod (Int.tmod (IntKind.u64.wrap ((IntKind.u64.wrap (t137)) + (IntKind.u64.wrap (x7_2 * (IntKind.u64.wrap (t138)))))) (IntKind.u64.wrap (wrap64 (8 * (x3_2.length : Int))))) 8) = j_ := ⟨_, rfl⟩
                          replace H : (if 0 ≤ (ji15) then (ravelinref6_Sieve.l1 k2 l0 (x3_2.set ((ji12) : Int).toNat (Go.bits .or .u8 (rd x3_2 (ji12)) (shl .u8 1 (ji15)))) x4_1 t137 t138 (IntKind.u64.wrap (x7_2 + 1))) else (none)) = some r := by first | (rw [hji15] at H; exact H) | (simp only [hji15] at H ⊢; exact H)
                          by_cases c16 : 0 ≤ (ji15)
                          · rw [if_pos c16] at H
                            have c16b0 := eq_true c16
                            have c16b1 : decide (0 ≤ (ji15)) = true := decide_eq_true c16
                            clear c16
                            obtain ⟨ji17, hji17⟩ : ∃ j_ : Int, (shl .u8 1 (ji15)) = j_ := ⟨_, rfl⟩
                            replace H : (ravelinref6_Sieve.l1 k2 l0 (x3_2.set ((ji12) : Int).toNat (Go.bits .or .u8 (rd x3_2 (ji12)) (ji17))) x4_1 t137 t138 (IntKind.u64.wrap (x7_2 + 1))) = some r := by first | (rw [hji17] at H; exact H) | (simp only [hji17] at H ⊢; exact H)
                            have hji17_ : (IntKind.u8.wrap (1 * 2 ^ min (ji15).toNat 8)) = ji17 := hji17
                            have hji17z : (ji15) ≤ 8 → (IntKind.u8.wrap (1 * 2 ^ (ji15).toNat)) = ji17 := shl_small hji17
                            have hji17u : (IntKind.u8.wrap (2 ^ min (ji15).toNat 8)) = ji17 := by have h_ := hji17_; rw [Int.one_mul] at h_; exact h_
                            have hji17v : (ji15) ≤ 8 → (IntKind.u8.wrap (2 ^ (ji15).toNat)) = ji17 := fun hle_ => by have h_ := hji17z hle_; rw [Int.one_mul] at h_; exact h_
                            obtain ⟨y140, hy140⟩ : ∃ y_ : List Int, y_ = (x3_2.set ((ji12) : Int).toNat (Go.bits .or .u8 (rd x3_2 (ji12)) (ji17))) := ⟨_, rfl⟩
                            replace H : (ravelinref6_Sieve.l1 k2 l0 y140 x4_1 t137 t138 (IntKind.u64.wrap (x7_2 + 1))) = some r := by first | (rw [hy140]; with_reducible exact H) | (have H2_ := (Option.bind_some _ _).symm.trans H; rw [hy140]; with_reducible exact H2_) | (have H2_ := (Option.bind_some _ _).symm.trans H; with_reducible exact H2_) | with_reducible exact H | (rw [hy140]; exact H) | exact H
                            have Ny140 := Aside0.mk hy140
                            clear hy140
                            have H' := Aside0.mk H
                            clear H
                            obtain ⟨Ao19, co19, eo19⟩ := Kd.R_slice HO_3.out
                            subst eo19
                            have p139 : 0 ≤ ((ji12) : Int) := of_decide_eq_true (by first | (with_reducible assumption) | assumption)
                            have q139 : (ji12) < (x3_2.length : Int) := of_decide_eq_true (by first | (with_reducible assumption) | assumption)
                            obtain ⟨ad139, e139, hx139_0⟩ := Kd.at_int (Kd.R_reads' HO_3.out).2.2 (ji12) p139 q139
                            cases e139
                            replace p139 := eq_true p139
                            replace q139 := eq_true q139
                            have p18 : 0 ≤ ((ji12) : Int) := of_decide_eq_true (by first | (with_reducible assumption) | assumption)
                            have q18 : ((ji12) : Int) < ((x3_2.length : Int) : Int) := of_decide_eq_true (by first | (with_reducible assumption) | assumption)
                            obtain ⟨go18, co18, eo18, gb18, gl18, cl18, HG18⟩ := Kd.R_form HO_3.out (by omega)
                            (first | cases eo18 | (injection eo18 with ea_ en_ ec_; (first | subst ea_ | (injection ea_ with ea_; subst ea_)); subst ec_; clear en_))
                            have GB18 := Aside0.mk gb18
                            have GG18 := Aside0.mk HG18
                            clear gb18 gl18 HG18
                            (first | simp only [add_plain] at hx139_0 | skip)
                            obtain ⟨hx18_0, hf18_0⟩ := Kd.R_celln 0 HO_3.out ((ji12) : Int) p18 q18
                            replace p18 := eq_true p18
                            replace q18 := eq_true q18
                            have HP20 := Kd.R_putg HO_3.out ((ji12) : Int) (Go.bits .or .u8 (rd x3_2 (ji12)) (ji17))
                            go_wp2_with (first | ((with_reducible refine gate_store (t := 5) (p := 55) rfl ?_); refine store_event (t := 5) (p := 55) (v := ?vo_w21) (w1 := (wr.setCell ⟨go18, ((ji12) : Int).toNat, none⟩ (.int .u8 (Go.bits .or .u8 (rd x3_2 (ji12)) (ji17))))) ?hg ?ho ?hn ?hr ?_; (case ho => rfl); (case hg => rfl); (case hn => rfl); (case hr => first | (go_simp; done) | (go_simp; rfl)); intro w21 hw; have hg : wr.grownBy w21 (some go18) := (by rw [hw]; exact HP20.2); have hp_ : Kd.R (Kd.int .u8) 5 w21 w.heap.size (fun _ => True) (.slice (some ⟨go18, 0, none⟩) x3_2.length co19) y140 := (by rw [hw, Ny140.out]; exact HP20.1); clear HP20; have n0_ := Aside0.mk (hp_); have n1_ := Aside0.mk ((by rw [hw]; exact below_set (HB.out) GB18.out : Below w.heap.size w w21)); clear HO_3; clear HB; have HO_3 := n0_; have HB := n1_; clear n0_ n1_; clear hg hw hp_))
                            go_roundg k2
                            case measure => have := HK1.out; have := HK2.out; omega
                            case rel => exact ⟨(y140), (IntKind.u64.wrap (x7_2 + 1)), (by first | rfl | (simp; done) | (simp [*]; done)), H', ⟨by have := HK1.out; have := HK2.out; omega⟩, ⟨by (with_reducible repeat (first | apply Kd.R_alloc | apply Kd.R_drewN | apply Kd.R_drew)); exact HO_3.out⟩, ⟨by repeat (first | (with_reducible first | exact HB.out | apply below_alloc | apply pw_below_drewN | apply below_drew1) | exact HB.out)⟩⟩
                          · rw [if_neg c16] at H
                            exact absurd H (by simp)
                        · rw [if_neg c14] at H
                          exact absurd H (by simp)
                      · rw [if_neg c13] at H
                        exact absurd H (by simp)
                  · rw [if_neg c10] at H
                    have c10b0 : decide (x7_2 < 4) = false := decide_eq_false c10
                    clear c10
                    have H' := Aside0.mk H
                    clear H
                    go_wp2
                    go_roundg k2
                    case measure => have := HK1.out; have := HK2.out; omega
                    case rel => exact ⟨(x3_2), (wrap64 (x4_1 + 1)), (by first | rfl | (simp; done) | (simp [*]; done)), H', ⟨by have := HK1.out; have := HK2.out; omega⟩, ⟨by (with_reducible repeat (first | apply Kd.R_alloc | apply Kd.R_drewN | apply Kd.R_drew)); exact HO_3.out⟩, ⟨by repeat (first | (with_reducible first | exact HB.out | apply below_alloc | apply pw_below_drewN | apply below_drew1) | exact HB.out)⟩⟩
            · rw [if_neg c8] at H
              exact absurd H (by simp)
          · rw [if_neg c7] at H
            have c7b0 : decide (x4_1 < (l0.length : Int)) = false := decide_eq_false c7
            clear c7
            obtain rfl := Option.some.inj H
            have hcv22 := own_string (P := Try.prog) Try.underlying33 Try.underlying5 Try.underlying9 (Kd.own_of_R HO_3.out)
            go_wp2
            go_ret
            exact ⟨by first | rfl | (simp [errW_none, errW_some] <;> rfl) | (simp only [← hji2]; first | rfl | (simp [errW_none, errW_some] <;> rfl)) | (simp [*, errW_none, errW_some] <;> rfl), by repeat (first | (with_reducible first | exact HB.out | apply below_alloc | apply pw_below_drewN | apply below_drew1) | exact HB.out)⟩
    · rw [if_neg c4] at H
      exact absurd H (by simp)
  · rw [if_neg c3] at H
    exact absurd H (by simp)

/-! ### ravelinref6_May: function 14 -/
mutual
def ravelinref6_May.l0 : Nat → ByteArray → Int → Int → Int → Option (Bool)
  | 0, _, _, _, _ => none
  | k + 1, x0, x5, x6, x7 => if x7 < 4 then (ravelinref6_May.j1 k x0 x5 x6 x7 (decide ((x0.size : Int) > 0))) else (ravelinref6_May.j1 k x0 x5 x6 x7 false)
def ravelinref6_May.j1 : Nat → ByteArray → Int → Int → Int → Bool → Option (Bool)
  | 0, _, _, _, _, _ => none
  | k + 1, x0, x5, x6, x7, x20 => if x20 = true then (if (IntKind.u64.wrap (wrap64 (8 * (x0.size : Int)))) = 0 then (none) else (if 0 ≤ (IntKind.u64.wrap (Int.tdiv (Int.tmod (IntKind.u64.wrap ((IntKind.u64.wrap (x5)) + (IntKind.u64.wrap (x7 * (IntKind.u64.wrap (x6)))))) (IntKind.u64.wrap (wrap64 (8 * (x0.size : Int))))) 8)) then (if (IntKind.u64.wrap (Int.tdiv (Int.tmod (IntKind.u64.wrap ((IntKind.u64.wrap (x5)) + (IntKind.u64.wrap (x7 * (IntKind.u64.wrap (x6)))))) (IntKind.u64.wrap (wrap64 (8 * (x0.size : Int))))) 8)) < (x0.size : Int) then (if 0 ≤ (Int.tmod (Int.tmod (IntKind.u64.wrap ((IntKind.u64.wrap (x5)) + (IntKind.u64.wrap (x7 * (IntKind.u64.wrap (x6)))))) (IntKind.u64.wrap (wrap64 (8 * (x0.size : Int))))) 8) then (if (Go.bits .and .u8 (shr .u8 (bt x0 (IntKind.u64.wrap (Int.tdiv (Int.tmod (IntKind.u64.wrap ((IntKind.u64.wrap (x5)) + (IntKind.u64.wrap (x7 * (IntKind.u64.wrap (x6)))))) (IntKind.u64.wrap (wrap64 (8 * (x0.size : Int))))) 8))) (Int.tmod (Int.tmod (IntKind.u64.wrap ((IntKind.u64.wrap (x5)) + (IntKind.u64.wrap (x7 * (IntKind.u64.wrap (x6)))))) (IntKind.u64.wrap (wrap64 (8 * (x0.size : Int))))) 8)) 1) = 0 then (some false) else (ravelinref6_May.l0 k x0 x5 x6 (IntKind.u64.wrap (x7 + 1)))) else (none)) else (none)) else (none))) else (some true)
end
def ravelinref6_May.f (k : Nat) (a0 : ByteArray) (a1 : ByteArray) : Option (Bool) := (ravelinref6_Hash.f k a1).bind fun bt141 => (ravelinref6_May.l0 k a0 bt141.1 bt141.2 0)
theorem ravelinref6_May.mono_l : ∀ k, (∀ y0 y1 y2 y3, LeO (ravelinref6_May.l0 k y0 y1 y2 y3) (ravelinref6_May.l0 (k + 1) y0 y1 y2 y3)) ∧ (∀ y0 y1 y2 y3 y4, LeO (ravelinref6_May.j1 k y0 y1 y2 y3 y4) (ravelinref6_May.j1 (k + 1) y0 y1 y2 y3 y4))
  | 0 => ⟨fun _ _ _ _ r h => by simp [ravelinref6_May.l0] at h, fun _ _ _ _ _ r h => by simp [ravelinref6_May.j1] at h⟩
  | k + 1 => by
    obtain ⟨ih0, ih1⟩ := ravelinref6_May.mono_l k
    refine ⟨?_, ?_⟩
    · intro y0 y1 y2 y3
      unfold ravelinref6_May.l0
      repeat' first
      | (with_reducible exact ih0 _ _ _ _)
      | (with_reducible exact ih1 _ _ _ _ _)
      | (with_reducible exact ravelinref6_Hash.mono _ _)
      | (with_reducible exact LeO.refl _)
      | (with_reducible exact LeO.none _)
      | (with_reducible refine LeO.ite ?_ ?_)
      | (with_reducible refine LeO.bind ?_ (fun _ => ?_))
      | exact ih0 _ _ _ _
      | exact ih1 _ _ _ _ _
      | exact ravelinref6_Hash.mono _ _
      | exact LeO.none _
      | refine LeO.ite ?_ ?_
      | refine LeO.bind ?_ (fun _ => ?_)
    · intro y0 y1 y2 y3 y4
      unfold ravelinref6_May.j1
      repeat' first
      | (with_reducible exact ih0 _ _ _ _)
      | (with_reducible exact ih1 _ _ _ _ _)
      | (with_reducible exact ravelinref6_Hash.mono _ _)
      | (with_reducible exact LeO.refl _)
      | (with_reducible exact LeO.none _)
      | (with_reducible refine LeO.ite ?_ ?_)
      | (with_reducible refine LeO.bind ?_ (fun _ => ?_))
      | exact ih0 _ _ _ _
      | exact ih1 _ _ _ _ _
      | exact ravelinref6_Hash.mono _ _
      | exact LeO.none _
      | refine LeO.ite ?_ ?_
      | refine LeO.bind ?_ (fun _ => ?_)
theorem ravelinref6_May.mono : ∀ a0 a1 k, LeO (ravelinref6_May.f k a0 a1) (ravelinref6_May.f (k + 1) a0 a1) := by
  intro a0 a1 k
  obtain ⟨ih0, ih1⟩ := ravelinref6_May.mono_l k
  unfold ravelinref6_May.f
  repeat' first
      | (with_reducible exact ih0 _ _ _ _)
      | (with_reducible exact ih1 _ _ _ _ _)
      | (with_reducible exact ravelinref6_Hash.mono _ _)
      | (with_reducible exact LeO.refl _)
      | (with_reducible exact LeO.none _)
      | (with_reducible refine LeO.ite ?_ ?_)
      | (with_reducible refine LeO.bind ?_ (fun _ => ?_))
      | exact ih0 _ _ _ _
      | exact ih1 _ _ _ _ _
      | exact ravelinref6_Hash.mono _ _
      | exact LeO.none _
      | refine LeO.ite ?_ ?_
      | refine LeO.bind ?_ (fun _ => ?_)
set_option maxHeartbeats 8000000 in
set_option maxRecDepth 100000 in
theorem ravelinref6_May.calls (k : Nat) (a0 : ByteArray) (a1 : ByteArray) (r : Bool) (w : World) (h : ravelinref6_May.f k a0 a1 = some r) :
    Calls Try.prog 14 #[.string a0, .string a1] w fun e w' => e = .returned (.bool r) ∧ Drawn0 w w' := by
  have H : ((ravelinref6_Hash.f k a1).bind fun bt141 => (ravelinref6_May.l0 k a0 bt141.1 bt141.2 0)) = some r := h
  clear h
  replace H := Option.bind_eq_some_iff.mp H
  obtain ⟨⟨t141, t142⟩, A30, H⟩ := H
  replace H : (ravelinref6_May.l0 k a0 t141 t142 0) = some r := H
  have A3 := Aside0.mk A30
  clear A30
  have H' := Aside0.mk H
  clear H
  go_enter Try.func14, Try.ntmps14
  go_wp2_with (first | ((with_reducible refine gate_callee (f := 10) rfl ?_); refine goesL_ (some 11) rfl rfl Try.func10 (by kernel_rfl) rfl #[.string a1] rfl (by (try simp only [List.map_toArray, List.map_cons, List.map_nil]); first | done | rfl | (simp only [List.length_drop, List.length_take]; rfl)) ?_; (with_reducible refine (ravelinref6_Hash.calls k a1 t141 t142 _ A3.out).mono ?_); rintro e w' ⟨rfl, ⟨nd, rfl⟩⟩; refine ⟨_, rfl, ?_⟩))
  go_loopg [7] k (fun kq v7 w' => ∃ (x7_1 : Int), v7 = .int .u64 x7_1 ∧ Aside0 (ravelinref6_May.l0 kq a0 t141 t142 x7_1 = some r) ∧ Aside0 (kq ≤ k) ∧ Drawn0 w w')
  case atStart => exact ⟨(0), (by first | rfl | (simp; done) | (simp [*]; done)), H', ⟨Nat.le_refl _⟩, by repeat (first | exact Drawn0.refl _ | apply Drawn0.step)⟩
  case round =>
    clear H'
    try clear c1
    try clear p2
    obtain ⟨x7_1, rfl, HA, HK1, ⟨m1, rfl⟩⟩ := hrel
    cases gk with
    | zero => exact absurd HA.out (by simp [ravelinref6_May.l0])
    | succ k1 =>
      have H := HA.out
      clear HA
      simp only [ravelinref6_May.l0] at H
      have HC4 := Aside0.mk H
      clear H
      go_upto_region 3 with (fail)
      go_cut [20] (fun v20 wc => ∃ (kq : Nat) (x20_3 : Bool), v20 = .bool x20_3 ∧ Aside0 (ravelinref6_May.j1 kq a0 t141 t142 x7_1 x20_3 = some r) ∧ Aside0 (kq ≤ k1) ∧ Drawn0 w wc)
      case first =>
        have H := HC4.out
        clear HC4
        by_cases c5 : x7_1 < 4
        · rw [if_pos c5] at H
          have c5b0 : decide (x7_1 < 4) = true := decide_eq_true c5
          clear c5
          (first | rw [c5b0] | (simp only [i64_w, i32_w]; rw [c5b0]) | skip)
          have H' := Aside0.mk H
          clear H
          go_wp2
          go_meet
          case rel => exact ⟨_, (decide ((a0.size : Int) > 0)), (by first | rfl | (simp; done) | (simp [*]; done)), H', ⟨by have := HK1.out; first | omega | exact Nat.le_refl _⟩, by repeat (first | exact Drawn0.refl _ | apply Drawn0.step)⟩
        · rw [if_neg c5] at H
          have c5b0 : decide (x7_1 < 4) = false := decide_eq_false c5
          clear c5
          (first | rw [c5b0] | (simp only [i64_w, i32_w]; rw [c5b0]) | skip)
          have H' := Aside0.mk H
          clear H
          go_wp2
          go_meet
          case rel => exact ⟨_, (false), (by first | rfl | (simp; done) | (simp [*]; done)), H', ⟨by have := HK1.out; first | omega | exact Nat.le_refl _⟩, by repeat (first | exact Drawn0.refl _ | apply Drawn0.step)⟩
      case rest =>
        clear HC4
        try clear c1
        try clear p2
        try clear c5
        try clear c5b0
        try clear p2
        obtain ⟨kq, x20_3, rfl, HA, HJ3, ⟨mc3, rfl⟩⟩ := hcut
        cases kq with
        | zero => exact absurd HA.out (by simp [ravelinref6_May.j1])
        | succ kj3 =>
          have H := HA.out
          clear HA
          simp only [ravelinref6_May.j1] at H
          by_cases c6 : x20_3 = true
          · subst c6
            have H1 : (if (IntKind.u64.wrap (wrap64 (8 * (a0.size : Int)))) = 0 then (none) else (if 0 ≤ (IntKind.u64.wrap (Int.tdiv (Int.tmod (IntKind.u64.wrap ((IntKind.u64.wrap (t141)) + (IntKind.u64.wrap (x7_1 * (IntKind.u64.wrap (t142)))))) (IntKind.u64.wrap (wrap64 (8 * (a0.size : Int))))) 8)) then (if (IntKind.u64.wrap (Int.tdiv (Int.tmod (IntKind.u64.wrap ((IntKind.u64.wrap (t141)) + (IntKind.u64.wrap (x7_1 * (IntKind.u64.wrap (t142)))))) (IntKind.u64.wrap (wrap64 (8 * (a0.size : Int))))) 8)) < (a0.size : Int) then (if 0 ≤ (Int.tmod (Int.tmod (IntKind.u64.wrap ((IntKind.u64.wrap (t141)) + (IntKind.u64.wrap (x7_1 * (IntKind.u64.wrap (t142)))))) (IntKind.u64.wrap (wrap64 (8 * (a0.size : Int))))) 8) then (if (Go.bits .and .u8 (shr .u8 (bt a0 (IntKind.u64.wrap (Int.tdiv (Int.tmod (IntKind.u64.wrap ((IntKind.u64.wrap (t141)) + (IntKind.u64.wrap (x7_1 * (IntKind.u64.wrap (t142)))))) (IntKind.u64.wrap (wrap64 (8 * (a0.size : Int))))) 8))) (Int.tmod (Int.tmod (IntKind.u64.wrap ((IntKind.u64.wrap (t141)) + (IntKind.u64.wrap (x7_1 * (IntKind.u64.wrap (t142)))))) (IntKind.u64.wrap (wrap64 (8 * (a0.size : Int))))) 8)) 1) = 0 then (some false) else (ravelinref6_May.l0 kj3 a0 t141 t142 (IntKind.u64.wrap (x7_1 + 1)))) else (none)) else (none)) else (none))) = some r := by rw [if_pos rfl] at H; exact H
            clear H
            have H := H1
            clear H1
            by_cases c7 : (IntKind.u64.wrap (wrap64 (8 * (a0.size : Int)))) = 0
            · rw [if_pos c7] at H
              exact absurd H (by simp)
            · rw [if_neg c7] at H
              have c7b0 : ((IntKind.u64.wrap (wrap64 (8 * (a0.size : Int)))) == 0) = false := beq_eq_false_iff_ne.mpr c7
              have c7b1 : ((IntKind.u64.wrap (wrap64 (8 * (a0.size : Int)))) != 0) = true := bne_iff_ne.mpr c7
              obtain ⟨ji8, hji8⟩ : ∃ j_ : Int, (IntKind.u64.wrap (Int.tdiv (Int.tmod (IntKind.u64.wrap ((IntKind.u64.wrap (t141)) + (IntKind.u64.wrap (x7_1 * (IntKind.u64.wrap (t142)))))) (IntKind.u64.wrap (wrap64 (8 * (a0.size : Int))))) 8)) = j_ := ⟨_, rfl⟩
              replace H : (if 0 ≤ (ji8) then (if (ji8) < (a0.size : Int) then (if 0 ≤ (Int.tmod (Int.tmod (IntKind.u64.wrap ((IntKind.u64.wrap (t141)) + (IntKind.u64.wrap (x7_1 * (IntKind.u64.wrap (t142)))))) (IntKind.u64.wrap (wrap64 (8 * (a0.size : Int))))) 8) then (if (Go.bits .and .u8 (shr .u8 (bt a0 (ji8)) (Int.tmod (Int.tmod (IntKind.u64.wrap ((IntKind.u64.wrap (t141)) + (IntKind.u64.wrap (x7_1 * (IntKind.u64.wrap (t142)))))) (IntKind.u64.wrap (wrap64 (8 * (a0.size : Int))))) 8)) 1) = 0 then (some false) else (ravelinref6_May.l0 kj3 a0 t141 t142 (IntKind.u64.wrap (x7_1 + 1)))) else (none)) else (none)) else (none)) = some r := by first | (rw [hji8] at H; exact H) | (simp only [hji8] at H ⊢; exact H)
              by_cases c9 : 0 ≤ (ji8)
              · rw [if_pos c9] at H
                have c9b0 : decide (0 ≤ (ji8)) = true := decide_eq_true c9
                clear c9
                by_cases c10 : (ji8) < (a0.size : Int)
                · rw [if_pos c10] at H
                  have c10b0 : decide ((ji8) < (a0.size : Int)) = true := decide_eq_true c10
                  clear c10
                  obtain ⟨ji12, hji12⟩ : ∃ j_ : Int, (Int.tmod (Int.tmod (IntKind.u64.wrap ((IntKind.u64.wrap (t141)) + (IntKind.u64.wrap (x7_1 * (IntKind.u64.wrap (t142)))))) (IntKind.u64.wrap (wrap64 (8 * (a0.size : Int))))) 8) = j_ := ⟨_, rfl⟩
                  replace H : (if 0 ≤ (ji12) then (if (Go.bits .and .u8 (shr .u8 (bt a0 (ji8)) (ji12)) 1) = 0 then (some false) else (ravelinref6_May.l0 kj3 a0 t141 t142 (IntKind.u64.wrap (x7_1 + 1)))) else (none)) = some r := by first | (rw [hji12] at H; exact H) | (simp only [hji12] at H ⊢; exact H)
                  by_cases c13 : 0 ≤ (ji12)
                  · rw [if_pos c13] at H
                    have c13b0 := eq_true c13
                    have c13b1 : decide (0 ≤ (ji12)) = true := decide_eq_true c13
                    clear c13
                    obtain ⟨ji14, hji14⟩ : ∃ j_ : Int, (shr .u8 (bt a0 (ji8)) (ji12)) = j_ := ⟨_, rfl⟩
                    replace H : (if (Go.bits .and .u8 (ji14) 1) = 0 then (some false) else (ravelinref6_May.l0 kj3 a0 t141 t142 (IntKind.u64.wrap (x7_1 + 1)))) = some r := by first | (rw [hji14] at H; exact H) | (simp only [hji14] at H ⊢; exact H)
                    have hji14_ : ((bt a0 (ji8)) / 2 ^ min (ji12).toNat 8) = ji14 := hji14
                    have hji14z : (ji12) ≤ 8 → ((bt a0 (ji8)) / 2 ^ (ji12).toNat) = ji14 := shr_small hji14
                    by_cases c15 : (Go.bits .and .u8 (ji14) 1) = 0
                    · rw [if_pos c15] at H
                      have c15b0 : ((Go.bits .and .u8 (ji14) 1) == 0) = true := beq_iff_eq.mpr c15
                      have c15b1 : ((Go.bits .and .u8 (ji14) 1) != 0) = false := bne_eq_false_iff_eq.mpr c15
                      clear c15
                      obtain rfl := Option.some.inj H
                      have p11 : 0 ≤ ((ji8) : Int) := of_decide_eq_true (by first | (with_reducible assumption) | assumption)
                      have q11 : (ji8) < (a0.size : Int) := of_decide_eq_true (by first | (with_reducible assumption) | assumption)
                      have hx11 := bt_at a0 (ji8)
                      replace p11 := eq_true p11
                      replace q11 := eq_true q11
                      go_wp2
                      go_ret
                      exact ⟨by first | rfl | (simp; done) | (simp only [← hji8, ← hji12, ← hji14] <;> (first | rfl | simp)) | (simp [*]; done), by repeat (first | exact Drawn0.refl _ | apply Drawn0.step)⟩
                    · rw [if_neg c15] at H
                      have c15b0 : ((Go.bits .and .u8 (ji14) 1) == 0) = false := beq_eq_false_iff_ne.mpr c15
                      have c15b1 : ((Go.bits .and .u8 (ji14) 1) != 0) = true := bne_iff_ne.mpr c15
                      have H' := Aside0.mk H
                      clear H
                      have p11 : 0 ≤ ((ji8) : Int) := of_decide_eq_true (by first | (with_reducible assumption) | assumption)
                      have q11 : (ji8) < (a0.size : Int) := of_decide_eq_true (by first | (with_reducible assumption) | assumption)
                      have hx11 := bt_at a0 (ji8)
                      replace p11 := eq_true p11
                      replace q11 := eq_true q11
                      go_wp2
                      go_roundg kj3
                      case measure => have := HK1.out; have := HJ3.out; omega
                      case rel => exact ⟨(IntKind.u64.wrap (x7_1 + 1)), (by first | rfl | (simp; done) | (simp [*]; done)), H', ⟨by have := HK1.out; have := HJ3.out; omega⟩, by repeat (first | exact Drawn0.refl _ | apply Drawn0.step)⟩
                  · rw [if_neg c13] at H
                    exact absurd H (by simp)
                · rw [if_neg c10] at H
                  exact absurd H (by simp)
              · rw [if_neg c9] at H
                exact absurd H (by simp)
          · replace c6 := Bool.eq_false_iff.mpr c6
            subst c6
            have H1 : (some true) = some r := by rw [if_neg (show ¬ (false = true) by decide)] at H; exact H
            clear H
            have H := H1
            clear H1
            obtain rfl := Option.some.inj H
            go_wp2
            go_ret
            exact ⟨by first | rfl | (simp; done) | (simp [*]; done), by repeat (first | exact Drawn0.refl _ | apply Drawn0.step)⟩

end Go.Proofs.Ytcnlhpakiadipaa.P
