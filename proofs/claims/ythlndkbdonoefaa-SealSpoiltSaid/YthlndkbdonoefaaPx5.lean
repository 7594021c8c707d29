-- Printed by a changed copy of the kit's printer (wip/tools/ext.py); labels and more
import Derived.Test.YthlndkbdonoefaaM0
import Derived.Test.YthlndkbdonoefaaM1
import Derived.Test.YthlndkbdonoefaaM2
import Derived.Test.YthlndkbdonoefaaM3
namespace Go.Proofs.Ythlndkbdonoefaa.P
open Go.RowKit Go.Proofs.YthlndkbdonoefaaW.PrintWords Go.Proofs.YthlndkbdonoefaaW.PrintLast Go.Proofs.YthlndkbdonoefaaW.PrintMore
attribute [local go_sem] max2_int min2_int max_two min_two max_three min_three max_four min_four string_leq string_geq string_gtr   -- for this text's walks alone
set_option linter.unusedVariables false
set_option linter.unusedSimpArgs false

/-! ### ravelinlaw4_SealTells: function 3 -/
def ravelinlaw4_SealTells.j0 : Nat → ByteArray → ByteArray → Bool → Option (Bool)
  | 0, _, _, _ => none
  | k + 1, x0, x1, x24 => if x24 = true then (some true) else ((seal_Open.f k x1).bind fun bt173 => ((ravelinref3_Open.f k x1).bind fun bt176 => ((seal_All.f k x1).bind fun bt179 => ((ravelinref3_All.f k x1).bind fun bt183 => ((seal_Sum.f k x0).bind fun t187 => ((ravelinref3_Sum.f k x0).bind fun t188 => (if t187 = t188 then ((seal_Seal.f k x0).bind fun t189 => ((ravelinref3_Seal.f k x0).bind fun t190 => (if t189.toList = t190.toList then (if bt173.1.toList = bt176.1.toList then (if bt173.2.1 = bt176.2.1 then (if bt173.2.2 = bt176.2.2 then ((ravelinlaw4_same.f k bt179.1 bt183.1).bind fun t191 => (if t191 = true then (some (bt179.2 == bt183.2)) else (some false))) else (some false)) else (some false)) else (some false)) else (some false)))) else (some false))))))))
def ravelinlaw4_SealTells.f (k : Nat) (a0 : ByteArray) (a1 : ByteArray) : Option (Bool) := (ravelinlaw4_known.f k).bind fun t172 => (if t172 = true then (if (a0.size : Int) > 600 then (ravelinlaw4_SealTells.j0 k a0 a1 true) else (ravelinlaw4_SealTells.j0 k a0 a1 (decide ((a1.size : Int) > 600)))) else (some false))
theorem ravelinlaw4_SealTells.mono_l : ∀ k, (∀ y0 y1 y2, LeO (ravelinlaw4_SealTells.j0 k y0 y1 y2) (ravelinlaw4_SealTells.j0 (k + 1) y0 y1 y2))
  | 0 => fun _ _ _ r h => by simp [ravelinlaw4_SealTells.j0] at h
  | k + 1 => by
    have ih0 := ravelinlaw4_SealTells.mono_l k
    · intro y0 y1 y2
      unfold ravelinlaw4_SealTells.j0
      repeat' first
      | (with_reducible exact ih0 _ _ _)
      | (with_reducible exact ravelinlaw4_known.mono _)
      | (with_reducible exact ravelinlaw4_same.mono _ _ _)
      | (with_reducible exact ravelinref3_All.mono _ _)
      | (with_reducible exact ravelinref3_Open.mono _ _)
      | (with_reducible exact ravelinref3_Seal.mono _ _)
      | (with_reducible exact ravelinref3_Sum.mono _ _)
      | (with_reducible exact seal_All.mono _ _)
      | (with_reducible exact seal_Open.mono _ _)
      | (with_reducible exact seal_Seal.mono _ _)
      | (with_reducible exact seal_Sum.mono _ _)
      | (with_reducible exact LeO.refl _)
      | (with_reducible exact LeO.none _)
      | (with_reducible refine LeO.ite ?_ ?_)
      | (with_reducible refine LeO.bind ?_ (fun _ => ?_))
      | exact ih0 _ _ _
      | exact ravelinlaw4_known.mono _
      | exact ravelinlaw4_same.mono _ _ _
      | exact ravelinref3_All.mono _ _
      | exact ravelinref3_Open.mono _ _
      | exact ravelinref3_Seal.mono _ _
      | exact ravelinref3_Sum.mono _ _
      | exact seal_All.mono _ _
      | exact seal_Open.mono _ _
      | exact seal_Seal.mono _ _
      | exact seal_Sum.mono _ _
      | exact LeO.none _
      | refine LeO.ite ?_ ?_
      | refine LeO.bind ?_ (fun _ => ?_)
theorem ravelinlaw4_SealTells.mono : ∀ a0 a1 k, LeO (ravelinlaw4_SealTells.f k a0 a1) (ravelinlaw4_SealTells.f (k + 1) a0 a1) := by
  intro a0 a1 k
  have ih0 := ravelinlaw4_SealTells.mono_l k
  unfold ravelinlaw4_SealTells.f
  repeat' first
      | (with_reducible exact ih0 _ _ _)
      | (with_reducible exact ravelinlaw4_known.mono _)
      | (with_reducible exact ravelinlaw4_same.mono _ _ _)
      | (with_reducible exact ravelinref3_All.mono _ _)
      | (with_reducible exact ravelinref3_Open.mono _ _)
      | (with_reducible exact ravelinref3_Seal.mono _ _)
      | (with_reducible exact ravelinref3_Sum.mono _ _)
      | (with_reducible exact seal_All.mono _ _)
      | (with_reducible exact seal_Open.mono _ _)
      | (with_reducible exact seal_Seal.mono _ _)
      | (with_reducible exact seal_Sum.mono _ _)
      | (with_reducible exact LeO.refl _)
      | (with_reducible exact LeO.none _)
      | (with_reducible refine LeO.ite ?_ ?_)
      | (with_reducible refine LeO.bind ?_ (fun _ => ?_))
      | exact ih0 _ _ _
      | exact ravelinlaw4_known.mono _
      | exact ravelinlaw4_same.mono _ _ _
      | exact ravelinref3_All.mono _ _
      | exact ravelinref3_Open.mono _ _
      | exact ravelinref3_Seal.mono _ _
      | exact ravelinref3_Sum.mono _ _
      | exact seal_All.mono _ _
      | exact seal_Open.mono _ _
      | exact seal_Seal.mono _ _
      | exact seal_Sum.mono _ _
      | exact LeO.none _
      | refine LeO.ite ?_ ?_
      | refine LeO.bind ?_ (fun _ => ?_)
set_option maxHeartbeats 8000000 in
set_option maxRecDepth 100000 in
theorem ravelinlaw4_SealTells.calls (k : Nat) (a0 : ByteArray) (a1 : ByteArray) (r : Bool) (w : World) (h : ravelinlaw4_SealTells.f k a0 a1 = some r) (hr_ : r = true) :
    Calls Try.prog 3 #[.string a0, .string a1] w fun e w' => e = .returned (.bool r) ∧ Below w.heap.size w w' := by
  have HB := Aside0.mk (Below.refl w.heap.size w)
  have H : ((ravelinlaw4_known.f k).bind fun t172 => (if t172 = true then (if (a0.size : Int) > 600 then (ravelinlaw4_SealTells.j0 k a0 a1 true) else (ravelinlaw4_SealTells.j0 k a0 a1 (decide ((a1.size : Int) > 600)))) else (some false))) = some r := h
  clear h
  have HR_ := Aside0.mk hr_
  clear hr_
  replace H := Option.bind_eq_some_iff.mp H
  obtain ⟨t172, A30, H⟩ := H
  replace H : (if t172 = true then (if (a0.size : Int) > 600 then (ravelinlaw4_SealTells.j0 k a0 a1 true) else (ravelinlaw4_SealTells.j0 k a0 a1 (decide ((a1.size : Int) > 600)))) else (some false)) = some r := H
  have A3 := Aside0.mk A30
  clear A30
  by_cases c4 : t172 = true
  · subst c4
    have H1 : (if (a0.size : Int) > 600 then (ravelinlaw4_SealTells.j0 k a0 a1 true) else (ravelinlaw4_SealTells.j0 k a0 a1 (decide ((a1.size : Int) > 600)))) = some r := by rw [if_pos rfl] at H; exact H
    clear H
    have H := H1
    clear H1
    have HC5 := Aside0.mk H
    clear H
    go_enter Try.func3, Try.ntmps3
    go_upto_region 3 with (first | ((with_reducible refine gate_callee (f := 7) rfl ?_); refine goesL_ (some 15) rfl rfl Try.func7 (by kernel_rfl) rfl #[] rfl (by (try simp only [List.map_toArray, List.map_cons, List.map_nil]); first | done | rfl | (simp only [List.length_drop, List.length_take]; rfl)) ?_; (with_reducible refine (ravelinlaw4_known.calls k  true _ A3.out (by first | rfl | assumption | exact of_decide_eq_true (by assumption))).mono ?_); rintro e w6 ⟨rfl, hb⟩; refine ⟨_, rfl, ?_⟩; have n0_ := Aside0.mk (below_step (by repeat (first | (with_reducible first | exact HB.out | apply below_alloc | apply pw_below_drewN | apply below_drew1) | exact HB.out)) hb); clear HB; have HB := n0_; clear n0_; (try clear hb); (try clear hb2); (try clear hk); (try clear hi)))
    (try simp only [Act.put, List.setIfInBounds_toArray, List.set_cons_zero, List.set_cons_succ])
    go_cut [24] (fun v24 wc => ∃ (kq : Nat) (x24_4 : Bool), v24 = .bool x24_4 ∧ Aside0 (ravelinlaw4_SealTells.j0 kq a0 a1 x24_4 = some r) ∧ Aside0 (kq ≤ k) ∧ Aside0 (Below w.heap.size w wc))
    case first =>
      have H := HC5.out
      clear HC5
      by_cases c7 : (a0.size : Int) > 600
      · rw [if_pos c7] at H
        have c7b0 : decide (600 < (a0.size : Int)) = true := decide_eq_true c7
        have c7b1 : decide (600 < a0.size) = true := decide_eq_true (by omega)
        clear c7
        (first | rw [c7b0] | (simp only [i64_w, i32_w]; rw [c7b0]) | skip)
        have H' := Aside0.mk H
        clear H
        go_wp2
        go_meet
        case rel => exact ⟨_, (true), (by first | rfl | (simp; done) | (simp [*]; done)), H', ⟨by first | omega | exact Nat.le_refl _⟩, ⟨by repeat (first | (with_reducible first | exact HB.out | apply below_alloc | apply pw_below_drewN | apply below_drew1) | exact HB.out)⟩⟩
      · rw [if_neg c7] at H
        have c7b0 : decide (600 < (a0.size : Int)) = false := decide_eq_false c7
        have c7b1 : decide (600 < a0.size) = false := decide_eq_false (by omega)
        clear c7
        (first | rw [c7b0] | (simp only [i64_w, i32_w]; rw [c7b0]) | skip)
        have H' := Aside0.mk H
        clear H
        go_wp2
        go_meet
        case rel => exact ⟨_, (decide ((a1.size : Int) > 600)), (by first | rfl | (simp; done) | (simp [*]; done)), H', ⟨by first | omega | exact Nat.le_refl _⟩, ⟨by repeat (first | (with_reducible first | exact HB.out | apply below_alloc | apply pw_below_drewN | apply below_drew1) | exact HB.out)⟩⟩
    case rest =>
      clear HC5
      try clear p2
      try clear c3
      try clear c4
      try clear c7
      try clear c7b0
      try clear c7b1
      obtain ⟨kq, x24_4, rfl, HA, HJ4, HB⟩ := hcut
      cases kq with
      | zero => exact absurd HA.out (by simp [ravelinlaw4_SealTells.j0])
      | succ kj4 =>
        have H := HA.out
        clear HA
        simp only [ravelinlaw4_SealTells.j0] at H
        by_cases c8 : x24_4 = true
        · subst c8
          have H1 : (some true) = some r := by rw [if_pos rfl] at H; exact H
          clear H
          have H := H1
          clear H1
          obtain rfl := Option.some.inj H
          go_wp2
          go_ret
          exact ⟨by first | rfl | (simp [errW_none, errW_some] <;> rfl) | (simp [*, errW_none, errW_some] <;> rfl), by repeat (first | (with_reducible first | exact HB.out | apply below_alloc | apply pw_below_drewN | apply below_drew1) | exact HB.out)⟩
        · replace c8 := Bool.eq_false_iff.mpr c8
          subst c8
          have H1 : ((seal_Open.f kj4 a1).bind fun bt173 => ((ravelinref3_Open.f kj4 a1).bind fun bt176 => ((seal_All.f kj4 a1).bind fun bt179 => ((ravelinref3_All.f kj4 a1).bind fun bt183 => ((seal_Sum.f kj4 a0).bind fun t187 => ((ravelinref3_Sum.f kj4 a0).bind fun t188 => (if t187 = t188 then ((seal_Seal.f kj4 a0).bind fun t189 => ((ravelinref3_Seal.f kj4 a0).bind fun t190 => (if t189.toList = t190.toList then (if bt173.1.toList = bt176.1.toList then (if bt173.2.1 = bt176.2.1 then (if bt173.2.2 = bt176.2.2 then ((ravelinlaw4_same.f kj4 bt179.1 bt183.1).bind fun t191 => (if t191 = true then (some (bt179.2 == bt183.2)) else (some false))) else (some false)) else (some false)) else (some false)) else (some false)))) else (some false)))))))) = some r := by rw [if_neg (show ¬ (false = true) by decide)] at H; exact H
          clear H
          have H := H1
          clear H1
          replace H := Option.bind_eq_some_iff.mp H
          obtain ⟨⟨t173, t174, t175⟩, A90, H⟩ := H
          replace H : ((ravelinref3_Open.f kj4 a1).bind fun bt176 => ((seal_All.f kj4 a1).bind fun bt179 => ((ravelinref3_All.f kj4 a1).bind fun bt183 => ((seal_Sum.f kj4 a0).bind fun t187 => ((ravelinref3_Sum.f kj4 a0).bind fun t188 => (if t187 = t188 then ((seal_Seal.f kj4 a0).bind fun t189 => ((ravelinref3_Seal.f kj4 a0).bind fun t190 => (if t189.toList = t190.toList then (if t173.toList = bt176.1.toList then (if t174 = bt176.2.1 then (if t175 = bt176.2.2 then ((ravelinlaw4_same.f kj4 bt179.1 bt183.1).bind fun t191 => (if t191 = true then (some (bt179.2 == bt183.2)) else (some false))) else (some false)) else (some false)) else (some false)) else (some false)))) else (some false))))))) = some r := H
          have A9 := Aside0.mk A90
          clear A90
          replace H := Option.bind_eq_some_iff.mp H
          obtain ⟨⟨t176, t177, t178⟩, A100, H⟩ := H
          replace H : ((seal_All.f kj4 a1).bind fun bt179 => ((ravelinref3_All.f kj4 a1).bind fun bt183 => ((seal_Sum.f kj4 a0).bind fun t187 => ((ravelinref3_Sum.f kj4 a0).bind fun t188 => (if t187 = t188 then ((seal_Seal.f kj4 a0).bind fun t189 => ((ravelinref3_Seal.f kj4 a0).bind fun t190 => (if t189.toList = t190.toList then (if t173.toList = t176.toList then (if t174 = t177 then (if t175 = t178 then ((ravelinlaw4_same.f kj4 bt179.1 bt183.1).bind fun t191 => (if t191 = true then (some (bt179.2 == bt183.2)) else (some false))) else (some false)) else (some false)) else (some false)) else (some false)))) else (some false)))))) = some r := H
          have A10 := Aside0.mk A100
          clear A100
          replace H := Option.bind_eq_some_iff.mp H
          obtain ⟨⟨t179, t180⟩, A110, H⟩ := H
          replace H : ((ravelinref3_All.f kj4 a1).bind fun bt183 => ((seal_Sum.f kj4 a0).bind fun t187 => ((ravelinref3_Sum.f kj4 a0).bind fun t188 => (if t187 = t188 then ((seal_Seal.f kj4 a0).bind fun t189 => ((ravelinref3_Seal.f kj4 a0).bind fun t190 => (if t189.toList = t190.toList then (if t173.toList = t176.toList then (if t174 = t177 then (if t175 = t178 then ((ravelinlaw4_same.f kj4 t179 bt183.1).bind fun t191 => (if t191 = true then (some (t180 == bt183.2)) else (some false))) else (some false)) else (some false)) else (some false)) else (some false)))) else (some false))))) = some r := H
          have A11 := Aside0.mk A110
          clear A110
          replace H := Option.bind_eq_some_iff.mp H
          obtain ⟨⟨t183, t184⟩, A120, H⟩ := H
          replace H : ((seal_Sum.f kj4 a0).bind fun t187 => ((ravelinref3_Sum.f kj4 a0).bind fun t188 => (if t187 = t188 then ((seal_Seal.f kj4 a0).bind fun t189 => ((ravelinref3_Seal.f kj4 a0).bind fun t190 => (if t189.toList = t190.toList then (if t173.toList = t176.toList then (if t174 = t177 then (if t175 = t178 then ((ravelinlaw4_same.f kj4 t179 t183).bind fun t191 => (if t191 = true then (some (t180 == t184)) else (some false))) else (some false)) else (some false)) else (some false)) else (some false)))) else (some false)))) = some r := H
          have A12 := Aside0.mk A120
          clear A120
          replace H := Option.bind_eq_some_iff.mp H
          obtain ⟨t187, A130, H⟩ := H
          replace H : ((ravelinref3_Sum.f kj4 a0).bind fun t188 => (if t187 = t188 then ((seal_Seal.f kj4 a0).bind fun t189 => ((ravelinref3_Seal.f kj4 a0).bind fun t190 => (if t189.toList = t190.toList then (if t173.toList = t176.toList then (if t174 = t177 then (if t175 = t178 then ((ravelinlaw4_same.f kj4 t179 t183).bind fun t191 => (if t191 = true then (some (t180 == t184)) else (some false))) else (some false)) else (some false)) else (some false)) else (some false)))) else (some false))) = some r := H
          have A13 := Aside0.mk A130
          clear A130
          replace H := Option.bind_eq_some_iff.mp H
          obtain ⟨t188, A140, H⟩ := H
          replace H : (if t187 = t188 then ((seal_Seal.f kj4 a0).bind fun t189 => ((ravelinref3_Seal.f kj4 a0).bind fun t190 => (if t189.toList = t190.toList then (if t173.toList = t176.toList then (if t174 = t177 then (if t175 = t178 then ((ravelinlaw4_same.f kj4 t179 t183).bind fun t191 => (if t191 = true then (some (t180 == t184)) else (some false))) else (some false)) else (some false)) else (some false)) else (some false)))) else (some false)) = some r := H
          have A14 := Aside0.mk A140
          clear A140
          by_cases c15 : t187 = t188
          · rw [if_pos c15] at H
            have c15b0 : (t187 == t188) = true := beq_iff_eq.mpr c15
            have c15b1 : (t187 != t188) = false := bne_eq_false_iff_eq.mpr c15
            clear c15
            replace H := Option.bind_eq_some_iff.mp H
            obtain ⟨t189, A160, H⟩ := H
            replace H : ((ravelinref3_Seal.f kj4 a0).bind fun t190 => (if t189.toList = t190.toList then (if t173.toList = t176.toList then (if t174 = t177 then (if t175 = t178 then ((ravelinlaw4_same.f kj4 t179 t183).bind fun t191 => (if t191 = true then (some (t180 == t184)) else (some false))) else (some false)) else (some false)) else (some false)) else (some false))) = some r := H
            have A16 := Aside0.mk A160
            clear A160
            replace H := Option.bind_eq_some_iff.mp H
            obtain ⟨t190, A170, H⟩ := H
            replace H : (if t189.toList = t190.toList then (if t173.toList = t176.toList then (if t174 = t177 then (if t175 = t178 then ((ravelinlaw4_same.f kj4 t179 t183).bind fun t191 => (if t191 = true then (some (t180 == t184)) else (some false))) else (some false)) else (some false)) else (some false)) else (some false)) = some r := H
            have A17 := Aside0.mk A170
            clear A170
            by_cases c18 : t189.toList = t190.toList
            · rw [if_pos c18] at H
              have c18b0 : (t189.toList == t190.toList) = true := beq_iff_eq.mpr c18
              have c18b1 : (t189.toList != t190.toList) = false := bne_eq_false_iff_eq.mpr c18
              clear c18
              by_cases c19 : t173.toList = t176.toList
              · rw [if_pos c19] at H
                have c19b0 : (t173.toList == t176.toList) = true := beq_iff_eq.mpr c19
                have c19b1 : (t173.toList != t176.toList) = false := bne_eq_false_iff_eq.mpr c19
                clear c19
                by_cases c20 : t174 = t177
                · rw [if_pos c20] at H
                  have c20b0 : (t174 == t177) = true := beq_iff_eq.mpr c20
                  have c20b1 : (t174 != t177) = false := bne_eq_false_iff_eq.mpr c20
                  clear c20
                  by_cases c21 : t175 = t178
                  · rw [if_pos c21] at H
                    have c21b0 : (t175 == t178) = true := beq_iff_eq.mpr c21
                    have c21b1 : (t175 != t178) = false := bne_eq_false_iff_eq.mpr c21
                    clear c21
                    replace H := Option.bind_eq_some_iff.mp H
                    obtain ⟨t191, A220, H⟩ := H
                    replace H : (if t191 = true then (some (t180 == t184)) else (some false)) = some r := H
                    have A22 := Aside0.mk A220
                    clear A220
                    by_cases c23 : t191 = true
                    · subst c23
                      have H1 : (some (t180 == t184)) = some r := by rw [if_pos rfl] at H; exact H
                      clear H
                      have H := H1
                      clear H1
                      obtain rfl := Option.some.inj H
                      go_wp2_with (first | ((with_reducible refine gate_callee (f := 8) rfl ?_); refine goesL_ (some 27) rfl rfl Try.func8 (by kernel_rfl) rfl #[.string a1] rfl (by (try simp only [List.map_toArray, List.map_cons, List.map_nil]); first | done | rfl | (simp only [List.length_drop, List.length_take]; rfl)) ?_; (with_reducible refine (seal_Open.calls kj4 a1 t173 t174 t175 _ A9.out).mono ?_); rintro e w24 ⟨rfl, hb⟩; refine ⟨_, rfl, ?_⟩; have n0_ := Aside0.mk (below_step (by repeat (first | (with_reducible first | exact HB.out | apply below_alloc | apply pw_below_drewN | apply below_drew1) | exact HB.out)) hb); clear HB; have HB := n0_; clear n0_; (try clear hb); (try clear hb2); (try clear hk); (try clear hi)) | ((with_reducible refine gate_callee (f := 9) rfl ?_); refine goesL_ (some 33) rfl rfl Try.func9 (by kernel_rfl) rfl #[.string a1] rfl (by (try simp only [List.map_toArray, List.map_cons, List.map_nil]); first | done | rfl | (simp only [List.length_drop, List.length_take]; rfl)) ?_; (with_reducible refine (ravelinref3_Open.calls kj4 a1 t176 t177 t178 _ A10.out).mono ?_); rintro e w25 ⟨rfl, hb⟩; refine ⟨_, rfl, ?_⟩; have n0_ := Aside0.mk (below_step (by repeat (first | (with_reducible first | exact HB.out | apply below_alloc | apply pw_below_drewN | apply below_drew1) | exact HB.out)) hb); clear HB; have HB := n0_; clear n0_; (try clear hb); (try clear hb2); (try clear hk); (try clear hi)) | ((with_reducible refine gate_callee (f := 10) rfl ?_); refine goesL_ (some 39) rfl rfl Try.func10 (by kernel_rfl) rfl #[.string a1] rfl (by (try simp only [List.map_toArray, List.map_cons, List.map_nil]); first | done | rfl | (simp only [List.length_drop, List.length_take]; rfl)) ?_; (with_reducible refine (seal_All.calls kj4 a1 t179 t180 _ A11.out).mono ?_); rintro e w26 ⟨v181, rfl, ho0, hb⟩; refine ⟨_, rfl, ?_⟩; have n0_ := Aside0.mk (Kd.R_lower ho0 (below_size (by repeat (first | (with_reducible first | exact HB.out | apply below_alloc | apply pw_below_drewN | apply below_drew1) | exact HB.out)))); have n1_ := Aside0.mk (below_step (by repeat (first | (with_reducible first | exact HB.out | apply below_alloc | apply pw_below_drewN | apply below_drew1) | exact HB.out)) hb); clear HB; have HO182 := n0_; have HB := n1_; clear n0_ n1_; (try clear hb); (try clear hb2); (try clear hk); (try clear hi); (try clear ho0)) | ((with_reducible refine gate_callee (f := 11) rfl ?_); refine goesL_ (some 44) rfl rfl Try.func11 (by kernel_rfl) rfl #[.string a1] rfl (by (try simp only [List.map_toArray, List.map_cons, List.map_nil]); first | done | rfl | (simp only [List.length_drop, List.length_take]; rfl)) ?_; (with_reducible refine (ravelinref3_All.calls kj4 a1 t183 t184 _ A12.out).mono ?_); rintro e w27 ⟨v185, rfl, ho0, hb⟩; refine ⟨_, rfl, ?_⟩; have n0_ := Aside0.mk (Kd.R_elder' (by (with_reducible repeat (first | apply Kd.R_alloc | apply Kd.R_drewN | apply Kd.R_drew)); exact HO182.out) (Kd.R_base ho0) hb); have n1_ := Aside0.mk (Kd.R_lower (Kd.R_new' ho0 (Kd.R_lt (by (with_reducible repeat (first | apply Kd.R_alloc | apply Kd.R_drewN | apply Kd.R_drew)); exact HO182.out))) (below_size (by repeat (first | (with_reducible first | exact HB.out | apply below_alloc | apply pw_below_drewN | apply below_drew1) | exact HB.out)))); have n2_ := Aside0.mk (below_step (by repeat (first | (with_reducible first | exact HB.out | apply below_alloc | apply pw_below_drewN | apply below_drew1) | exact HB.out)) hb); clear HO182; clear HB; have HO182 := n0_; have HO186 := n1_; have HB := n2_; clear n0_ n1_ n2_; (try clear hb); (try clear hb2); (try clear hk); (try clear hi); (try clear ho0)) | ((with_reducible refine gate_callee (f := 12) rfl ?_); refine goesL_ (some 48) rfl rfl Try.func12 (by kernel_rfl) rfl #[.string a0] rfl (by (try simp only [List.map_toArray, List.map_cons, List.map_nil]); first | done | rfl | (simp only [List.length_drop, List.length_take]; rfl)) ?_; (with_reducible refine (seal_Sum.calls kj4 a0 t187 _ A13.out).mono ?_); rintro e w' ⟨rfl, ⟨nd, rfl⟩⟩; refine ⟨_, rfl, ?_⟩) | ((with_reducible refine gate_callee (f := 13) rfl ?_); refine goesL_ (some 50) rfl rfl Try.func13 (by kernel_rfl) rfl #[.string a0] rfl (by (try simp only [List.map_toArray, List.map_cons, List.map_nil]); first | done | rfl | (simp only [List.length_drop, List.length_take]; rfl)) ?_; (with_reducible refine (ravelinref3_Sum.calls kj4 a0 t188 _ A14.out).mono ?_); rintro e w' ⟨rfl, ⟨nd, rfl⟩⟩; refine ⟨_, rfl, ?_⟩) | (go_at_call 14; (with_reducible refine (seal_Seal.calls kj4 a0 t189 _ A16.out).mono ?_); rintro e w28 ⟨rfl, hb⟩; have n0_ := Aside0.mk (Kd.R_below (by (with_reducible repeat (first | apply Kd.R_alloc | apply Kd.R_drewN | apply Kd.R_drew)); exact HO182.out) hb); have n1_ := Aside0.mk (Kd.R_below (by (with_reducible repeat (first | apply Kd.R_alloc | apply Kd.R_drewN | apply Kd.R_drew)); exact HO186.out) hb); have n2_ := Aside0.mk (below_step (by repeat (first | (with_reducible first | exact HB.out | apply below_alloc | apply pw_below_drewN | apply below_drew1) | exact HB.out)) hb); clear HO182; clear HO186; clear HB; have HO182 := n0_; have HO186 := n1_; have HB := n2_; clear n0_ n1_ n2_; (try clear hb); (try clear hb2); (try clear hk); (try clear hi)) | (go_at_call 15; (with_reducible refine (ravelinref3_Seal.calls kj4 a0 t190 _ A17.out).mono ?_); rintro e w29 ⟨rfl, hb⟩; have n0_ := Aside0.mk (Kd.R_below (by (with_reducible repeat (first | apply Kd.R_alloc | apply Kd.R_drewN | apply Kd.R_drew)); exact HO182.out) hb); have n1_ := Aside0.mk (Kd.R_below (by (with_reducible repeat (first | apply Kd.R_alloc | apply Kd.R_drewN | apply Kd.R_drew)); exact HO186.out) hb); have n2_ := Aside0.mk (below_step (by repeat (first | (with_reducible first | exact HB.out | apply below_alloc | apply pw_below_drewN | apply below_drew1) | exact HB.out)) hb); clear HO182; clear HO186; clear HB; have HO182 := n0_; have HO186 := n1_; have HB := n2_; clear n0_ n1_ n2_; (try clear hb); (try clear hb2); (try clear hk); (try clear hi); obtain ⟨Ao30, co30, eo30⟩ := Kd.R_slice HO182.out; subst eo30; obtain ⟨Ao31, co31, eo31⟩ := Kd.R_slice HO186.out; subst eo31) | (go_at_call 16; (with_reducible refine (ravelinlaw4_same.calls kj4 _ _ t179 _ _ t183 true _ ?side1 ?side2 ?side3 ?side4 A22.out).mono ?_); (case side1 => repeat (first | exact (Kd.R_reads' HO182.out).2.2 | (with_reducible refine Kd.C_alloc ?_ _) | (with_reducible refine Kd.C_drewN ?_ _) | (with_reducible refine Kd.C_drew ?_))); (case side2 => exact (Kd.R_reads' HO182.out).2.1); (case side3 => repeat (first | exact (Kd.R_reads' HO186.out).2.2 | (with_reducible refine Kd.C_alloc ?_ _) | (with_reducible refine Kd.C_drewN ?_ _) | (with_reducible refine Kd.C_drew ?_))); (case side4 => exact (Kd.R_reads' HO186.out).2.1); rintro e w' ⟨rfl, ⟨nd, rfl⟩⟩))
                      go_ret
                      exact ⟨by first | rfl | (simp [errW_none, errW_some] <;> rfl) | (simp [*, errW_none, errW_some] <;> rfl), by repeat (first | (with_reducible first | exact HB.out | apply below_alloc | apply pw_below_drewN | apply below_drew1) | exact HB.out)⟩
                    · replace c23 := Bool.eq_false_iff.mpr c23
                      subst c23
                      have H1 : (some false) = some r := by rw [if_neg (show ¬ (false = true) by decide)] at H; exact H
                      clear H
                      have H := H1
                      clear H1
                      exact absurd ((Option.some.inj H).trans HR_.out) (by decide)
                  · rw [if_neg c21] at H
                    have c21b0 : (t175 == t178) = false := beq_eq_false_iff_ne.mpr c21
                    have c21b1 : (t175 != t178) = true := bne_iff_ne.mpr c21
                    exact absurd ((Option.some.inj H).trans HR_.out) (by decide)
                · rw [if_neg c20] at H
                  have c20b0 : (t174 == t177) = false := beq_eq_false_iff_ne.mpr c20
                  have c20b1 : (t174 != t177) = true := bne_iff_ne.mpr c20
                  exact absurd ((Option.some.inj H).trans HR_.out) (by decide)
              · rw [if_neg c19] at H
                have c19b0 : (t173.toList == t176.toList) = false := beq_eq_false_iff_ne.mpr c19
                have c19b1 : (t173.toList != t176.toList) = true := bne_iff_ne.mpr c19
                exact absurd ((Option.some.inj H).trans HR_.out) (by decide)
            · rw [if_neg c18] at H
              have c18b0 : (t189.toList == t190.toList) = false := beq_eq_false_iff_ne.mpr c18
              have c18b1 : (t189.toList != t190.toList) = true := bne_iff_ne.mpr c18
              exact absurd ((Option.some.inj H).trans HR_.out) (by decide)
          · rw [if_neg c15] at H
            have c15b0 : (t187 == t188) = false := beq_eq_false_iff_ne.mpr c15
            have c15b1 : (t187 != t188) = true := bne_iff_ne.mpr c15
            exact absurd ((Option.some.inj H).trans HR_.out) (by decide)
  · replace c4 := Bool.eq_false_iff.mpr c4
    subst c4
    have H1 : (some false) = some r := by rw [if_neg (show ¬ (false = true) by decide)] at H; exact H
    clear H
    have H := H1
    clear H1
    exact absurd ((Option.some.inj H).trans HR_.out) (by decide)

/-- THE ONE PURE STATEMENT of ravelinlaw4_SealTells: yours. -/
def ravelinlaw4_SealTells.Pure : Prop := ∀ (a0 : ByteArray) (a1 : ByteArray), a0.size ≤ 140737488351232 → a1.size ≤ 140737488351232 → ∃ k, ravelinlaw4_SealTells.f k a0 a1 = some true
theorem ravelinlaw4_SealTells.walk (P : ravelinlaw4_SealTells.Pure) (a0 : ByteArray) (a1 : ByteArray) (w : World) (w0 : a0.size ≤ 140737488351232) (w1 : a1.size ≤ 140737488351232) :
    Calls Try.prog 3 #[.string a0, .string a1] w fun e w' => e = .returned (.bool true) ∧ Below w.heap.size w w' := by
  obtain ⟨k, h⟩ := P a0 a1 w0 w1
  refine (ravelinlaw4_SealTells.calls k a0 a1 true w h rfl).mono ?_
  rintro e w' ⟨rfl, hd⟩
  exact ⟨rfl, hd⟩

/-! ### ravelinlaw4_SealSpoilt: function 4 -/
def ravelinlaw4_SealSpoilt.j0 : Nat → ByteArray → Int → Int → ByteArray → Bool → Option (Bool)
  | 0, _, _, _, _, _ => none
  | k + 1, x0, x1, x2, x7, x49 => if x49 = true then (some false) else (if (x7.size : Int) = 0 then (none) else (if 0 ≤ (Int.tmod (wrap64 (x1)) (x7.size : Int)) then (if (Int.tmod (wrap64 (x1)) (x7.size : Int)) < (x7.size : Int) then ((seal_Open.f k (strOfNums ((bytesOf x7).set ((Int.tmod (wrap64 (x1)) (x7.size : Int)) : Int).toNat (Go.bits .xor .u8 (rd (bytesOf x7) (Int.tmod (wrap64 (x1)) (x7.size : Int))) x2)))).bind fun bt200 => (if (Int.tmod (wrap64 (x1)) (x7.size : Int)) ≤ (x7.size : Int) then ((seal_Open.f k (x7.extract 0 ((Int.tmod (wrap64 (x1)) (x7.size : Int)) : Int).toNat)).bind fun bt203 => (if bt200.2.2 = 0 then (if ((x2 == 0) == (bt200.1.toList == x0.toList)) = true then (some (bt203.2.2 == 12)) else (some false)) else (if ((x2 == 0) == false) = true then (if bt200.2.2 = 13 then (some (bt203.2.2 == 12)) else (if bt200.2.2 = 12 then (some (bt203.2.2 == 12)) else (some false))) else (some false)))) else (none))) else (none)) else (none)))
def ravelinlaw4_SealSpoilt.f (k : Nat) (a0 : ByteArray) (a1 : Int) (a2 : Int) : Option (Bool) := (ravelinlaw4_known.f k).bind fun t192 => (if t192 = true then (if (a0.size : Int) > 600 then (some true) else ((seal_Seal.f k a0).bind fun t193 => ((seal_Open.f k t193).bind fun bt194 => (if bt194.2.2 = 0 then (if bt194.1.toList = a0.toList then (if bt194.2.1 = (t193.size : Int) then (ravelinlaw4_SealSpoilt.j0 k a0 a1 a2 t193 (decide ((t193.size : Int) < 5))) else (ravelinlaw4_SealSpoilt.j0 k a0 a1 a2 t193 true)) else (ravelinlaw4_SealSpoilt.j0 k a0 a1 a2 t193 true)) else (ravelinlaw4_SealSpoilt.j0 k a0 a1 a2 t193 true))))) else (some false))
theorem ravelinlaw4_SealSpoilt.mono_l : ∀ k, (∀ y0 y1 y2 y3 y4, LeO (ravelinlaw4_SealSpoilt.j0 k y0 y1 y2 y3 y4) (ravelinlaw4_SealSpoilt.j0 (k + 1) y0 y1 y2 y3 y4))
  | 0 => fun _ _ _ _ _ r h => by simp [ravelinlaw4_SealSpoilt.j0] at h
  | k + 1 => by
    have ih0 := ravelinlaw4_SealSpoilt.mono_l k
    · intro y0 y1 y2 y3 y4
      unfold ravelinlaw4_SealSpoilt.j0
      repeat' first
      | (with_reducible exact ih0 _ _ _ _ _)
      | (with_reducible exact ravelinlaw4_known.mono _)
      | (with_reducible exact seal_Open.mono _ _)
      | (with_reducible exact seal_Seal.mono _ _)
      | (with_reducible exact LeO.refl _)
      | (with_reducible exact LeO.none _)
      | (with_reducible refine LeO.ite ?_ ?_)
      | (with_reducible refine LeO.bind ?_ (fun _ => ?_))
      | exact ih0 _ _ _ _ _
      | exact ravelinlaw4_known.mono _
      | exact seal_Open.mono _ _
      | exact seal_Seal.mono _ _
      | exact LeO.none _
      | refine LeO.ite ?_ ?_
      | refine LeO.bind ?_ (fun _ => ?_)
theorem ravelinlaw4_SealSpoilt.mono : ∀ a0 a1 a2 k, LeO (ravelinlaw4_SealSpoilt.f k a0 a1 a2) (ravelinlaw4_SealSpoilt.f (k + 1) a0 a1 a2) := by
  intro a0 a1 a2 k
  have ih0 := ravelinlaw4_SealSpoilt.mono_l k
  unfold ravelinlaw4_SealSpoilt.f
  repeat' first
      | (with_reducible exact ih0 _ _ _ _ _)
      | (with_reducible exact ravelinlaw4_known.mono _)
      | (with_reducible exact seal_Open.mono _ _)
      | (with_reducible exact seal_Seal.mono _ _)
      | (with_reducible exact LeO.refl _)
      | (with_reducible exact LeO.none _)
      | (with_reducible refine LeO.ite ?_ ?_)
      | (with_reducible refine LeO.bind ?_ (fun _ => ?_))
      | exact ih0 _ _ _ _ _
      | exact ravelinlaw4_known.mono _
      | exact seal_Open.mono _ _
      | exact seal_Seal.mono _ _
      | exact LeO.none _
      | refine LeO.ite ?_ ?_
      | refine LeO.bind ?_ (fun _ => ?_)
set_option maxHeartbeats 8000000 in
set_option maxRecDepth 100000 in
theorem ravelinlaw4_SealSpoilt.calls (k : Nat) (a0 : ByteArray) (a1 : Int) (a2 : Int) (r : Bool) (w : World) (h : ravelinlaw4_SealSpoilt.f k a0 a1 a2 = some r) (hr_ : r = true) :
    Calls Try.prog 4 #[.string a0, .int .u16 a1, .int .u8 a2] w fun e w' => e = .returned (.bool r) ∧ Below w.heap.size w w' := by
  have HB := Aside0.mk (Below.refl w.heap.size w)
  have H : ((ravelinlaw4_known.f k).bind fun t192 => (if t192 = true then (if (a0.size : Int) > 600 then (some true) else ((seal_Seal.f k a0).bind fun t193 => ((seal_Open.f k t193).bind fun bt194 => (if bt194.2.2 = 0 then (if bt194.1.toList = a0.toList then (if bt194.2.1 = (t193.size : Int) then (ravelinlaw4_SealSpoilt.j0 k a0 a1 a2 t193 (decide ((t193.size : Int) < 5))) else (ravelinlaw4_SealSpoilt.j0 k a0 a1 a2 t193 true)) else (ravelinlaw4_SealSpoilt.j0 k a0 a1 a2 t193 true)) else (ravelinlaw4_SealSpoilt.j0 k a0 a1 a2 t193 true))))) else (some false))) = some r := h
  clear h
  have HR_ := Aside0.mk hr_
  clear hr_
  replace H := Option.bind_eq_some_iff.mp H
  obtain ⟨t192, A40, H⟩ := H
  replace H : (if t192 = true then (if (a0.size : Int) > 600 then (some true) else ((seal_Seal.f k a0).bind fun t193 => ((seal_Open.f k t193).bind fun bt194 => (if bt194.2.2 = 0 then (if bt194.1.toList = a0.toList then (if bt194.2.1 = (t193.size : Int) then (ravelinlaw4_SealSpoilt.j0 k a0 a1 a2 t193 (decide ((t193.size : Int) < 5))) else (ravelinlaw4_SealSpoilt.j0 k a0 a1 a2 t193 true)) else (ravelinlaw4_SealSpoilt.j0 k a0 a1 a2 t193 true)) else (ravelinlaw4_SealSpoilt.j0 k a0 a1 a2 t193 true))))) else (some false)) = some r := H
  have A4 := Aside0.mk A40
  clear A40
  by_cases c5 : t192 = true
  · subst c5
    have H1 : (if (a0.size : Int) > 600 then (some true) else ((seal_Seal.f k a0).bind fun t193 => ((seal_Open.f k t193).bind fun bt194 => (if bt194.2.2 = 0 then (if bt194.1.toList = a0.toList then (if bt194.2.1 = (t193.size : Int) then (ravelinlaw4_SealSpoilt.j0 k a0 a1 a2 t193 (decide ((t193.size : Int) < 5))) else (ravelinlaw4_SealSpoilt.j0 k a0 a1 a2 t193 true)) else (ravelinlaw4_SealSpoilt.j0 k a0 a1 a2 t193 true)) else (ravelinlaw4_SealSpoilt.j0 k a0 a1 a2 t193 true))))) = some r := by rw [if_pos rfl] at H; exact H
    clear H
    have H := H1
    clear H1
    by_cases c6 : (a0.size : Int) > 600
    · rw [if_pos c6] at H
      have c6b0 : decide (600 < (a0.size : Int)) = true := decide_eq_true c6
      have c6b1 : decide (600 < a0.size) = true := decide_eq_true (by omega)
      clear c6
      obtain rfl := Option.some.inj H
      go_enter Try.func4, Try.ntmps4
      go_wp2_with (first | ((with_reducible refine gate_callee (f := 7) rfl ?_); refine goesL_ (some 19) rfl rfl Try.func7 (by kernel_rfl) rfl #[] rfl (by (try simp only [List.map_toArray, List.map_cons, List.map_nil]); first | done | rfl | (simp only [List.length_drop, List.length_take]; rfl)) ?_; (with_reducible refine (ravelinlaw4_known.calls k  true _ A4.out (by first | rfl | assumption | exact of_decide_eq_true (by assumption))).mono ?_); rintro e w7 ⟨rfl, hb⟩; refine ⟨_, rfl, ?_⟩; have n0_ := Aside0.mk (below_step (by repeat (first | (with_reducible first | exact HB.out | apply below_alloc | apply pw_below_drewN | apply below_drew1) | exact HB.out)) hb); clear HB; have HB := n0_; clear n0_; (try clear hb); (try clear hb2); (try clear hk); (try clear hi)))
      go_ret
      exact ⟨by first | rfl | (simp [errW_none, errW_some] <;> rfl) | (simp [*, errW_none, errW_some] <;> rfl), by repeat (first | (with_reducible first | exact HB.out | apply below_alloc | apply pw_below_drewN | apply below_drew1) | exact HB.out)⟩
    · rw [if_neg c6] at H
      have c6b0 : decide (600 < (a0.size : Int)) = false := decide_eq_false c6
      have c6b1 : decide (600 < a0.size) = false := decide_eq_false (by omega)
      clear c6
      replace H := Option.bind_eq_some_iff.mp H
      obtain ⟨t193, A80, H⟩ := H
      replace H : ((seal_Open.f k t193).bind fun bt194 => (if bt194.2.2 = 0 then (if bt194.1.toList = a0.toList then (if bt194.2.1 = (t193.size : Int) then (ravelinlaw4_SealSpoilt.j0 k a0 a1 a2 t193 (decide ((t193.size : Int) < 5))) else (ravelinlaw4_SealSpoilt.j0 k a0 a1 a2 t193 true)) else (ravelinlaw4_SealSpoilt.j0 k a0 a1 a2 t193 true)) else (ravelinlaw4_SealSpoilt.j0 k a0 a1 a2 t193 true))) = some r := H
      have A8 := Aside0.mk A80
      clear A80
      replace H := Option.bind_eq_some_iff.mp H
      obtain ⟨⟨t194, t195, t196⟩, A90, H⟩ := H
      replace H : (if t196 = 0 then (if t194.toList = a0.toList then (if t195 = (t193.size : Int) then (ravelinlaw4_SealSpoilt.j0 k a0 a1 a2 t193 (decide ((t193.size : Int) < 5))) else (ravelinlaw4_SealSpoilt.j0 k a0 a1 a2 t193 true)) else (ravelinlaw4_SealSpoilt.j0 k a0 a1 a2 t193 true)) else (ravelinlaw4_SealSpoilt.j0 k a0 a1 a2 t193 true)) = some r := H
      have A9 := Aside0.mk A90
      clear A90
      have HC10 := Aside0.mk H
      clear H
      go_enter Try.func4, Try.ntmps4
      go_upto_region 7 with (first | ((with_reducible refine gate_callee (f := 7) rfl ?_); refine goesL_ (some 19) rfl rfl Try.func7 (by kernel_rfl) rfl #[] rfl (by (try simp only [List.map_toArray, List.map_cons, List.map_nil]); first | done | rfl | (simp only [List.length_drop, List.length_take]; rfl)) ?_; (with_reducible refine (ravelinlaw4_known.calls k  true _ A4.out (by first | rfl | assumption | exact of_decide_eq_true (by assumption))).mono ?_); rintro e w11 ⟨rfl, hb⟩; refine ⟨_, rfl, ?_⟩; have n0_ := Aside0.mk (below_step (by repeat (first | (with_reducible first | exact HB.out | apply below_alloc | apply pw_below_drewN | apply below_drew1) | exact HB.out)) hb); clear HB; have HB := n0_; clear n0_; (try clear hb); (try clear hb2); (try clear hk); (try clear hi)) | ((with_reducible refine gate_callee (f := 14) rfl ?_); refine goesL_ (some 25) rfl rfl Try.func14 (by kernel_rfl) rfl #[.string a0] rfl (by (try simp only [List.map_toArray, List.map_cons, List.map_nil]); first | done | rfl | (simp only [List.length_drop, List.length_take]; rfl)) ?_; (with_reducible refine (seal_Seal.calls k a0 t193 _ A8.out).mono ?_); rintro e w12 ⟨rfl, hb⟩; refine ⟨_, rfl, ?_⟩; have n0_ := Aside0.mk (below_step (by repeat (first | (with_reducible first | exact HB.out | apply below_alloc | apply pw_below_drewN | apply below_drew1) | exact HB.out)) hb); clear HB; have HB := n0_; clear n0_; (try clear hb); (try clear hb2); (try clear hk); (try clear hi)) | ((with_reducible refine gate_callee (f := 8) rfl ?_); refine goesL_ (some 28) rfl rfl Try.func8 (by kernel_rfl) rfl #[.string t193] rfl (by (try simp only [List.map_toArray, List.map_cons, List.map_nil]); first | done | rfl | (simp only [List.length_drop, List.length_take]; rfl)) ?_; (with_reducible refine (seal_Open.calls k t193 t194 t195 t196 _ A9.out).mono ?_); rintro e w13 ⟨rfl, hb⟩; refine ⟨_, rfl, ?_⟩; have n0_ := Aside0.mk (below_step (by repeat (first | (with_reducible first | exact HB.out | apply below_alloc | apply pw_below_drewN | apply below_drew1) | exact HB.out)) hb); clear HB; have HB := n0_; clear n0_; (try clear hb); (try clear hb2); (try clear hk); (try clear hi)))
      (try simp only [Act.put, List.setIfInBounds_toArray, List.set_cons_zero, List.set_cons_succ])
      go_cut [49] (fun v49 wc => ∃ (kq : Nat) (x49_9 : Bool), v49 = .bool x49_9 ∧ Aside0 (ravelinlaw4_SealSpoilt.j0 kq a0 a1 a2 t193 x49_9 = some r) ∧ Aside0 (kq ≤ k) ∧ Aside0 (Below w.heap.size w wc))
      case first =>
        have H := HC10.out
        clear HC10
        by_cases c14 : t196 = 0
        · rw [if_pos c14] at H
          have c14b0 : (t196 == 0) = true := beq_iff_eq.mpr c14
          have c14b1 : (t196 != 0) = false := bne_eq_false_iff_eq.mpr c14
          clear c14
          (first | rw [c14b0] | (simp only [i64_w, i32_w]; rw [c14b0]) | skip)
          by_cases c15 : t194.toList = a0.toList
          · rw [if_pos c15] at H
            have c15b0 : (t194.toList == a0.toList) = true := beq_iff_eq.mpr c15
            have c15b1 : (t194.toList != a0.toList) = false := bne_eq_false_iff_eq.mpr c15
            clear c15
            by_cases c16 : t195 = (t193.size : Int)
            · rw [if_pos c16] at H
              have c16b0 : (t195 == (t193.size : Int)) = true := beq_iff_eq.mpr c16
              have c16b1 : (t195 != (t193.size : Int)) = false := bne_eq_false_iff_eq.mpr c16
              clear c16
              have H' := Aside0.mk H
              clear H
              go_wp2
              go_meet
              case rel => exact ⟨_, (decide ((t193.size : Int) < 5)), (by first | rfl | (simp; done) | (simp [*]; done)), H', ⟨by first | omega | exact Nat.le_refl _⟩, ⟨by repeat (first | (with_reducible first | exact HB.out | apply below_alloc | apply pw_below_drewN | apply below_drew1) | exact HB.out)⟩⟩
            · rw [if_neg c16] at H
              have c16b0 : (t195 == (t193.size : Int)) = false := beq_eq_false_iff_ne.mpr c16
              have c16b1 : (t195 != (t193.size : Int)) = true := bne_iff_ne.mpr c16
              have H' := Aside0.mk H
              clear H
              go_wp2
              go_meet
              case rel => exact ⟨_, (true), (by first | rfl | (simp; done) | (simp [*]; done)), H', ⟨by first | omega | exact Nat.le_refl _⟩, ⟨by repeat (first | (with_reducible first | exact HB.out | apply below_alloc | apply pw_below_drewN | apply below_drew1) | exact HB.out)⟩⟩
          · rw [if_neg c15] at H
            have c15b0 : (t194.toList == a0.toList) = false := beq_eq_false_iff_ne.mpr c15
            have c15b1 : (t194.toList != a0.toList) = true := bne_iff_ne.mpr c15
            have H' := Aside0.mk H
            clear H
            go_wp2
            go_meet
            case rel => exact ⟨_, (true), (by first | rfl | (simp; done) | (simp [*]; done)), H', ⟨by first | omega | exact Nat.le_refl _⟩, ⟨by repeat (first | (with_reducible first | exact HB.out | apply below_alloc | apply pw_below_drewN | apply below_drew1) | exact HB.out)⟩⟩
        · rw [if_neg c14] at H
          have c14b0 : (t196 == 0) = false := beq_eq_false_iff_ne.mpr c14
          have c14b1 : (t196 != 0) = true := bne_iff_ne.mpr c14
          (first | rw [c14b0] | (simp only [i64_w, i32_w]; rw [c14b0]) | skip)
          have H' := Aside0.mk H
          clear H
          go_wp2
          go_meet
          case rel => exact ⟨_, (true), (by first | rfl | (simp; done) | (simp [*]; done)), H', ⟨by first | omega | exact Nat.le_refl _⟩, ⟨by repeat (first | (with_reducible first | exact HB.out | apply below_alloc | apply pw_below_drewN | apply below_drew1) | exact HB.out)⟩⟩
      case rest =>
        clear HC10
        try clear c1
        try clear p2
        try clear c4
        try clear c5
        try clear c6
        try clear c6b0
        try clear c6b1
        try clear c7
        try clear c8
        try clear c14
        try clear c14b0
        try clear c14b1
        try clear c15
        try clear c15b0
        try clear c15b1
        try clear c16
        try clear c16b0
        try clear c16b1
        obtain ⟨kq, x49_9, rfl, HA, HJ9, HB⟩ := hcut
        cases kq with
        | zero => exact absurd HA.out (by simp [ravelinlaw4_SealSpoilt.j0])
        | succ kj9 =>
          have H := HA.out
          clear HA
          simp only [ravelinlaw4_SealSpoilt.j0] at H
          by_cases c17 : x49_9 = true
          · subst c17
            have H1 : (some false) = some r := by rw [if_pos rfl] at H; exact H
            clear H
            have H := H1
            clear H1
            exact absurd ((Option.some.inj H).trans HR_.out) (by decide)
          · replace c17 := Bool.eq_false_iff.mpr c17
            subst c17
            have H1 : (if (t193.size : Int) = 0 then (none) else (if 0 ≤ (Int.tmod (wrap64 (a1)) (t193.size : Int)) then (if (Int.tmod (wrap64 (a1)) (t193.size : Int)) < (t193.size : Int) then ((seal_Open.f kj9 (strOfNums ((bytesOf t193).set ((Int.tmod (wrap64 (a1)) (t193.size : Int)) : Int).toNat (Go.bits .xor .u8 (rd (bytesOf t193) (Int.tmod (wrap64 (a1)) (t193.size : Int))) a2)))).bind fun bt200 => (if (Int.tmod (wrap64 (a1)) (t193.size : Int)) ≤ (t193.size : Int) then ((seal_Open.f kj9 (t193.extract 0 ((Int.tmod (wrap64 (a1)) (t193.size : Int)) : Int).toNat)).bind fun bt203 => (if bt200.2.2 = 0 then (if ((a2 == 0) == (bt200.1.toList == a0.toList)) = true then (some (bt203.2.2 == 12)) else (some false)) else (if ((a2 == 0) == false) = true then (if bt200.2.2 = 13 then (some (bt203.2.2 == 12)) else (if bt200.2.2 = 12 then (some (bt203.2.2 == 12)) else (some false))) else (some false)))) else (none))) else (none)) else (none))) = some r := by rw [if_neg (show ¬ (false = true) by decide)] at H; exact H
            clear H
            have H := H1
            clear H1
            by_cases c18 : (t193.size : Int) = 0
            · rw [if_pos c18] at H
              exact absurd H (by simp)
            · rw [if_neg c18] at H
              have c18b0 : ((t193.size : Int) == 0) = false := beq_eq_false_iff_ne.mpr c18
              have c18b1 : ((t193.size : Int) != 0) = true := bne_iff_ne.mpr c18
              obtain ⟨ji19, hji19⟩ : ∃ j_ : Int, (Int.tmod (wrap64 (a1)) (t193.size : Int)) = j_ := ⟨_, rfl⟩
              replace H : (if 0 ≤ (ji19) then (if (ji19) < (t193.size : Int) then ((seal_Open.f kj9 (strOfNums ((bytesOf t193).set ((ji19) : Int).toNat (Go.bits .xor .u8 (rd (bytesOf t193) (ji19)) a2)))).bind fun bt200 => (if (ji19) ≤ (t193.size : Int) then ((seal_Open.f kj9 (t193.extract 0 ((ji19) : Int).toNat)).bind fun bt203 => (if bt200.2.2 = 0 then (if ((a2 == 0) == (bt200.1.toList == a0.toList)) = true then (some (bt203.2.2 == 12)) else (some false)) else (if ((a2 == 0) == false) = true then (if bt200.2.2 = 13 then (some (bt203.2.2 == 12)) else (if bt200.2.2 = 12 then (some (bt203.2.2 == 12)) else (some false))) else (some false)))) else (none))) else (none)) else (none)) = some r := by first | (rw [hji19] at H; exact H) | (simp only [hji19] at H ⊢; exact H)
              by_cases c20 : 0 ≤ (ji19)
              · rw [if_pos c20] at H
                have c20b0 : decide (0 ≤ (ji19)) = true := decide_eq_true c20
                clear c20
                by_cases c21 : (ji19) < (t193.size : Int)
                · rw [if_pos c21] at H
                  have c21b0 : decide ((ji19) < (t193.size : Int)) = true := decide_eq_true c21
                  clear c21
                  replace H := Option.bind_eq_some_iff.mp H
                  obtain ⟨⟨t200, t201, t202⟩, A220, H⟩ := H
                  replace H : (if (ji19) ≤ (t193.size : Int) then ((seal_Open.f kj9 (t193.extract 0 ((ji19) : Int).toNat)).bind fun bt203 => (if t202 = 0 then (if ((a2 == 0) == (t200.toList == a0.toList)) = true then (some (bt203.2.2 == 12)) else (some false)) else (if ((a2 == 0) == false) = true then (if t202 = 13 then (some (bt203.2.2 == 12)) else (if t202 = 12 then (some (bt203.2.2 == 12)) else (some false))) else (some false)))) else (none)) = some r := H
                  have A22 := Aside0.mk A220
                  clear A220
                  have c23b0 := eq_true (of_decide_eq_true (by first | (with_reducible assumption) | assumption) : 0 ≤ (ji19))
                  by_cases c24 : (ji19) ≤ (t193.size : Int)
                  · rw [if_pos c24] at H
                    have c24b0 := eq_true c24
                    have c24b1 : decide ((ji19) ≤ (t193.size : Int)) = true := decide_eq_true c24
                    clear c24
                    replace H := Option.bind_eq_some_iff.mp H
                    obtain ⟨⟨t203, t204, t205⟩, A250, H⟩ := H
                    replace H : (if t202 = 0 then (if ((a2 == 0) == (t200.toList == a0.toList)) = true then (some (t205 == 12)) else (some false)) else (if ((a2 == 0) == false) = true then (if t202 = 13 then (some (t205 == 12)) else (if t202 = 12 then (some (t205 == 12)) else (some false))) else (some false))) = some r := H
                    have A25 := Aside0.mk A250
                    clear A250
                    by_cases c26 : t202 = 0
                    · rw [if_pos c26] at H
                      have c26b0 : (t202 == 0) = true := beq_iff_eq.mpr c26
                      have c26b1 : (t202 != 0) = false := bne_eq_false_iff_eq.mpr c26
                      clear c26
                      by_cases c27 : ((a2 == 0) == (t200.toList == a0.toList)) = true
                      · rw [if_pos c27] at H
                        have c27b0 : ((a2 == 0) == (t200.toList == a0.toList)) = true := c27
                        (try (have c27b1 : decide ((a2 == 0) = (t200.toList == a0.toList)) = true := by simpa using c27))
                        (try (have c27b2 : ((a2 == 0) == (t200.toList == a0.toList)) = true := by simpa using c27))
                        (try (have c27b3 : ((t200.toList == a0.toList)) = (a2 == 0) := by have h_ := c27; revert h_; generalize (a2 == 0) = u_; generalize (t200.toList == a0.toList) = v_; cases u_ <;> cases v_ <;> simp))
                        clear c27
                        obtain rfl := Option.some.inj H
                        go_wp2_with (first | ((with_reducible refine gate_dst (N := 56) rfl ?_); (try (refine gate_guard (by rfl) ?_; dsimp only)); refine conv_event (N := 56) (src := 9) (dst := 37) (e := 5) (x := .tmp 55) (s := t193) ?hg ?hd ?ho ?hx Try.underlying9 Try.underlying37 Try.underlying5 ?_; (case hd => rfl); (case hg => rfl); (case ho => rfl); (case hx => rfl); intro gy197 hg cy197 w28 hy hb; have n0_ := Aside0.mk (below_step (by repeat (first | (with_reducible first | exact HB.out | apply below_alloc | apply pw_below_drewN | apply below_drew1) | exact HB.out)) hb); have n1_ := Aside0.mk (hy); have n2_ := Aside0.mk ((by rw [hg]; exact (below_size (by repeat (first | (with_reducible first | exact HB.out | apply below_alloc | apply pw_below_drewN | apply below_drew1) | exact HB.out))) : w.heap.size ≤ gy197)); clear HB; have HB := n0_; have HY197 := n1_; have GY197 := n2_; clear n0_ n1_ n2_; clear hb hy hg; have PY198 := Aside0.mk (of_decide_eq_true (by first | (with_reducible assumption) | assumption) : 0 ≤ ((ji19) : Int)); have QY198 := Aside0.mk ((of_decide_eq_true (by first | (with_reducible assumption) | assumption)) : ((ji19) : Int) < (t193.size : Int)); have pz198 := eq_true PY198.out; have qz198 := eq_true QY198.out; have hcy198 := by_cell HY197.out ((ji19) : Int) PY198.out (by simp only [List.length_set, bytesOf_length]; exact QY198.out); have hfy198 := by_free HY197.out ((ji19) : Int) PY198.out (by simp only [List.length_set, bytesOf_length]; exact QY198.out); have PY199 := Aside0.mk (of_decide_eq_true (by first | (with_reducible assumption) | assumption) : 0 ≤ ((ji19) : Int)); have QY199 := Aside0.mk ((of_decide_eq_true (by first | (with_reducible assumption) | assumption)) : ((ji19) : Int) < (t193.size : Int)); have pz199 := eq_true PY199.out; have qz199 := eq_true QY199.out; have hcy199 := by_cell HY197.out ((ji19) : Int) PY199.out (by simp only [List.length_set, bytesOf_length]; exact QY199.out); have hfy199 := by_free HY197.out ((ji19) : Int) PY199.out (by simp only [List.length_set, bytesOf_length]; exact QY199.out)) | ((with_reducible refine gate_store (t := 5) (p := 65) rfl ?_); refine store_event (t := 5) (p := 65) (v := ?vo_w29) (w1 := (w28.setCell ⟨gy197, ((ji19) : Int).toNat, none⟩ (.int .u8 (Go.bits .xor .u8 (rd (bytesOf t193) (ji19)) a2)))) ?hg ?ho ?hn ?hr ?_; (case ho => rfl); (case hg => rfl); (case hn => rfl); (case hr => first | (go_simp; done) | (go_simp; rfl)); intro w29 hw; have n0_ := Aside0.mk ((by rw [hw]; exact below_set (by repeat (first | (with_reducible first | exact HB.out | apply below_alloc | apply pw_below_drewN | apply below_drew1) | exact HB.out)) GY197.out : Below w.heap.size w w29)); have n1_ := Aside0.mk ((by rw [hw]; exact by_set HY197.out ((ji19) : Int) PY199.out (by simp only [List.length_set, bytesOf_length]; exact QY199.out) (Go.bits .xor .u8 (rd (bytesOf t193) (ji19)) a2) : ByRow w29 gy197 5 ((bytesOf t193).set ((ji19) : Int).toNat (Go.bits .xor .u8 (rd (bytesOf t193) (ji19)) a2)))); clear HB; clear HY197; have HB := n0_; have HY197 := n1_; clear n0_ n1_; clear hw; have hzy30 := by_string (P := Try.prog) (src := 37) (dst := 9) HY197.out Try.underlying37 Try.underlying5 Try.underlying9 t193.size cy197 (by simp only [List.length_set, bytesOf_length])) | ((with_reducible refine gate_callee (f := 8) rfl ?_); refine goesL_ (some 69) rfl rfl Try.func8 (by kernel_rfl) rfl #[.string (strOfNums ((bytesOf t193).set ((ji19) : Int).toNat (Go.bits .xor .u8 (rd (bytesOf t193) (ji19)) a2)))] rfl (by (try simp only [List.map_toArray, List.map_cons, List.map_nil]); first | done | (simp only [hji19]; rfl) | rfl | (simp only [List.length_drop, List.length_take]; rfl)) ?_; (with_reducible refine (seal_Open.calls kj9 (strOfNums ((bytesOf t193).set ((ji19) : Int).toNat (Go.bits .xor .u8 (rd (bytesOf t193) (ji19)) a2))) t200 t201 t202 _ A22.out).mono ?_); rintro e w31 ⟨rfl, hb⟩; refine ⟨_, rfl, ?_⟩; have n0_ := Aside0.mk (below_step (by repeat (first | (with_reducible first | exact HB.out | apply below_alloc | apply pw_below_drewN | apply below_drew1) | exact HB.out)) hb); clear HB; have HB := n0_; clear n0_; (try clear hb); (try clear hb2); (try clear hk); (try clear hi)) | ((with_reducible refine gate_callee (f := 8) rfl ?_); refine goesL_ (some 77) rfl rfl Try.func8 (by kernel_rfl) rfl #[.string (t193.extract 0 ((ji19) : Int).toNat)] rfl (by (try simp only [List.map_toArray, List.map_cons, List.map_nil]); first | done | (simp only [hji19]; rfl) | rfl | (simp only [List.length_drop, List.length_take]; rfl)) ?_; (with_reducible refine (seal_Open.calls kj9 (t193.extract 0 ((ji19) : Int).toNat) t203 t204 t205 _ A25.out).mono ?_); rintro e w32 ⟨rfl, hb⟩; refine ⟨_, rfl, ?_⟩; have n0_ := Aside0.mk (below_step (by repeat (first | (with_reducible first | exact HB.out | apply below_alloc | apply pw_below_drewN | apply below_drew1) | exact HB.out)) hb); clear HB; have HB := n0_; clear n0_; (try clear hb); (try clear hb2); (try clear hk); (try clear hi)))
                        go_ret
                        exact ⟨by first | rfl | (simp [errW_none, errW_some] <;> rfl) | (simp only [← hji19]; first | rfl | (simp [errW_none, errW_some] <;> rfl)) | (simp [*, errW_none, errW_some] <;> rfl), by repeat (first | (with_reducible first | exact HB.out | apply below_alloc | apply pw_below_drewN | apply below_drew1) | exact HB.out)⟩
                      · rw [if_neg c27] at H
                        have c27b0 : ((a2 == 0) == (t200.toList == a0.toList)) = false := by simpa using c27
                        (try (have c27b1 : decide ((a2 == 0) = (t200.toList == a0.toList)) = false := by simpa using c27))
                        (try (have c27b2 : ((a2 == 0) == (t200.toList == a0.toList)) = false := by simpa using c27))
                        (try (have c27b3 : ¬ ((a2 == 0) = (t200.toList == a0.toList)) := by simpa using c27))
                        (try (have c27b4 : ((t200.toList == a0.toList)) = !(a2 == 0) := by have h_ := c27; revert h_; generalize (a2 == 0) = u_; generalize (t200.toList == a0.toList) = v_; cases u_ <;> cases v_ <;> simp))
                        clear c27
                        exact absurd ((Option.some.inj H).trans HR_.out) (by decide)
                    · rw [if_neg c26] at H
                      have c26b0 : (t202 == 0) = false := beq_eq_false_iff_ne.mpr c26
                      have c26b1 : (t202 != 0) = true := bne_iff_ne.mpr c26
                      by_cases c33 : ((a2 == 0) == false) = true
                      · rw [if_pos c33] at H
                        have c33b0 : ((a2 == 0) == false) = true := c33
                        (try (have c33b1 : decide ((a2 == 0) = false) = true := by simpa using c33))
                        (try (have c33b2 : ((a2 == 0) == false) = true := by simpa using c33))
                        (try (have c33b3 : (a2 == 0) = false := by simpa using c33))
                        clear c33
                        by_cases c34 : t202 = 13
                        · rw [if_pos c34] at H
                          have c34b0 : (t202 == 13) = true := beq_iff_eq.mpr c34
                          have c34b1 : (t202 != 13) = false := bne_eq_false_iff_eq.mpr c34
                          clear c34
                          obtain rfl := Option.some.inj H
                          go_wp2_with (first | ((with_reducible refine gate_dst (N := 56) rfl ?_); (try (refine gate_guard (by rfl) ?_; dsimp only)); refine conv_event (N := 56) (src := 9) (dst := 37) (e := 5) (x := .tmp 55) (s := t193) ?hg ?hd ?ho ?hx Try.underlying9 Try.underlying37 Try.underlying5 ?_; (case hd => rfl); (case hg => rfl); (case ho => rfl); (case hx => rfl); intro gy197 hg cy197 w35 hy hb; have n0_ := Aside0.mk (below_step (by repeat (first | (with_reducible first | exact HB.out | apply below_alloc | apply pw_below_drewN | apply below_drew1) | exact HB.out)) hb); have n1_ := Aside0.mk (hy); have n2_ := Aside0.mk ((by rw [hg]; exact (below_size (by repeat (first | (with_reducible first | exact HB.out | apply below_alloc | apply pw_below_drewN | apply below_drew1) | exact HB.out))) : w.heap.size ≤ gy197)); clear HB; have HB := n0_; have HY197 := n1_; have GY197 := n2_; clear n0_ n1_ n2_; clear hb hy hg; have PY198 := Aside0.mk (of_decide_eq_true (by first | (with_reducible assumption) | assumption) : 0 ≤ ((ji19) : Int)); have QY198 := Aside0.mk ((of_decide_eq_true (by first | (with_reducible assumption) | assumption)) : ((ji19) : Int) < (t193.size : Int)); have pz198 := eq_true PY198.out; have qz198 := eq_true QY198.out; have hcy198 := by_cell HY197.out ((ji19) : Int) PY198.out (by simp only [List.length_set, bytesOf_length]; exact QY198.out); have hfy198 := by_free HY197.out ((ji19) : Int) PY198.out (by simp only [List.length_set, bytesOf_length]; exact QY198.out); have PY199 := Aside0.mk (of_decide_eq_true (by first | (with_reducible assumption) | assumption) : 0 ≤ ((ji19) : Int)); have QY199 := Aside0.mk ((of_decide_eq_true (by first | (with_reducible assumption) | assumption)) : ((ji19) : Int) < (t193.size : Int)); have pz199 := eq_true PY199.out; have qz199 := eq_true QY199.out; have hcy199 := by_cell HY197.out ((ji19) : Int) PY199.out (by simp only [List.length_set, bytesOf_length]; exact QY199.out); have hfy199 := by_free HY197.out ((ji19) : Int) PY199.out (by simp only [List.length_set, bytesOf_length]; exact QY199.out)) | ((with_reducible refine gate_store (t := 5) (p := 65) rfl ?_); refine store_event (t := 5) (p := 65) (v := ?vo_w36) (w1 := (w35.setCell ⟨gy197, ((ji19) : Int).toNat, none⟩ (.int .u8 (Go.bits .xor .u8 (rd (bytesOf t193) (ji19)) a2)))) ?hg ?ho ?hn ?hr ?_; (case ho => rfl); (case hg => rfl); (case hn => rfl); (case hr => first | (go_simp; done) | (go_simp; rfl)); intro w36 hw; have n0_ := Aside0.mk ((by rw [hw]; exact below_set (by repeat (first | (with_reducible first | exact HB.out | apply below_alloc | apply pw_below_drewN | apply below_drew1) | exact HB.out)) GY197.out : Below w.heap.size w w36)); have n1_ := Aside0.mk ((by rw [hw]; exact by_set HY197.out ((ji19) : Int) PY199.out (by simp only [List.length_set, bytesOf_length]; exact QY199.out) (Go.bits .xor .u8 (rd (bytesOf t193) (ji19)) a2) : ByRow w36 gy197 5 ((bytesOf t193).set ((ji19) : Int).toNat (Go.bits .xor .u8 (rd (bytesOf t193) (ji19)) a2)))); clear HB; clear HY197; have HB := n0_; have HY197 := n1_; clear n0_ n1_; clear hw; have hzy37 := by_string (P := Try.prog) (src := 37) (dst := 9) HY197.out Try.underlying37 Try.underlying5 Try.underlying9 t193.size cy197 (by simp only [List.length_set, bytesOf_length])) | ((with_reducible refine gate_callee (f := 8) rfl ?_); refine goesL_ (some 69) rfl rfl Try.func8 (by kernel_rfl) rfl #[.string (strOfNums ((bytesOf t193).set ((ji19) : Int).toNat (Go.bits .xor .u8 (rd (bytesOf t193) (ji19)) a2)))] rfl (by (try simp only [List.map_toArray, List.map_cons, List.map_nil]); first | done | (simp only [hji19]; rfl) | rfl | (simp only [List.length_drop, List.length_take]; rfl)) ?_; (with_reducible refine (seal_Open.calls kj9 (strOfNums ((bytesOf t193).set ((ji19) : Int).toNat (Go.bits .xor .u8 (rd (bytesOf t193) (ji19)) a2))) t200 t201 t202 _ A22.out).mono ?_); rintro e w38 ⟨rfl, hb⟩; refine ⟨_, rfl, ?_⟩; have n0_ := Aside0.mk (below_step (by repeat (first | (with_reducible first | exact HB.out | apply below_alloc | apply pw_below_drewN | apply below_drew1) | exact HB.out)) hb); clear HB; have HB := n0_; clear n0_; (try clear hb); (try clear hb2); (try clear hk); (try clear hi)) | ((with_reducible refine gate_callee (f := 8) rfl ?_); refine goesL_ (some 77) rfl rfl Try.func8 (by kernel_rfl) rfl #[.string (t193.extract 0 ((ji19) : Int).toNat)] rfl (by (try simp only [List.map_toArray, List.map_cons, List.map_nil]); first | done | (simp only [hji19]; rfl) | rfl | (simp only [List.length_drop, List.length_take]; rfl)) ?_; (with_reducible refine (seal_Open.calls kj9 (t193.extract 0 ((ji19) : Int).toNat) t203 t204 t205 _ A25.out).mono ?_); rintro e w39 ⟨rfl, hb⟩; refine ⟨_, rfl, ?_⟩; have n0_ := Aside0.mk (below_step (by repeat (first | (with_reducible first | exact HB.out | apply below_alloc | apply pw_below_drewN | apply below_drew1) | exact HB.out)) hb); clear HB; have HB := n0_; clear n0_; (try clear hb); (try clear hb2); (try clear hk); (try clear hi)))
                          go_ret
                          exact ⟨by first | rfl | (simp [errW_none, errW_some] <;> rfl) | (simp only [← hji19]; first | rfl | (simp [errW_none, errW_some] <;> rfl)) | (simp [*, errW_none, errW_some] <;> rfl), by repeat (first | (with_reducible first | exact HB.out | apply below_alloc | apply pw_below_drewN | apply below_drew1) | exact HB.out)⟩
                        · rw [if_neg c34] at H
                          have c34b0 : (t202 == 13) = false := beq_eq_false_iff_ne.mpr c34
                          have c34b1 : (t202 != 13) = true := bne_iff_ne.mpr c34
                          by_cases c40 : t202 = 12
                          · rw [if_pos c40] at H
                            have c40b0 : (t202 == 12) = true := beq_iff_eq.mpr c40
                            have c40b1 : (t202 != 12) = false := bne_eq_false_iff_eq.mpr c40
                            clear c40
                            obtain rfl := Option.some.inj H
                            go_wp2_with (first | ((with_reducible refine gate_dst (N := 56) rfl ?_); (try (refine gate_guard (by rfl) ?_; dsimp only)); refine conv_event (N := 56) (src := 9) (dst := 37) (e := 5) (x := .tmp 55) (s := t193) ?hg ?hd ?ho ?hx Try.underlying9 Try.underlying37 Try.underlying5 ?_; (case hd => rfl); (case hg => rfl); (case ho => rfl); (case hx => rfl); intro gy197 hg cy197 w41 hy hb; have n0_ := Aside0.mk (below_step (by repeat (first | (with_reducible first | exact HB.out | apply below_alloc | apply pw_below_drewN | apply below_drew1) | exact HB.out)) hb); have n1_ := Aside0.mk (hy); have n2_ := Aside0.mk ((by rw [hg]; exact (below_size (by repeat (first | (with_reducible first | exact HB.out | apply below_alloc | apply pw_below_drewN | apply below_drew1) | exact HB.out))) : w.heap.size ≤ gy197)); clear HB; have HB := n0_; have HY197 := n1_; have GY197 := n2_; clear n0_ n1_ n2_; clear hb hy hg; have PY198 := Aside0.mk (of_decide_eq_true (by first | (with_reducible assumption) | assumption) : 0 ≤ ((ji19) : Int)); have QY198 := Aside0.mk ((of_decide_eq_true (by first | (with_reducible assumption) | assumption)) : ((ji19) : Int) < (t193.size : Int)); have pz198 := eq_true PY198.out; have qz198 := eq_true QY198.out; have hcy198 := by_cell HY197.out ((ji19) : Int) PY198.out (by simp only [List.length_set, bytesOf_length]; exact QY198.out); have hfy198 := by_free HY197.out ((ji19) : Int) PY198.out (by simp only [List.length_set, bytesOf_length]; exact QY198.out); have PY199 := Aside0.mk (of_decide_eq_true (by first | (with_reducible assumption) | assumption) : 0 ≤ ((ji19) : Int)); have QY199 := Aside0.mk ((of_decide_eq_true (by first | (with_reducible assumption) | assumption)) : ((ji19) : Int) < (t193.size : Int)); have pz199 := eq_true PY199.out; have qz199 := eq_true QY199.out; have hcy199 := by_cell HY197.out ((ji19) : Int) PY199.out (by simp only [List.length_set, bytesOf_length]; exact QY199.out); have hfy199 := by_free HY197.out ((ji19) : Int) PY199.out (by simp only [List.length_set, bytesOf_length]; exact QY199.out)) | ((with_reducible refine gate_store (t := 5) (p := 65) rfl ?_); refine store_event (t := 5) (p := 65) (v := ?vo_w42) (w1 := (w41.setCell ⟨gy197, ((ji19) : Int).toNat, none⟩ (.int .u8 (Go.bits .xor .u8 (rd (bytesOf t193) (ji19)) a2)))) ?hg ?ho ?hn ?hr ?_; (case ho => rfl); (case hg => rfl); (case hn => rfl); (case hr => first | (go_simp; done) | (go_simp; rfl)); intro w42 hw; have n0_ := Aside0.mk ((by rw [hw]; exact below_set (by repeat (first | (with_reducible first | exact HB.out | apply below_alloc | apply pw_below_drewN | apply below_drew1) | exact HB.out)) GY197.out : Below w.heap.size w w42)); have n1_ := Aside0.mk ((by rw [hw]; exact by_set HY197.out ((ji19) : Int) PY199.out (by simp only [List.length_set, bytesOf_length]; exact QY199.out) (Go.bits .xor .u8 (rd (bytesOf t193) (ji19)) a2) : ByRow w42 gy197 5 ((bytesOf t193).set ((ji19) : Int).toNat (Go.bits .xor .u8 (rd (bytesOf t193) (ji19)) a2)))); clear HB; clear HY197; have HB := n0_; have HY197 := n1_; clear n0_ n1_; clear hw; have hzy43 := by_string (P := Try.prog) (src := 37) (dst := 9) HY197.out Try.underlying37 Try.underlying5 Try.underlying9 t193.size cy197 (by simp only [List.length_set, bytesOf_length])) | ((with_reducible refine gate_callee (f := 8) rfl ?_); refine goesL_ (some 69) rfl rfl Try.func8 (by kernel_rfl) rfl #[.string (strOfNums ((bytesOf t193).set ((ji19) : Int).toNat (Go.bits .xor .u8 (rd (bytesOf t193) (ji19)) a2)))] rfl (by (try simp only [List.map_toArray, List.map_cons, List.map_nil]); first | done | (simp only [hji19]; rfl) | rfl | (simp only [List.length_drop, List.length_take]; rfl)) ?_; (with_reducible refine (seal_Open.calls kj9 (strOfNums ((bytesOf t193).set ((ji19) : Int).toNat (Go.bits .xor .u8 (rd (bytesOf t193) (ji19)) a2))) t200 t201 t202 _ A22.out).mono ?_); rintro e w44 ⟨rfl, hb⟩; refine ⟨_, rfl, ?_⟩; have n0_ := Aside0.mk (below_step (by repeat (first | (with_reducible first | exact HB.out | apply below_alloc | apply pw_below_drewN | apply below_drew1) | exact HB.out)) hb); clear HB; have HB := n0_; clear n0_; (try clear hb); (try clear hb2); (try clear hk); (try clear hi)) | ((with_reducible refine gate_callee (f := 8) rfl ?_); refine goesL_ (some 77) rfl rfl Try.func8 (by kernel_rfl) rfl #[.string (t193.extract 0 ((ji19) : Int).toNat)] rfl (by (try simp only [List.map_toArray, List.map_cons, List.map_nil]); first | done | (simp only [hji19]; rfl) | rfl | (simp only [List.length_drop, List.length_take]; rfl)) ?_; (with_reducible refine (seal_Open.calls kj9 (t193.extract 0 ((ji19) : Int).toNat) t203 t204 t205 _ A25.out).mono ?_); rintro e w45 ⟨rfl, hb⟩; refine ⟨_, rfl, ?_⟩; have n0_ := Aside0.mk (below_step (by repeat (first | (with_reducible first | exact HB.out | apply below_alloc | apply pw_below_drewN | apply below_drew1) | exact HB.out)) hb); clear HB; have HB := n0_; clear n0_; (try clear hb); (try clear hb2); (try clear hk); (try clear hi)))
                            go_ret
                            exact ⟨by first | rfl | (simp [errW_none, errW_some] <;> rfl) | (simp only [← hji19]; first | rfl | (simp [errW_none, errW_some] <;> rfl)) | (simp [*, errW_none, errW_some] <;> rfl), by repeat (first | (with_reducible first | exact HB.out | apply below_alloc | apply pw_below_drewN | apply below_drew1) | exact HB.out)⟩
                          · rw [if_neg c40] at H
                            have c40b0 : (t202 == 12) = false := beq_eq_false_iff_ne.mpr c40
                            have c40b1 : (t202 != 12) = true := bne_iff_ne.mpr c40
                            exact absurd ((Option.some.inj H).trans HR_.out) (by decide)
                      · rw [if_neg c33] at H
                        have c33b0 : ((a2 == 0) == false) = false := by simpa using c33
                        (try (have c33b1 : decide ((a2 == 0) = false) = false := by simpa using c33))
                        (try (have c33b2 : ((a2 == 0) == false) = false := by simpa using c33))
                        (try (have c33b3 : ¬ ((a2 == 0) = false) := by simpa using c33))
                        (try (have c33b4 : (a2 == 0) = true := by simpa using c33))
                        clear c33
                        exact absurd ((Option.some.inj H).trans HR_.out) (by decide)
                  · rw [if_neg c24] at H
                    exact absurd H (by simp)
                · rw [if_neg c21] at H
                  exact absurd H (by simp)
              · rw [if_neg c20] at H
                exact absurd H (by simp)
  · replace c5 := Bool.eq_false_iff.mpr c5
    subst c5
    have H1 : (some false) = some r := by rw [if_neg (show ¬ (false = true) by decide)] at H; exact H
    clear H
    have H := H1
    clear H1
    exact absurd ((Option.some.inj H).trans HR_.out) (by decide)

/-- THE ONE PURE STATEMENT of ravelinlaw4_SealSpoilt: yours. -/
def ravelinlaw4_SealSpoilt.Pure : Prop := ∀ (a0 : ByteArray) (a1 : Int) (a2 : Int), a0.size ≤ 140737488351232 → (Lit.int .u16 a1).wf = true → (Lit.int .u8 a2).wf = true → ∃ k, ravelinlaw4_SealSpoilt.f k a0 a1 a2 = some true
theorem ravelinlaw4_SealSpoilt.walk (P : ravelinlaw4_SealSpoilt.Pure) (a0 : ByteArray) (a1 : Int) (a2 : Int) (w : World) (w0 : a0.size ≤ 140737488351232) (w1 : (Lit.int .u16 a1).wf = true) (w2 : (Lit.int .u8 a2).wf = true) :
    Calls Try.prog 4 #[.string a0, .int .u16 a1, .int .u8 a2] w fun e w' => e = .returned (.bool true) ∧ Below w.heap.size w w' := by
  obtain ⟨k, h⟩ := P a0 a1 a2 w0 w1 w2
  refine (ravelinlaw4_SealSpoilt.calls k a0 a1 a2 true w h rfl).mono ?_
  rintro e w' ⟨rfl, hd⟩
  exact ⟨rfl, hd⟩

end Go.Proofs.Ythlndkbdonoefaa.P
