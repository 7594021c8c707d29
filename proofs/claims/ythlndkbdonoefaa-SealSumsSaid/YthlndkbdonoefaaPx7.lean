-- Printed by a changed copy of the kit's printer (wip/tools/ext.py); labels and more
import Derived.Test.YthlndkbdonoefaaPx0
import Derived.Test.YthlndkbdonoefaaPx1
import Derived.Test.YthlndkbdonoefaaPx4
import Derived.Test.YthlndkbdonoefaaPx5
import Derived.Test.YthlndkbdonoefaaPx6
namespace Go.Proofs.Ythlndkbdonoefaa.P
open Go.RowKit Go.Proofs.YthlndkbdonoefaaW.PrintWords Go.Proofs.YthlndkbdonoefaaW.PrintLast Go.Proofs.YthlndkbdonoefaaW.PrintMore
attribute [local go_sem] max2_int min2_int max_two min_two max_three min_three max_four min_four   -- for this text's walks alone
set_option linter.unusedVariables false
set_option linter.unusedSimpArgs false

/-! ### ravelinlaw4_known: function 7 -/
def ravelinlaw4_known.f (k : Nat)  : Option (Bool) := (seal_Seal.f k (⟨#[97, 98, 99]⟩ : ByteArray)).bind fun t129 => (if t129.size + 1 ≤ 9223372036854775807 then ((seal_Open.f k (t129 ++ (⟨#[120]⟩ : ByteArray))).bind fun bt130 => ((seal_Open.f k (⟨#[]⟩ : ByteArray)).bind fun bt133 => ((seal_Open.f k (⟨#[1, 0, 0, 0, 0, 120]⟩ : ByteArray)).bind fun bt136 => ((seal_Seal.f k (⟨#[97]⟩ : ByteArray)).bind fun t139 => ((seal_Seal.f k (⟨#[98]⟩ : ByteArray)).bind fun t140 => (if t139.size + t140.size ≤ 9223372036854775807 then (if (t139 ++ t140).size + 1 ≤ 9223372036854775807 then ((seal_All.f k ((t139 ++ t140) ++ (⟨#[122]⟩ : ByteArray))).bind fun bt141 => ((seal_Sum.f k (⟨#[]⟩ : ByteArray)).bind fun t145 => (if t145 = 1 then ((seal_Sum.f k (⟨#[97]⟩ : ByteArray)).bind fun t146 => (if t146 = 6422626 then (if bt130.2.2 = 0 then (if bt130.1.toList = ([97, 98, 99] : List UInt8) then (if bt130.2.1 = 9 then (if bt133.2.2 = 12 then (if bt136.2.2 = 13 then (if (bt141.1.length : Int) = 2 then (some (bt141.2 == 14)) else (some false)) else (some false)) else (some false)) else (some false)) else (some false)) else (some false)) else (some false))) else (some false)))) else (none)) else (none))))))) else (none))
theorem ravelinlaw4_known.mono : ∀ k, LeO (ravelinlaw4_known.f k ) (ravelinlaw4_known.f (k + 1) ) := by
  intro  k
  unfold ravelinlaw4_known.f
  repeat' first
      | (with_reducible exact seal_All.mono _ _)
      | (with_reducible exact seal_Open.mono _ _)
      | (with_reducible exact seal_Seal.mono _ _)
      | (with_reducible exact seal_Sum.mono _ _)
      | (with_reducible exact LeO.refl _)
      | (with_reducible exact LeO.none _)
      | (with_reducible refine LeO.ite ?_ ?_)
      | (with_reducible refine LeO.bind ?_ (fun _ => ?_))
      | exact seal_All.mono _ _
      | exact seal_Open.mono _ _
      | exact seal_Seal.mono _ _
      | exact seal_Sum.mono _ _
      | exact LeO.none _
      | refine LeO.ite ?_ ?_
      | refine LeO.bind ?_ (fun _ => ?_)
set_option maxHeartbeats 8000000 in
set_option maxRecDepth 100000 in
theorem ravelinlaw4_known.calls (k : Nat)  (r : Bool) (w : World) (h : ravelinlaw4_known.f k  = some r) (hr_ : r = true) :
    Calls Try.prog 7 #[] w fun e w' => e = .returned (.bool r) ∧ Below w.heap.size w w' := by
  have HB := Aside0.mk (Below.refl w.heap.size w)
  have H : ((seal_Seal.f k (⟨#[97, 98, 99]⟩ : ByteArray)).bind fun t129 => (if t129.size + 1 ≤ 9223372036854775807 then ((seal_Open.f k (t129 ++ (⟨#[120]⟩ : ByteArray))).bind fun bt130 => ((seal_Open.f k (⟨#[]⟩ : ByteArray)).bind fun bt133 => ((seal_Open.f k (⟨#[1, 0, 0, 0, 0, 120]⟩ : ByteArray)).bind fun bt136 => ((seal_Seal.f k (⟨#[97]⟩ : ByteArray)).bind fun t139 => ((seal_Seal.f k (⟨#[98]⟩ : ByteArray)).bind fun t140 => (if t139.size + t140.size ≤ 9223372036854775807 then (if (t139 ++ t140).size + 1 ≤ 9223372036854775807 then ((seal_All.f k ((t139 ++ t140) ++ (⟨#[122]⟩ : ByteArray))).bind fun bt141 => ((seal_Sum.f k (⟨#[]⟩ : ByteArray)).bind fun t145 => (if t145 = 1 then ((seal_Sum.f k (⟨#[97]⟩ : ByteArray)).bind fun t146 => (if t146 = 6422626 then (if bt130.2.2 = 0 then (if bt130.1.toList = ([97, 98, 99] : List UInt8) then (if bt130.2.1 = 9 then (if bt133.2.2 = 12 then (if bt136.2.2 = 13 then (if (bt141.1.length : Int) = 2 then (some (bt141.2 == 14)) else (some false)) else (some false)) else (some false)) else (some false)) else (some false)) else (some false)) else (some false))) else (some false)))) else (none)) else (none))))))) else (none))) = some r := h
  clear h
  have HR_ := Aside0.mk hr_
  clear hr_
  replace H := Option.bind_eq_some_iff.mp H
  obtain ⟨t129, A10, H⟩ := H
  replace H : (if t129.size + 1 ≤ 9223372036854775807 then ((seal_Open.f k (t129 ++ (⟨#[120]⟩ : ByteArray))).bind fun bt130 => ((seal_Open.f k (⟨#[]⟩ : ByteArray)).bind fun bt133 => ((seal_Open.f k (⟨#[1, 0, 0, 0, 0, 120]⟩ : ByteArray)).bind fun bt136 => ((seal_Seal.f k (⟨#[97]⟩ : ByteArray)).bind fun t139 => ((seal_Seal.f k (⟨#[98]⟩ : ByteArray)).bind fun t140 => (if t139.size + t140.size ≤ 9223372036854775807 then (if (t139 ++ t140).size + 1 ≤ 9223372036854775807 then ((seal_All.f k ((t139 ++ t140) ++ (⟨#[122]⟩ : ByteArray))).bind fun bt141 => ((seal_Sum.f k (⟨#[]⟩ : ByteArray)).bind fun t145 => (if t145 = 1 then ((seal_Sum.f k (⟨#[97]⟩ : ByteArray)).bind fun t146 => (if t146 = 6422626 then (if bt130.2.2 = 0 then (if bt130.1.toList = ([97, 98, 99] : List UInt8) then (if bt130.2.1 = 9 then (if bt133.2.2 = 12 then (if bt136.2.2 = 13 then (if (bt141.1.length : Int) = 2 then (some (bt141.2 == 14)) else (some false)) else (some false)) else (some false)) else (some false)) else (some false)) else (some false)) else (some false))) else (some false)))) else (none)) else (none))))))) else (none)) = some r := H
  have A1 := Aside0.mk A10
  clear A10
  by_cases c2 : t129.size + 1 ≤ 9223372036854775807
  · rw [if_pos c2] at H
    have c2b0 := eq_true c2
    have c2b1 : decide (t129.size + 1 ≤ 9223372036854775807) = true := decide_eq_true c2
    try have c2b2 : (9223372036854775807 < t129.size + 1) = False := eq_false (Nat.not_lt.2 c2)
    replace H := Option.bind_eq_some_iff.mp H
    obtain ⟨⟨t130, t131, t132⟩, A30, H⟩ := H
    replace H : ((seal_Open.f k (⟨#[]⟩ : ByteArray)).bind fun bt133 => ((seal_Open.f k (⟨#[1, 0, 0, 0, 0, 120]⟩ : ByteArray)).bind fun bt136 => ((seal_Seal.f k (⟨#[97]⟩ : ByteArray)).bind fun t139 => ((seal_Seal.f k (⟨#[98]⟩ : ByteArray)).bind fun t140 => (if t139.size + t140.size ≤ 9223372036854775807 then (if (t139 ++ t140).size + 1 ≤ 9223372036854775807 then ((seal_All.f k ((t139 ++ t140) ++ (⟨#[122]⟩ : ByteArray))).bind fun bt141 => ((seal_Sum.f k (⟨#[]⟩ : ByteArray)).bind fun t145 => (if t145 = 1 then ((seal_Sum.f k (⟨#[97]⟩ : ByteArray)).bind fun t146 => (if t146 = 6422626 then (if t132 = 0 then (if t130.toList = ([97, 98, 99] : List UInt8) then (if t131 = 9 then (if bt133.2.2 = 12 then (if bt136.2.2 = 13 then (if (bt141.1.length : Int) = 2 then (some (bt141.2 == 14)) else (some false)) else (some false)) else (some false)) else (some false)) else (some false)) else (some false)) else (some false))) else (some false)))) else (none)) else (none)))))) = some r := H
    have A3 := Aside0.mk A30
    clear A30
    replace H := Option.bind_eq_some_iff.mp H
    obtain ⟨⟨t133, t134, t135⟩, A40, H⟩ := H
    replace H : ((seal_Open.f k (⟨#[1, 0, 0, 0, 0, 120]⟩ : ByteArray)).bind fun bt136 => ((seal_Seal.f k (⟨#[97]⟩ : ByteArray)).bind fun t139 => ((seal_Seal.f k (⟨#[98]⟩ : ByteArray)).bind fun t140 => (if t139.size + t140.size ≤ 9223372036854775807 then (if (t139 ++ t140).size + 1 ≤ 9223372036854775807 then ((seal_All.f k ((t139 ++ t140) ++ (⟨#[122]⟩ : ByteArray))).bind fun bt141 => ((seal_Sum.f k (⟨#[]⟩ : ByteArray)).bind fun t145 => (if t145 = 1 then ((seal_Sum.f k (⟨#[97]⟩ : ByteArray)).bind fun t146 => (if t146 = 6422626 then (if t132 = 0 then (if t130.toList = ([97, 98, 99] : List UInt8) then (if t131 = 9 then (if t135 = 12 then (if bt136.2.2 = 13 then (if (bt141.1.length : Int) = 2 then (some (bt141.2 == 14)) else (some false)) else (some false)) else (some false)) else (some false)) else (some false)) else (some false)) else (some false))) else (some false)))) else (none)) else (none))))) = some r := H
    have A4 := Aside0.mk A40
    clear A40
    replace H := Option.bind_eq_some_iff.mp H
    obtain ⟨⟨t136, t137, t138⟩, A50, H⟩ := H
    replace H : ((seal_Seal.f k (⟨#[97]⟩ : ByteArray)).bind fun t139 => ((seal_Seal.f k (⟨#[98]⟩ : ByteArray)).bind fun t140 => (if t139.size + t140.size ≤ 9223372036854775807 then (if (t139 ++ t140).size + 1 ≤ 9223372036854775807 then ((seal_All.f k ((t139 ++ t140) ++ (⟨#[122]⟩ : ByteArray))).bind fun bt141 => ((seal_Sum.f k (⟨#[]⟩ : ByteArray)).bind fun t145 => (if t145 = 1 then ((seal_Sum.f k (⟨#[97]⟩ : ByteArray)).bind fun t146 => (if t146 = 6422626 then (if t132 = 0 then (if t130.toList = ([97, 98, 99] : List UInt8) then (if t131 = 9 then (if t135 = 12 then (if t138 = 13 then (if (bt141.1.length : Int) = 2 then (some (bt141.2 == 14)) else (some false)) else (some false)) else (some false)) else (some false)) else (some false)) else (some false)) else (some false))) else (some false)))) else (none)) else (none)))) = some r := H
    have A5 := Aside0.mk A50
    clear A50
    replace H := Option.bind_eq_some_iff.mp H
    obtain ⟨t139, A60, H⟩ := H
    replace H : ((seal_Seal.f k (⟨#[98]⟩ : ByteArray)).bind fun t140 => (if t139.size + t140.size ≤ 9223372036854775807 then (if (t139 ++ t140).size + 1 ≤ 9223372036854775807 then ((seal_All.f k ((t139 ++ t140) ++ (⟨#[122]⟩ : ByteArray))).bind fun bt141 => ((seal_Sum.f k (⟨#[]⟩ : ByteArray)).bind fun t145 => (if t145 = 1 then ((seal_Sum.f k (⟨#[97]⟩ : ByteArray)).bind fun t146 => (if t146 = 6422626 then (if t132 = 0 then (if t130.toList = ([97, 98, 99] : List UInt8) then (if t131 = 9 then (if t135 = 12 then (if t138 = 13 then (if (bt141.1.length : Int) = 2 then (some (bt141.2 == 14)) else (some false)) else (some false)) else (some false)) else (some false)) else (some false)) else (some false)) else (some false))) else (some false)))) else (none)) else (none))) = some r := H
    have A6 := Aside0.mk A60
    clear A60
    replace H := Option.bind_eq_some_iff.mp H
    obtain ⟨t140, A70, H⟩ := H
    replace H : (if t139.size + t140.size ≤ 9223372036854775807 then (if (t139 ++ t140).size + 1 ≤ 9223372036854775807 then ((seal_All.f k ((t139 ++ t140) ++ (⟨#[122]⟩ : ByteArray))).bind fun bt141 => ((seal_Sum.f k (⟨#[]⟩ : ByteArray)).bind fun t145 => (if t145 = 1 then ((seal_Sum.f k (⟨#[97]⟩ : ByteArray)).bind fun t146 => (if t146 = 6422626 then (if t132 = 0 then (if t130.toList = ([97, 98, 99] : List UInt8) then (if t131 = 9 then (if t135 = 12 then (if t138 = 13 then (if (bt141.1.length : Int) = 2 then (some (bt141.2 == 14)) else (some false)) else (some false)) else (some false)) else (some false)) else (some false)) else (some false)) else (some false))) else (some false)))) else (none)) else (none)) = some r := H
    have A7 := Aside0.mk A70
    clear A70
    by_cases c8 : t139.size + t140.size ≤ 9223372036854775807
    · rw [if_pos c8] at H
      have c8b0 := eq_true c8
      have c8b1 : decide (t139.size + t140.size ≤ 9223372036854775807) = true := decide_eq_true c8
      try have c8b2 : (9223372036854775807 < t139.size + t140.size) = False := eq_false (Nat.not_lt.2 c8)
      by_cases c9 : (t139 ++ t140).size + 1 ≤ 9223372036854775807
      · rw [if_pos c9] at H
        have c9b0 := eq_true c9
        have c9b1 : decide ((t139 ++ t140).size + 1 ≤ 9223372036854775807) = true := decide_eq_true c9
        (try (have c9b1s := c9b1; simp only [ByteArray.size_append] at c9b1s))
        try have c9b2 : (9223372036854775807 < (t139 ++ t140).size + 1) = False := eq_false (Nat.not_lt.2 c9)
        (try (have c9b2s := c9b2; simp only [ByteArray.size_append] at c9b2s))
        replace H := Option.bind_eq_some_iff.mp H
        obtain ⟨⟨t141, t142⟩, A100, H⟩ := H
        replace H : ((seal_Sum.f k (⟨#[]⟩ : ByteArray)).bind fun t145 => (if t145 = 1 then ((seal_Sum.f k (⟨#[97]⟩ : ByteArray)).bind fun t146 => (if t146 = 6422626 then (if t132 = 0 then (if t130.toList = ([97, 98, 99] : List UInt8) then (if t131 = 9 then (if t135 = 12 then (if t138 = 13 then (if (t141.length : Int) = 2 then (some (t142 == 14)) else (some false)) else (some false)) else (some false)) else (some false)) else (some false)) else (some false)) else (some false))) else (some false))) = some r := H
        have A10 := Aside0.mk A100
        clear A100
        replace H := Option.bind_eq_some_iff.mp H
        obtain ⟨t145, A110, H⟩ := H
        replace H : (if t145 = 1 then ((seal_Sum.f k (⟨#[97]⟩ : ByteArray)).bind fun t146 => (if t146 = 6422626 then (if t132 = 0 then (if t130.toList = ([97, 98, 99] : List UInt8) then (if t131 = 9 then (if t135 = 12 then (if t138 = 13 then (if (t141.length : Int) = 2 then (some (t142 == 14)) else (some false)) else (some false)) else (some false)) else (some false)) else (some false)) else (some false)) else (some false))) else (some false)) = some r := H
        have A11 := Aside0.mk A110
        clear A110
        by_cases c12 : t145 = 1
        · rw [if_pos c12] at H
          have c12b0 : (t145 == 1) = true := beq_iff_eq.mpr c12
          have c12b1 : (t145 != 1) = false := bne_eq_false_iff_eq.mpr c12
          clear c12
          replace H := Option.bind_eq_some_iff.mp H
          obtain ⟨t146, A130, H⟩ := H
          replace H : (if t146 = 6422626 then (if t132 = 0 then (if t130.toList = ([97, 98, 99] : List UInt8) then (if t131 = 9 then (if t135 = 12 then (if t138 = 13 then (if (t141.length : Int) = 2 then (some (t142 == 14)) else (some false)) else (some false)) else (some false)) else (some false)) else (some false)) else (some false)) else (some false)) = some r := H
          have A13 := Aside0.mk A130
          clear A130
          by_cases c14 : t146 = 6422626
          · rw [if_pos c14] at H
            have c14b0 : (t146 == 6422626) = true := beq_iff_eq.mpr c14
            have c14b1 : (t146 != 6422626) = false := bne_eq_false_iff_eq.mpr c14
            clear c14
            by_cases c15 : t132 = 0
            · rw [if_pos c15] at H
              have c15b0 : (t132 == 0) = true := beq_iff_eq.mpr c15
              have c15b1 : (t132 != 0) = false := bne_eq_false_iff_eq.mpr c15
              clear c15
              by_cases c16 : t130.toList = ([97, 98, 99] : List UInt8)
              · rw [if_pos c16] at H
                have c16b0 : (t130.toList == ([97, 98, 99] : List UInt8)) = true := beq_iff_eq.mpr c16
                have c16b1 : (t130.toList != ([97, 98, 99] : List UInt8)) = false := bne_eq_false_iff_eq.mpr c16
                clear c16
                by_cases c17 : t131 = 9
                · rw [if_pos c17] at H
                  have c17b0 : (t131 == 9) = true := beq_iff_eq.mpr c17
                  have c17b1 : (t131 != 9) = false := bne_eq_false_iff_eq.mpr c17
                  clear c17
                  by_cases c18 : t135 = 12
                  · rw [if_pos c18] at H
                    have c18b0 : (t135 == 12) = true := beq_iff_eq.mpr c18
                    have c18b1 : (t135 != 12) = false := bne_eq_false_iff_eq.mpr c18
                    clear c18
                    by_cases c19 : t138 = 13
                    · rw [if_pos c19] at H
                      have c19b0 : (t138 == 13) = true := beq_iff_eq.mpr c19
                      have c19b1 : (t138 != 13) = false := bne_eq_false_iff_eq.mpr c19
                      clear c19
                      by_cases c20 : (t141.length : Int) = 2
                      · rw [if_pos c20] at H
                        have c20b0 : ((t141.length : Int) == 2) = true := beq_iff_eq.mpr c20
                        have c20b1 : ((t141.length : Int) != 2) = false := bne_eq_false_iff_eq.mpr c20
                        clear c20
                        obtain rfl := Option.some.inj H
                        go_enter Try.func7, Try.ntmps7
                        go_wp2_with (first | ((with_reducible refine gate_callee (f := 14) rfl ?_); refine goesL_ (some 13) rfl rfl Try.func14 (by kernel_rfl) rfl #[.string (⟨#[97, 98, 99]⟩ : ByteArray)] rfl (by (try simp only [List.map_toArray, List.map_cons, List.map_nil]); first | done | rfl | (simp only [List.length_drop, List.length_take]; rfl)) ?_; (with_reducible refine (seal_Seal.calls k (⟨#[97, 98, 99]⟩ : ByteArray) t129 _ A1.out).mono ?_); rintro e w21 ⟨rfl, hb⟩; refine ⟨_, rfl, ?_⟩; have n0_ := Aside0.mk (below_step (by repeat (first | (with_reducible first | exact HB.out | apply below_alloc | apply pw_below_drewN | apply below_drew1) | exact HB.out)) hb); clear HB; have HB := n0_; clear n0_; (try clear hb); (try clear hb2); (try clear hk); (try clear hi)) | ((with_reducible refine gate_callee (f := 8) rfl ?_); refine goesL_ (some 15) rfl rfl Try.func8 (by kernel_rfl) rfl #[.string (t129 ++ (⟨#[120]⟩ : ByteArray))] rfl (by (try simp only [List.map_toArray, List.map_cons, List.map_nil]); first | done | rfl | (simp only [List.length_drop, List.length_take]; rfl)) ?_; (with_reducible refine (seal_Open.calls k (t129 ++ (⟨#[120]⟩ : ByteArray)) t130 t131 t132 _ A3.out).mono ?_); rintro e w22 ⟨rfl, hb⟩; refine ⟨_, rfl, ?_⟩; have n0_ := Aside0.mk (below_step (by repeat (first | (with_reducible first | exact HB.out | apply below_alloc | apply pw_below_drewN | apply below_drew1) | exact HB.out)) hb); clear HB; have HB := n0_; clear n0_; (try clear hb); (try clear hb2); (try clear hk); (try clear hi)) | ((with_reducible refine gate_callee (f := 8) rfl ?_); refine goesL_ (some 20) rfl rfl Try.func8 (by kernel_rfl) rfl #[.string (⟨#[]⟩ : ByteArray)] rfl (by (try simp only [List.map_toArray, List.map_cons, List.map_nil]); first | done | rfl | (simp only [List.length_drop, List.length_take]; rfl)) ?_; (with_reducible refine (seal_Open.calls k (⟨#[]⟩ : ByteArray) t133 t134 t135 _ A4.out).mono ?_); rintro e w23 ⟨rfl, hb⟩; refine ⟨_, rfl, ?_⟩; have n0_ := Aside0.mk (below_step (by repeat (first | (with_reducible first | exact HB.out | apply below_alloc | apply pw_below_drewN | apply below_drew1) | exact HB.out)) hb); clear HB; have HB := n0_; clear n0_; (try clear hb); (try clear hb2); (try clear hk); (try clear hi)) | ((with_reducible refine gate_callee (f := 8) rfl ?_); refine goesL_ (some 25) rfl rfl Try.func8 (by kernel_rfl) rfl #[.string (⟨#[1, 0, 0, 0, 0, 120]⟩ : ByteArray)] rfl (by (try simp only [List.map_toArray, List.map_cons, List.map_nil]); first | done | rfl | (simp only [List.length_drop, List.length_take]; rfl)) ?_; (with_reducible refine (seal_Open.calls k (⟨#[1, 0, 0, 0, 0, 120]⟩ : ByteArray) t136 t137 t138 _ A5.out).mono ?_); rintro e w24 ⟨rfl, hb⟩; refine ⟨_, rfl, ?_⟩; have n0_ := Aside0.mk (below_step (by repeat (first | (with_reducible first | exact HB.out | apply below_alloc | apply pw_below_drewN | apply below_drew1) | exact HB.out)) hb); clear HB; have HB := n0_; clear n0_; (try clear hb); (try clear hb2); (try clear hk); (try clear hi)) | ((with_reducible refine gate_callee (f := 14) rfl ?_); refine goesL_ (some 30) rfl rfl Try.func14 (by kernel_rfl) rfl #[.string (⟨#[97]⟩ : ByteArray)] rfl (by (try simp only [List.map_toArray, List.map_cons, List.map_nil]); first | done | rfl | (simp only [List.length_drop, List.length_take]; rfl)) ?_; (with_reducible refine (seal_Seal.calls k (⟨#[97]⟩ : ByteArray) t139 _ A6.out).mono ?_); rintro e w25 ⟨rfl, hb⟩; refine ⟨_, rfl, ?_⟩; have n0_ := Aside0.mk (below_step (by repeat (first | (with_reducible first | exact HB.out | apply below_alloc | apply pw_below_drewN | apply below_drew1) | exact HB.out)) hb); clear HB; have HB := n0_; clear n0_; (try clear hb); (try clear hb2); (try clear hk); (try clear hi)) | ((with_reducible refine gate_callee (f := 14) rfl ?_); refine goesL_ (some 31) rfl rfl Try.func14 (by kernel_rfl) rfl #[.string (⟨#[98]⟩ : ByteArray)] rfl (by (try simp only [List.map_toArray, List.map_cons, List.map_nil]); first | done | rfl | (simp only [List.length_drop, List.length_take]; rfl)) ?_; (with_reducible refine (seal_Seal.calls k (⟨#[98]⟩ : ByteArray) t140 _ A7.out).mono ?_); rintro e w26 ⟨rfl, hb⟩; refine ⟨_, rfl, ?_⟩; have n0_ := Aside0.mk (below_step (by repeat (first | (with_reducible first | exact HB.out | apply below_alloc | apply pw_below_drewN | apply below_drew1) | exact HB.out)) hb); clear HB; have HB := n0_; clear n0_; (try clear hb); (try clear hb2); (try clear hk); (try clear hi)) | ((with_reducible refine gate_callee (f := 10) rfl ?_); refine goesL_ (some 34) rfl rfl Try.func10 (by kernel_rfl) rfl #[.string ((t139 ++ t140) ++ (⟨#[122]⟩ : ByteArray))] rfl (by (try simp only [List.map_toArray, List.map_cons, List.map_nil]); first | done | rfl | (simp only [List.length_drop, List.length_take]; rfl)) ?_; (with_reducible refine (seal_All.calls k ((t139 ++ t140) ++ (⟨#[122]⟩ : ByteArray)) t141 t142 _ A10.out).mono ?_); rintro e w27 ⟨v143, rfl, ho0, hb⟩; refine ⟨_, rfl, ?_⟩; have n0_ := Aside0.mk (Kd.R_lower ho0 (below_size (by repeat (first | (with_reducible first | exact HB.out | apply below_alloc | apply pw_below_drewN | apply below_drew1) | exact HB.out)))); have n1_ := Aside0.mk (below_step (by repeat (first | (with_reducible first | exact HB.out | apply below_alloc | apply pw_below_drewN | apply below_drew1) | exact HB.out)) hb); clear HB; have HO144 := n0_; have HB := n1_; clear n0_ n1_; (try clear hb); (try clear hb2); (try clear hk); (try clear hi); (try clear ho0)) | ((with_reducible refine gate_callee (f := 12) rfl ?_); refine goesL_ (some 37) rfl rfl Try.func12 (by kernel_rfl) rfl #[.string (⟨#[]⟩ : ByteArray)] rfl (by (try simp only [List.map_toArray, List.map_cons, List.map_nil]); first | done | rfl | (simp only [List.length_drop, List.length_take]; rfl)) ?_; (with_reducible refine (seal_Sum.calls k (⟨#[]⟩ : ByteArray) t145 _ A11.out).mono ?_); rintro e w' ⟨rfl, ⟨nd, rfl⟩⟩; refine ⟨_, rfl, ?_⟩) | (go_at_call 12; (with_reducible refine (seal_Sum.calls k (⟨#[97]⟩ : ByteArray) t146 _ A13.out).mono ?_); rintro e w' ⟨rfl, ⟨nd, rfl⟩⟩; obtain ⟨Ao28, co28, eo28⟩ := Kd.R_slice HO144.out; subst eo28))
                        go_ret
                        exact ⟨by first | rfl | (simp [errW_none, errW_some] <;> rfl) | (simp [*, errW_none, errW_some] <;> rfl), by repeat (first | (with_reducible first | exact HB.out | apply below_alloc | apply pw_below_drewN | apply below_drew1) | exact HB.out)⟩
                      · rw [if_neg c20] at H
                        have c20b0 : ((t141.length : Int) == 2) = false := beq_eq_false_iff_ne.mpr c20
                        have c20b1 : ((t141.length : Int) != 2) = true := bne_iff_ne.mpr c20
                        exact absurd ((Option.some.inj H).trans HR_.out) (by decide)
                    · rw [if_neg c19] at H
                      have c19b0 : (t138 == 13) = false := beq_eq_false_iff_ne.mpr c19
                      have c19b1 : (t138 != 13) = true := bne_iff_ne.mpr c19
                      exact absurd ((Option.some.inj H).trans HR_.out) (by decide)
                  · rw [if_neg c18] at H
                    have c18b0 : (t135 == 12) = false := beq_eq_false_iff_ne.mpr c18
                    have c18b1 : (t135 != 12) = true := bne_iff_ne.mpr c18
                    exact absurd ((Option.some.inj H).trans HR_.out) (by decide)
                · rw [if_neg c17] at H
                  have c17b0 : (t131 == 9) = false := beq_eq_false_iff_ne.mpr c17
                  have c17b1 : (t131 != 9) = true := bne_iff_ne.mpr c17
                  exact absurd ((Option.some.inj H).trans HR_.out) (by decide)
              · rw [if_neg c16] at H
                have c16b0 : (t130.toList == ([97, 98, 99] : List UInt8)) = false := beq_eq_false_iff_ne.mpr c16
                have c16b1 : (t130.toList != ([97, 98, 99] : List UInt8)) = true := bne_iff_ne.mpr c16
                exact absurd ((Option.some.inj H).trans HR_.out) (by decide)
            · rw [if_neg c15] at H
              have c15b0 : (t132 == 0) = false := beq_eq_false_iff_ne.mpr c15
              have c15b1 : (t132 != 0) = true := bne_iff_ne.mpr c15
              exact absurd ((Option.some.inj H).trans HR_.out) (by decide)
          · rw [if_neg c14] at H
            have c14b0 : (t146 == 6422626) = false := beq_eq_false_iff_ne.mpr c14
            have c14b1 : (t146 != 6422626) = true := bne_iff_ne.mpr c14
            exact absurd ((Option.some.inj H).trans HR_.out) (by decide)
        · rw [if_neg c12] at H
          have c12b0 : (t145 == 1) = false := beq_eq_false_iff_ne.mpr c12
          have c12b1 : (t145 != 1) = true := bne_iff_ne.mpr c12
          exact absurd ((Option.some.inj H).trans HR_.out) (by decide)
      · rw [if_neg c9] at H
        exact absurd H (by simp)
    · rw [if_neg c8] at H
      exact absurd H (by simp)
  · rw [if_neg c2] at H
    exact absurd H (by simp)

end Go.Proofs.Ythlndkbdonoefaa.P
