-- Printed by a changed copy of the kit's printer (wip/tools/ext.py); labels and more
import Derived.Test.YtialmkppgbplpaaPx0
import Derived.Test.YtialmkppgbplpaaPx1
import Derived.Test.YtialmkppgbplpaaPx2
import Derived.Test.YtialmkppgbplpaaPx3
namespace Go.Proofs.Ytialmkppgbplpaa.P
open Go.RowKit Go.Proofs.YtialmkppgbplpaaW.PrintWords Go.Proofs.YtialmkppgbplpaaW.PrintLast Go.Proofs.YtialmkppgbplpaaW.PrintMore
attribute [local go_sem] max2_int min2_int max_two min_two max_three min_three max_four min_four   -- for this text's walks alone
set_option linter.unusedVariables false
set_option linter.unusedSimpArgs false

/-! ### ravelinlaw3_known: function 8 -/
def ravelinlaw3_known.f (k : Nat)  : Option (Bool) := (cell_Num.f k 300).bind fun t115 => (if t115.size + 1 ≤ 9223372036854775807 then ((cell_TakeNum.f k (t115 ++ (⟨#[120]⟩ : ByteArray))).bind fun bt116 => ((cell_Text.f k (⟨#[97, 98]⟩ : ByteArray)).bind fun t119 => (if t119.size + 1 ≤ 9223372036854775807 then ((cell_TakeText.f k (t119 ++ (⟨#[121]⟩ : ByteArray))).bind fun bt120 => ((cell_TakeNum.f k (⟨#[]⟩ : ByteArray)).bind fun bt123 => ((cell_TakeNum.f k (⟨#[1, 0]⟩ : ByteArray)).bind fun bt126 => ((cell_Num.f k 300).bind fun t129 => (if t129.toList = ([2, 1, 44] : List UInt8) then (if bt116.2.2 = 0 then (if bt116.1 = 300 then (if bt116.2.1 = 3 then (if bt120.2.2 = 0 then (if bt120.1.toList = ([97, 98] : List UInt8) then (if bt120.2.1 = 4 then (if bt123.2.2 = 12 then (if bt126.2.2 = 10 then ((cell_Less.f (⟨#[97]⟩ : ByteArray) (⟨#[97, 98]⟩ : ByteArray)).bind fun t130 => (if t130 = true then ((cell_Num.f k 0).bind fun t131 => (some (t131.toList == ([0] : List UInt8)))) else (some false))) else (some false)) else (some false)) else (some false)) else (some false)) else (some false)) else (some false)) else (some false)) else (some false)) else (some false)))))) else (none)))) else (none))
theorem ravelinlaw3_known.mono : ∀ k, LeO (ravelinlaw3_known.f k ) (ravelinlaw3_known.f (k + 1) ) := by
  intro  k
  unfold ravelinlaw3_known.f
  repeat' first
      | (with_reducible exact cell_Num.mono _ _)
      | (with_reducible exact cell_TakeNum.mono _ _)
      | (with_reducible exact cell_TakeText.mono _ _)
      | (with_reducible exact cell_Text.mono _ _)
      | (with_reducible exact LeO.refl _)
      | (with_reducible exact LeO.none _)
      | (with_reducible refine LeO.ite ?_ ?_)
      | (with_reducible refine LeO.bind ?_ (fun _ => ?_))
      | exact cell_Num.mono _ _
      | exact cell_TakeNum.mono _ _
      | exact cell_TakeText.mono _ _
      | exact cell_Text.mono _ _
      | exact LeO.none _
      | refine LeO.ite ?_ ?_
      | refine LeO.bind ?_ (fun _ => ?_)
set_option maxHeartbeats 8000000 in
set_option maxRecDepth 100000 in
theorem ravelinlaw3_known.calls (k : Nat)  (r : Bool) (w : World) (h : ravelinlaw3_known.f k  = some r) (hr_ : r = true) :
    Calls Try.prog 8 #[] w fun e w' => e = .returned (.bool r) ∧ Below w.heap.size w w' := by
  have HB := Aside0.mk (Below.refl w.heap.size w)
  have H : ((cell_Num.f k 300).bind fun t115 => (if t115.size + 1 ≤ 9223372036854775807 then ((cell_TakeNum.f k (t115 ++ (⟨#[120]⟩ : ByteArray))).bind fun bt116 => ((cell_Text.f k (⟨#[97, 98]⟩ : ByteArray)).bind fun t119 => (if t119.size + 1 ≤ 9223372036854775807 then ((cell_TakeText.f k (t119 ++ (⟨#[121]⟩ : ByteArray))).bind fun bt120 => ((cell_TakeNum.f k (⟨#[]⟩ : ByteArray)).bind fun bt123 => ((cell_TakeNum.f k (⟨#[1, 0]⟩ : ByteArray)).bind fun bt126 => ((cell_Num.f k 300).bind fun t129 => (if t129.toList = ([2, 1, 44] : List UInt8) then (if bt116.2.2 = 0 then (if bt116.1 = 300 then (if bt116.2.1 = 3 then (if bt120.2.2 = 0 then (if bt120.1.toList = ([97, 98] : List UInt8) then (if bt120.2.1 = 4 then (if bt123.2.2 = 12 then (if bt126.2.2 = 10 then ((cell_Less.f (⟨#[97]⟩ : ByteArray) (⟨#[97, 98]⟩ : ByteArray)).bind fun t130 => (if t130 = true then ((cell_Num.f k 0).bind fun t131 => (some (t131.toList == ([0] : List UInt8)))) else (some false))) else (some false)) else (some false)) else (some false)) else (some false)) else (some false)) else (some false)) else (some false)) else (some false)) else (some false)))))) else (none)))) else (none))) = some r := h
  clear h
  have HR_ := Aside0.mk hr_
  clear hr_
  replace H := Option.bind_eq_some_iff.mp H
  obtain ⟨t115, A10, H⟩ := H
  replace H : (if t115.size + 1 ≤ 9223372036854775807 then ((cell_TakeNum.f k (t115 ++ (⟨#[120]⟩ : ByteArray))).bind fun bt116 => ((cell_Text.f k (⟨#[97, 98]⟩ : ByteArray)).bind fun t119 => (if t119.size + 1 ≤ 9223372036854775807 then ((cell_TakeText.f k (t119 ++ (⟨#[121]⟩ : ByteArray))).bind fun bt120 => ((cell_TakeNum.f k (⟨#[]⟩ : ByteArray)).bind fun bt123 => ((cell_TakeNum.f k (⟨#[1, 0]⟩ : ByteArray)).bind fun bt126 => ((cell_Num.f k 300).bind fun t129 => (if t129.toList = ([2, 1, 44] : List UInt8) then (if bt116.2.2 = 0 then (if bt116.1 = 300 then (if bt116.2.1 = 3 then (if bt120.2.2 = 0 then (if bt120.1.toList = ([97, 98] : List UInt8) then (if bt120.2.1 = 4 then (if bt123.2.2 = 12 then (if bt126.2.2 = 10 then ((cell_Less.f (⟨#[97]⟩ : ByteArray) (⟨#[97, 98]⟩ : ByteArray)).bind fun t130 => (if t130 = true then ((cell_Num.f k 0).bind fun t131 => (some (t131.toList == ([0] : List UInt8)))) else (some false))) else (some false)) else (some false)) else (some false)) else (some false)) else (some false)) else (some false)) else (some false)) else (some false)) else (some false)))))) else (none)))) else (none)) = some r := H
  have A1 := Aside0.mk A10
  clear A10
  by_cases c2 : t115.size + 1 ≤ 9223372036854775807
  · rw [if_pos c2] at H
    have c2b0 := eq_true c2
    have c2b1 : decide (t115.size + 1 ≤ 9223372036854775807) = true := decide_eq_true c2
    try have c2b2 : (9223372036854775807 < t115.size + 1) = False := eq_false (Nat.not_lt.2 c2)
    replace H := Option.bind_eq_some_iff.mp H
    obtain ⟨⟨t116, t117, t118⟩, A30, H⟩ := H
    replace H : ((cell_Text.f k (⟨#[97, 98]⟩ : ByteArray)).bind fun t119 => (if t119.size + 1 ≤ 9223372036854775807 then ((cell_TakeText.f k (t119 ++ (⟨#[121]⟩ : ByteArray))).bind fun bt120 => ((cell_TakeNum.f k (⟨#[]⟩ : ByteArray)).bind fun bt123 => ((cell_TakeNum.f k (⟨#[1, 0]⟩ : ByteArray)).bind fun bt126 => ((cell_Num.f k 300).bind fun t129 => (if t129.toList = ([2, 1, 44] : List UInt8) then (if t118 = 0 then (if t116 = 300 then (if t117 = 3 then (if bt120.2.2 = 0 then (if bt120.1.toList = ([97, 98] : List UInt8) then (if bt120.2.1 = 4 then (if bt123.2.2 = 12 then (if bt126.2.2 = 10 then ((cell_Less.f (⟨#[97]⟩ : ByteArray) (⟨#[97, 98]⟩ : ByteArray)).bind fun t130 => (if t130 = true then ((cell_Num.f k 0).bind fun t131 => (some (t131.toList == ([0] : List UInt8)))) else (some false))) else (some false)) else (some false)) else (some false)) else (some false)) else (some false)) else (some false)) else (some false)) else (some false)) else (some false)))))) else (none))) = some r := H
    have A3 := Aside0.mk A30
    clear A30
    replace H := Option.bind_eq_some_iff.mp H
    obtain ⟨t119, A40, H⟩ := H
    replace H : (if t119.size + 1 ≤ 9223372036854775807 then ((cell_TakeText.f k (t119 ++ (⟨#[121]⟩ : ByteArray))).bind fun bt120 => ((cell_TakeNum.f k (⟨#[]⟩ : ByteArray)).bind fun bt123 => ((cell_TakeNum.f k (⟨#[1, 0]⟩ : ByteArray)).bind fun bt126 => ((cell_Num.f k 300).bind fun t129 => (if t129.toList = ([2, 1, 44] : List UInt8) then (if t118 = 0 then (if t116 = 300 then (if t117 = 3 then (if bt120.2.2 = 0 then (if bt120.1.toList = ([97, 98] : List UInt8) then (if bt120.2.1 = 4 then (if bt123.2.2 = 12 then (if bt126.2.2 = 10 then ((cell_Less.f (⟨#[97]⟩ : ByteArray) (⟨#[97, 98]⟩ : ByteArray)).bind fun t130 => (if t130 = true then ((cell_Num.f k 0).bind fun t131 => (some (t131.toList == ([0] : List UInt8)))) else (some false))) else (some false)) else (some false)) else (some false)) else (some false)) else (some false)) else (some false)) else (some false)) else (some false)) else (some false)))))) else (none)) = some r := H
    have A4 := Aside0.mk A40
    clear A40
    by_cases c5 : t119.size + 1 ≤ 9223372036854775807
    · rw [if_pos c5] at H
      have c5b0 := eq_true c5
      have c5b1 : decide (t119.size + 1 ≤ 9223372036854775807) = true := decide_eq_true c5
      try have c5b2 : (9223372036854775807 < t119.size + 1) = False := eq_false (Nat.not_lt.2 c5)
      replace H := Option.bind_eq_some_iff.mp H
      obtain ⟨⟨t120, t121, t122⟩, A60, H⟩ := H
      replace H : ((cell_TakeNum.f k (⟨#[]⟩ : ByteArray)).bind fun bt123 => ((cell_TakeNum.f k (⟨#[1, 0]⟩ : ByteArray)).bind fun bt126 => ((cell_Num.f k 300).bind fun t129 => (if t129.toList = ([2, 1, 44] : List UInt8) then (if t118 = 0 then (if t116 = 300 then (if t117 = 3 then (if t122 = 0 then (if t120.toList = ([97, 98] : List UInt8) then (if t121 = 4 then (if bt123.2.2 = 12 then (if bt126.2.2 = 10 then ((cell_Less.f (⟨#[97]⟩ : ByteArray) (⟨#[97, 98]⟩ : ByteArray)).bind fun t130 => (if t130 = true then ((cell_Num.f k 0).bind fun t131 => (some (t131.toList == ([0] : List UInt8)))) else (some false))) else (some false)) else (some false)) else (some false)) else (some false)) else (some false)) else (some false)) else (some false)) else (some false)) else (some false))))) = some r := H
      have A6 := Aside0.mk A60
      clear A60
      replace H := Option.bind_eq_some_iff.mp H
      obtain ⟨⟨t123, t124, t125⟩, A70, H⟩ := H
      replace H : ((cell_TakeNum.f k (⟨#[1, 0]⟩ : ByteArray)).bind fun bt126 => ((cell_Num.f k 300).bind fun t129 => (if t129.toList = ([2, 1, 44] : List UInt8) then (if t118 = 0 then (if t116 = 300 then (if t117 = 3 then (if t122 = 0 then (if t120.toList = ([97, 98] : List UInt8) then (if t121 = 4 then (if t125 = 12 then (if bt126.2.2 = 10 then ((cell_Less.f (⟨#[97]⟩ : ByteArray) (⟨#[97, 98]⟩ : ByteArray)).bind fun t130 => (if t130 = true then ((cell_Num.f k 0).bind fun t131 => (some (t131.toList == ([0] : List UInt8)))) else (some false))) else (some false)) else (some false)) else (some false)) else (some false)) else (some false)) else (some false)) else (some false)) else (some false)) else (some false)))) = some r := H
      have A7 := Aside0.mk A70
      clear A70
      replace H := Option.bind_eq_some_iff.mp H
      obtain ⟨⟨t126, t127, t128⟩, A80, H⟩ := H
      replace H : ((cell_Num.f k 300).bind fun t129 => (if t129.toList = ([2, 1, 44] : List UInt8) then (if t118 = 0 then (if t116 = 300 then (if t117 = 3 then (if t122 = 0 then (if t120.toList = ([97, 98] : List UInt8) then (if t121 = 4 then (if t125 = 12 then (if t128 = 10 then ((cell_Less.f (⟨#[97]⟩ : ByteArray) (⟨#[97, 98]⟩ : ByteArray)).bind fun t130 => (if t130 = true then ((cell_Num.f k 0).bind fun t131 => (some (t131.toList == ([0] : List UInt8)))) else (some false))) else (some false)) else (some false)) else (some false)) else (some false)) else (some false)) else (some false)) else (some false)) else (some false)) else (some false))) = some r := H
      have A8 := Aside0.mk A80
      clear A80
      replace H := Option.bind_eq_some_iff.mp H
      obtain ⟨t129, A90, H⟩ := H
      replace H : (if t129.toList = ([2, 1, 44] : List UInt8) then (if t118 = 0 then (if t116 = 300 then (if t117 = 3 then (if t122 = 0 then (if t120.toList = ([97, 98] : List UInt8) then (if t121 = 4 then (if t125 = 12 then (if t128 = 10 then ((cell_Less.f (⟨#[97]⟩ : ByteArray) (⟨#[97, 98]⟩ : ByteArray)).bind fun t130 => (if t130 = true then ((cell_Num.f k 0).bind fun t131 => (some (t131.toList == ([0] : List UInt8)))) else (some false))) else (some false)) else (some false)) else (some false)) else (some false)) else (some false)) else (some false)) else (some false)) else (some false)) else (some false)) = some r := H
      have A9 := Aside0.mk A90
      clear A90
      by_cases c10 : t129.toList = ([2, 1, 44] : List UInt8)
      · rw [if_pos c10] at H
        have c10b0 : (t129.toList == ([2, 1, 44] : List UInt8)) = true := beq_iff_eq.mpr c10
        have c10b1 : (t129.toList != ([2, 1, 44] : List UInt8)) = false := bne_eq_false_iff_eq.mpr c10
        clear c10
        by_cases c11 : t118 = 0
        · rw [if_pos c11] at H
          have c11b0 : (t118 == 0) = true := beq_iff_eq.mpr c11
          have c11b1 : (t118 != 0) = false := bne_eq_false_iff_eq.mpr c11
          clear c11
          by_cases c12 : t116 = 300
          · rw [if_pos c12] at H
            have c12b0 : (t116 == 300) = true := beq_iff_eq.mpr c12
            have c12b1 : (t116 != 300) = false := bne_eq_false_iff_eq.mpr c12
            clear c12
            by_cases c13 : t117 = 3
            · rw [if_pos c13] at H
              have c13b0 : (t117 == 3) = true := beq_iff_eq.mpr c13
              have c13b1 : (t117 != 3) = false := bne_eq_false_iff_eq.mpr c13
              clear c13
              by_cases c14 : t122 = 0
              · rw [if_pos c14] at H
                have c14b0 : (t122 == 0) = true := beq_iff_eq.mpr c14
                have c14b1 : (t122 != 0) = false := bne_eq_false_iff_eq.mpr c14
                clear c14
                by_cases c15 : t120.toList = ([97, 98] : List UInt8)
                · rw [if_pos c15] at H
                  have c15b0 : (t120.toList == ([97, 98] : List UInt8)) = true := beq_iff_eq.mpr c15
                  have c15b1 : (t120.toList != ([97, 98] : List UInt8)) = false := bne_eq_false_iff_eq.mpr c15
                  clear c15
                  by_cases c16 : t121 = 4
                  · rw [if_pos c16] at H
                    have c16b0 : (t121 == 4) = true := beq_iff_eq.mpr c16
                    have c16b1 : (t121 != 4) = false := bne_eq_false_iff_eq.mpr c16
                    clear c16
                    by_cases c17 : t125 = 12
                    · rw [if_pos c17] at H
                      have c17b0 : (t125 == 12) = true := beq_iff_eq.mpr c17
                      have c17b1 : (t125 != 12) = false := bne_eq_false_iff_eq.mpr c17
                      clear c17
                      by_cases c18 : t128 = 10
                      · rw [if_pos c18] at H
                        have c18b0 : (t128 == 10) = true := beq_iff_eq.mpr c18
                        have c18b1 : (t128 != 10) = false := bne_eq_false_iff_eq.mpr c18
                        clear c18
                        replace H := Option.bind_eq_some_iff.mp H
                        obtain ⟨t130, A190, H⟩ := H
                        replace H : (if t130 = true then ((cell_Num.f k 0).bind fun t131 => (some (t131.toList == ([0] : List UInt8)))) else (some false)) = some r := H
                        have A19 := Aside0.mk A190
                        clear A190
                        by_cases c20 : t130 = true
                        · subst c20
                          have H1 : ((cell_Num.f k 0).bind fun t131 => (some (t131.toList == ([0] : List UInt8)))) = some r := by rw [if_pos rfl] at H; exact H
                          clear H
                          have H := H1
                          clear H1
                          replace H := Option.bind_eq_some_iff.mp H
                          obtain ⟨t131, A210, H⟩ := H
                          replace H : (some (t131.toList == ([0] : List UInt8))) = some r := H
                          have A21 := Aside0.mk A210
                          clear A210
                          obtain rfl := Option.some.inj H
                          go_enter Try.func8, Try.ntmps8
                          go_wp2_with (first | ((with_reducible refine gate_callee (f := 13) rfl ?_); refine goesL_ (some 14) rfl rfl Try.func13 (by kernel_rfl) rfl #[.int .i64 300] rfl (by (try simp only [List.map_toArray, List.map_cons, List.map_nil]); first | done | rfl | (simp only [List.length_drop, List.length_take]; rfl)) ?_; (with_reducible refine (cell_Num.calls k 300 t115 _ A1.out).mono ?_); rintro e w22 ⟨rfl, hb⟩; refine ⟨_, rfl, ?_⟩; have n0_ := Aside0.mk (below_step (by repeat (first | (with_reducible first | exact HB.out | apply below_alloc | apply pw_below_drewN | apply below_drew1) | exact HB.out)) hb); clear HB; have HB := n0_; clear n0_; (try clear hb); (try clear hb2); (try clear hk); (try clear hi)) | ((with_reducible refine gate_callee (f := 9) rfl ?_); refine goesL_ (some 16) rfl rfl Try.func9 (by kernel_rfl) rfl #[.string (t115 ++ (⟨#[120]⟩ : ByteArray))] rfl (by (try simp only [List.map_toArray, List.map_cons, List.map_nil]); first | done | rfl | (simp only [List.length_drop, List.length_take]; rfl)) ?_; (with_reducible refine (cell_TakeNum.calls k (t115 ++ (⟨#[120]⟩ : ByteArray)) t116 t117 t118 _ A3.out).mono ?_); rintro e w' ⟨rfl, ⟨nd, rfl⟩⟩; refine ⟨_, rfl, ?_⟩) | ((with_reducible refine gate_callee (f := 15) rfl ?_); refine goesL_ (some 21) rfl rfl Try.func15 (by kernel_rfl) rfl #[.string (⟨#[97, 98]⟩ : ByteArray)] rfl (by (try simp only [List.map_toArray, List.map_cons, List.map_nil]); first | done | rfl | (simp only [List.length_drop, List.length_take]; rfl)) ?_; (with_reducible refine (cell_Text.calls k (⟨#[97, 98]⟩ : ByteArray) t119 _ A4.out).mono ?_); rintro e w23 ⟨rfl, hb⟩; refine ⟨_, rfl, ?_⟩; have n0_ := Aside0.mk (below_step (by repeat (first | (with_reducible first | exact HB.out | apply below_alloc | apply pw_below_drewN | apply below_drew1) | exact HB.out)) hb); clear HB; have HB := n0_; clear n0_; (try clear hb); (try clear hb2); (try clear hk); (try clear hi)) | ((with_reducible refine gate_callee (f := 11) rfl ?_); refine goesL_ (some 23) rfl rfl Try.func11 (by kernel_rfl) rfl #[.string (t119 ++ (⟨#[121]⟩ : ByteArray))] rfl (by (try simp only [List.map_toArray, List.map_cons, List.map_nil]); first | done | rfl | (simp only [List.length_drop, List.length_take]; rfl)) ?_; (with_reducible refine (cell_TakeText.calls k (t119 ++ (⟨#[121]⟩ : ByteArray)) t120 t121 t122 _ A6.out).mono ?_); rintro e w' ⟨rfl, ⟨nd, rfl⟩⟩; refine ⟨_, rfl, ?_⟩) | ((with_reducible refine gate_callee (f := 9) rfl ?_); refine goesL_ (some 28) rfl rfl Try.func9 (by kernel_rfl) rfl #[.string (⟨#[]⟩ : ByteArray)] rfl (by (try simp only [List.map_toArray, List.map_cons, List.map_nil]); first | done | rfl | (simp only [List.length_drop, List.length_take]; rfl)) ?_; (with_reducible refine (cell_TakeNum.calls k (⟨#[]⟩ : ByteArray) t123 t124 t125 _ A7.out).mono ?_); rintro e w' ⟨rfl, ⟨nd, rfl⟩⟩; refine ⟨_, rfl, ?_⟩) | ((with_reducible refine gate_callee (f := 9) rfl ?_); refine goesL_ (some 33) rfl rfl Try.func9 (by kernel_rfl) rfl #[.string (⟨#[1, 0]⟩ : ByteArray)] rfl (by (try simp only [List.map_toArray, List.map_cons, List.map_nil]); first | done | rfl | (simp only [List.length_drop, List.length_take]; rfl)) ?_; (with_reducible refine (cell_TakeNum.calls k (⟨#[1, 0]⟩ : ByteArray) t126 t127 t128 _ A8.out).mono ?_); rintro e w' ⟨rfl, ⟨nd, rfl⟩⟩; refine ⟨_, rfl, ?_⟩) | ((with_reducible refine gate_callee (f := 13) rfl ?_); refine goesL_ (some 37) rfl rfl Try.func13 (by kernel_rfl) rfl #[.int .i64 300] rfl (by (try simp only [List.map_toArray, List.map_cons, List.map_nil]); first | done | rfl | (simp only [List.length_drop, List.length_take]; rfl)) ?_; (with_reducible refine (cell_Num.calls k 300 t129 _ A9.out).mono ?_); rintro e w24 ⟨rfl, hb⟩; refine ⟨_, rfl, ?_⟩; have n0_ := Aside0.mk (below_step (by repeat (first | (with_reducible first | exact HB.out | apply below_alloc | apply pw_below_drewN | apply below_drew1) | exact HB.out)) hb); clear HB; have HB := n0_; clear n0_; (try clear hb); (try clear hb2); (try clear hk); (try clear hi)) | (go_at_call 17; (with_reducible refine (cell_Less.calls (⟨#[97]⟩ : ByteArray) (⟨#[97, 98]⟩ : ByteArray) true _ A19.out).mono ?_); rintro e w' ⟨rfl, ⟨nd, rfl⟩⟩) | (go_at_call 13; (with_reducible refine (cell_Num.calls k 0 t131 _ A21.out).mono ?_); rintro e w25 ⟨rfl, hb⟩; have n0_ := Aside0.mk (below_step (by repeat (first | (with_reducible first | exact HB.out | apply below_alloc | apply pw_below_drewN | apply below_drew1) | exact HB.out)) hb); clear HB; have HB := n0_; clear n0_; (try clear hb); (try clear hb2); (try clear hk); (try clear hi)))
                          go_ret
                          exact ⟨by first | rfl | (simp [errW_none, errW_some] <;> rfl) | (simp [*, errW_none, errW_some] <;> rfl), by repeat (first | (with_reducible first | exact HB.out | apply below_alloc | apply pw_below_drewN | apply below_drew1) | exact HB.out)⟩
                        · replace c20 := Bool.eq_false_iff.mpr c20
                          subst c20
                          have H1 : (some false) = some r := by rw [if_neg (show ¬ (false = true) by decide)] at H; exact H
                          clear H
                          have H := H1
                          clear H1
                          exact absurd ((Option.some.inj H).trans HR_.out) (by decide)
                      · rw [if_neg c18] at H
                        have c18b0 : (t128 == 10) = false := beq_eq_false_iff_ne.mpr c18
                        have c18b1 : (t128 != 10) = true := bne_iff_ne.mpr c18
                        exact absurd ((Option.some.inj H).trans HR_.out) (by decide)
                    · rw [if_neg c17] at H
                      have c17b0 : (t125 == 12) = false := beq_eq_false_iff_ne.mpr c17
                      have c17b1 : (t125 != 12) = true := bne_iff_ne.mpr c17
                      exact absurd ((Option.some.inj H).trans HR_.out) (by decide)
                  · rw [if_neg c16] at H
                    have c16b0 : (t121 == 4) = false := beq_eq_false_iff_ne.mpr c16
                    have c16b1 : (t121 != 4) = true := bne_iff_ne.mpr c16
                    exact absurd ((Option.some.inj H).trans HR_.out) (by decide)
                · rw [if_neg c15] at H
                  have c15b0 : (t120.toList == ([97, 98] : List UInt8)) = false := beq_eq_false_iff_ne.mpr c15
                  have c15b1 : (t120.toList != ([97, 98] : List UInt8)) = true := bne_iff_ne.mpr c15
                  exact absurd ((Option.some.inj H).trans HR_.out) (by decide)
              · rw [if_neg c14] at H
                have c14b0 : (t122 == 0) = false := beq_eq_false_iff_ne.mpr c14
                have c14b1 : (t122 != 0) = true := bne_iff_ne.mpr c14
                exact absurd ((Option.some.inj H).trans HR_.out) (by decide)
            · rw [if_neg c13] at H
              have c13b0 : (t117 == 3) = false := beq_eq_false_iff_ne.mpr c13
              have c13b1 : (t117 != 3) = true := bne_iff_ne.mpr c13
              exact absurd ((Option.some.inj H).trans HR_.out) (by decide)
          · rw [if_neg c12] at H
            have c12b0 : (t116 == 300) = false := beq_eq_false_iff_ne.mpr c12
            have c12b1 : (t116 != 300) = true := bne_iff_ne.mpr c12
            exact absurd ((Option.some.inj H).trans HR_.out) (by decide)
        · rw [if_neg c11] at H
          have c11b0 : (t118 == 0) = false := beq_eq_false_iff_ne.mpr c11
          have c11b1 : (t118 != 0) = true := bne_iff_ne.mpr c11
          exact absurd ((Option.some.inj H).trans HR_.out) (by decide)
      · rw [if_neg c10] at H
        have c10b0 : (t129.toList == ([2, 1, 44] : List UInt8)) = false := beq_eq_false_iff_ne.mpr c10
        have c10b1 : (t129.toList != ([2, 1, 44] : List UInt8)) = true := bne_iff_ne.mpr c10
        exact absurd ((Option.some.inj H).trans HR_.out) (by decide)
    · rw [if_neg c5] at H
      exact absurd H (by simp)
  · rw [if_neg c2] at H
    exact absurd H (by simp)

end Go.Proofs.Ytialmkppgbplpaa.P
