-- Printed by a changed copy of the kit's printer (wip/tools/ext.py); labels and more
import Derived.Test.YthohfmfgijckhaaM0
import Derived.Test.YthohfmfgijckhaaM2
import Derived.Test.YthohfmfgijckhaaM3
import Derived.Test.YthohfmfgijckhaaM5
import Derived.Test.YthohfmfgijckhaaM6
import Derived.Test.YthohfmfgijckhaaM7
import Derived.Test.YthohfmfgijckhaaM8
import Derived.Test.YthohfmfgijckhaaM9
import Derived.Test.YthohfmfgijckhaaM11
namespace Go.Proofs.Ythohfmfgijckhaa.P
open Go.RowKit Go.Proofs.YthohfmfgijckhaaW.PrintWords Go.Proofs.YthohfmfgijckhaaW.PrintLast Go.Proofs.YthohfmfgijckhaaW.PrintMore
attribute [local go_sem] max2_int min2_int max_two min_two max_three min_three max_four min_four   -- for this text's walks alone
set_option linter.unusedVariables false
set_option linter.unusedSimpArgs false

/-! ### ravelinlaw8_BlockTells: function 3 -/
def ravelinlaw8_BlockTells.j0 : Nat → List (S45) → ByteArray → ByteArray → ByteArray → Bool → Option (Bool)
  | 0, _, _, _, _, _ => none
  | k + 1, x0, x1, x2, x3, x36 => if x36 = true then (some true) else ((block_Make.f k x0).bind fun bt309 => ((ravelinref6_Block.f k x0).bind fun bt311 => ((block_Read.f k x1).bind fun bt313 => ((ravelinref6_ReadBlock.f k x1).bind fun bt317 => (if bt309.1.toList = bt311.1.toList then (if bt309.2 = bt311.2 then ((ravelinref6_Same.f k bt313.1 bt317.1).bind fun t321 => (if t321 = true then (if bt313.2 = bt317.2 then ((block_Shared.f k x2 x3).bind fun t322 => ((ravelinref6_Shared.f k x2 x3).bind fun t323 => (some (t322 == t323)))) else (some false)) else (some false))) else (some false)) else (some false))))))
def ravelinlaw8_BlockTells.f (k : Nat) (l0 : List (S45)) (a1 : ByteArray) (a2 : ByteArray) (a3 : ByteArray) : Option (Bool) := (ravelinlaw8_known.f k).bind fun t307 => (if t307 = true then ((ravelinlaw8_few.f k l0).bind fun t308 => (if t308 = true then (if (a1.size : Int) > 1000 then (ravelinlaw8_BlockTells.j0 k l0 a1 a2 a3 true) else (if (a2.size : Int) > 40 then (ravelinlaw8_BlockTells.j0 k l0 a1 a2 a3 true) else (ravelinlaw8_BlockTells.j0 k l0 a1 a2 a3 (decide ((a3.size : Int) > 40))))) else (ravelinlaw8_BlockTells.j0 k l0 a1 a2 a3 true))) else (some false))
theorem ravelinlaw8_BlockTells.mono_l : ∀ k, (∀ y0 y1 y2 y3 y4, LeO (ravelinlaw8_BlockTells.j0 k y0 y1 y2 y3 y4) (ravelinlaw8_BlockTells.j0 (k + 1) y0 y1 y2 y3 y4))
  | 0 => fun _ _ _ _ _ r h => by simp [ravelinlaw8_BlockTells.j0] at h
  | k + 1 => by
    have ih0 := ravelinlaw8_BlockTells.mono_l k
    · intro y0 y1 y2 y3 y4
      unfold ravelinlaw8_BlockTells.j0
      repeat' first
      | (with_reducible exact ih0 _ _ _ _ _)
      | (with_reducible exact block_Make.mono _ _)
      | (with_reducible exact block_Read.mono _ _)
      | (with_reducible exact block_Shared.mono _ _ _)
      | (with_reducible exact ravelinlaw8_few.mono _ _)
      | (with_reducible exact ravelinlaw8_known.mono _)
      | (with_reducible exact ravelinref6_Block.mono _ _)
      | (with_reducible exact ravelinref6_ReadBlock.mono _ _)
      | (with_reducible exact ravelinref6_Same.mono _ _ _)
      | (with_reducible exact ravelinref6_Shared.mono _ _ _)
      | (with_reducible exact LeO.refl _)
      | (with_reducible exact LeO.none _)
      | (with_reducible refine LeO.ite ?_ ?_)
      | (with_reducible refine LeO.bind ?_ (fun _ => ?_))
      | exact ih0 _ _ _ _ _
      | exact block_Make.mono _ _
      | exact block_Read.mono _ _
      | exact block_Shared.mono _ _ _
      | exact ravelinlaw8_few.mono _ _
      | exact ravelinlaw8_known.mono _
      | exact ravelinref6_Block.mono _ _
      | exact ravelinref6_ReadBlock.mono _ _
      | exact ravelinref6_Same.mono _ _ _
      | exact ravelinref6_Shared.mono _ _ _
      | exact LeO.none _
      | refine LeO.ite ?_ ?_
      | refine LeO.bind ?_ (fun _ => ?_)
theorem ravelinlaw8_BlockTells.mono : ∀ a0 a1 a2 a3 k, LeO (ravelinlaw8_BlockTells.f k a0 a1 a2 a3) (ravelinlaw8_BlockTells.f (k + 1) a0 a1 a2 a3) := by
  intro a0 a1 a2 a3 k
  have ih0 := ravelinlaw8_BlockTells.mono_l k
  unfold ravelinlaw8_BlockTells.f
  repeat' first
      | (with_reducible exact ih0 _ _ _ _ _)
      | (with_reducible exact block_Make.mono _ _)
      | (with_reducible exact block_Read.mono _ _)
      | (with_reducible exact block_Shared.mono _ _ _)
      | (with_reducible exact ravelinlaw8_few.mono _ _)
      | (with_reducible exact ravelinlaw8_known.mono _)
      | (with_reducible exact ravelinref6_Block.mono _ _)
      | (with_reducible exact ravelinref6_ReadBlock.mono _ _)
      | (with_reducible exact ravelinref6_Same.mono _ _ _)
      | (with_reducible exact ravelinref6_Shared.mono _ _ _)
      | (with_reducible exact LeO.refl _)
      | (with_reducible exact LeO.none _)
      | (with_reducible refine LeO.ite ?_ ?_)
      | (with_reducible refine LeO.bind ?_ (fun _ => ?_))
      | exact ih0 _ _ _ _ _
      | exact block_Make.mono _ _
      | exact block_Read.mono _ _
      | exact block_Shared.mono _ _ _
      | exact ravelinlaw8_few.mono _ _
      | exact ravelinlaw8_known.mono _
      | exact ravelinref6_Block.mono _ _
      | exact ravelinref6_ReadBlock.mono _ _
      | exact ravelinref6_Same.mono _ _ _
      | exact ravelinref6_Shared.mono _ _ _
      | exact LeO.none _
      | refine LeO.ite ?_ ?_
      | refine LeO.bind ?_ (fun _ => ?_)
set_option maxHeartbeats 8000000 in
set_option maxRecDepth 100000 in
theorem ravelinlaw8_BlockTells.calls (k : Nat) (A0 : Option Addr) (c0 : Nat) (l0 : List (S45)) (a1 : ByteArray) (a2 : ByteArray) (a3 : ByteArray) (r : Bool) (w : World) (hr0 : Kd.C k45 w A0 l0.length l0) (hc0 : l0.length ≤ c0) (h : ravelinlaw8_BlockTells.f k l0 a1 a2 a3 = some r) (hr_ : r = true) :
    Calls Try.prog 3 #[.slice A0 l0.length c0, .string a1, .string a2, .string a3] w fun e w' => e = .returned (.bool r) ∧ Below w.heap.size w w' := by
  have HR0 := Aside0.mk hr0
  have HC0 := Aside0.mk hc0
  clear hr0 hc0
  have HB := Aside0.mk (Below.refl w.heap.size w)
  have H : ((ravelinlaw8_known.f k).bind fun t307 => (if t307 = true then ((ravelinlaw8_few.f k l0).bind fun t308 => (if t308 = true then (if (a1.size : Int) > 1000 then (ravelinlaw8_BlockTells.j0 k l0 a1 a2 a3 true) else (if (a2.size : Int) > 40 then (ravelinlaw8_BlockTells.j0 k l0 a1 a2 a3 true) else (ravelinlaw8_BlockTells.j0 k l0 a1 a2 a3 (decide ((a3.size : Int) > 40))))) else (ravelinlaw8_BlockTells.j0 k l0 a1 a2 a3 true))) else (some false))) = some r := h
  clear h
  have HR_ := Aside0.mk hr_
  clear hr_
  replace H := Option.bind_eq_some_iff.mp H
  obtain ⟨t307, A50, H⟩ := H
  replace H : (if t307 = true then ((ravelinlaw8_few.f k l0).bind fun t308 => (if t308 = true then (if (a1.size : Int) > 1000 then (ravelinlaw8_BlockTells.j0 k l0 a1 a2 a3 true) else (if (a2.size : Int) > 40 then (ravelinlaw8_BlockTells.j0 k l0 a1 a2 a3 true) else (ravelinlaw8_BlockTells.j0 k l0 a1 a2 a3 (decide ((a3.size : Int) > 40))))) else (ravelinlaw8_BlockTells.j0 k l0 a1 a2 a3 true))) else (some false)) = some r := H
  have A5 := Aside0.mk A50
  clear A50
  by_cases c6 : t307 = true
  · subst c6
    have H1 : ((ravelinlaw8_few.f k l0).bind fun t308 => (if t308 = true then (if (a1.size : Int) > 1000 then (ravelinlaw8_BlockTells.j0 k l0 a1 a2 a3 true) else (if (a2.size : Int) > 40 then (ravelinlaw8_BlockTells.j0 k l0 a1 a2 a3 true) else (ravelinlaw8_BlockTells.j0 k l0 a1 a2 a3 (decide ((a3.size : Int) > 40))))) else (ravelinlaw8_BlockTells.j0 k l0 a1 a2 a3 true))) = some r := by rw [if_pos rfl] at H; exact H
    clear H
    have H := H1
    clear H1
    have HC7 := Aside0.mk H
    clear H
    go_enter Try.func3, Try.ntmps3
    go_upto_region 3 with (first | ((with_reducible refine gate_callee (f := 7) rfl ?_); refine goesL_ (some 17) rfl rfl Try.func7 (by kernel_rfl) rfl #[] rfl (by (try simp only [List.map_toArray, List.map_cons, List.map_nil]); first | done | rfl | (simp only [List.length_drop, List.length_take]; rfl)) ?_; (with_reducible refine (ravelinlaw8_known.calls k  true _ A5.out (by first | rfl | assumption | exact of_decide_eq_true (by assumption))).mono ?_); rintro e w8 ⟨rfl, hb⟩; refine ⟨_, rfl, ?_⟩; have n0_ := Aside0.mk (below_step (by repeat (first | (with_reducible first | exact HB.out | apply below_alloc | apply pw_below_drewN | apply below_drew1) | exact HB.out)) hb); clear HB; have HB := n0_; clear n0_; (try clear hb); (try clear hb2); (try clear hk); (try clear hi)))
    (try simp only [Act.put, List.setIfInBounds_toArray, List.set_cons_zero, List.set_cons_succ])
    go_cut [36] (fun v36 wc => ∃ (kq : Nat) (x36_6 : Bool), v36 = .bool x36_6 ∧ Aside0 (ravelinlaw8_BlockTells.j0 kq l0 a1 a2 a3 x36_6 = some r) ∧ Aside0 (kq ≤ k) ∧ Aside0 (Below w.heap.size w wc))
    case first =>
      have H := HC7.out
      clear HC7
      replace H := Option.bind_eq_some_iff.mp H
      obtain ⟨t308, A90, H⟩ := H
      replace H : (if t308 = true then (if (a1.size : Int) > 1000 then (ravelinlaw8_BlockTells.j0 k l0 a1 a2 a3 true) else (if (a2.size : Int) > 40 then (ravelinlaw8_BlockTells.j0 k l0 a1 a2 a3 true) else (ravelinlaw8_BlockTells.j0 k l0 a1 a2 a3 (decide ((a3.size : Int) > 40))))) else (ravelinlaw8_BlockTells.j0 k l0 a1 a2 a3 true)) = some r := H
      have A9 := Aside0.mk A90
      clear A90
      by_cases c10 : t308 = true
      · subst c10
        have H1 : (if (a1.size : Int) > 1000 then (ravelinlaw8_BlockTells.j0 k l0 a1 a2 a3 true) else (if (a2.size : Int) > 40 then (ravelinlaw8_BlockTells.j0 k l0 a1 a2 a3 true) else (ravelinlaw8_BlockTells.j0 k l0 a1 a2 a3 (decide ((a3.size : Int) > 40))))) = some r := by rw [if_pos rfl] at H; exact H
        clear H
        have H := H1
        clear H1
        by_cases c11 : (a1.size : Int) > 1000
        · rw [if_pos c11] at H
          have c11b0 : decide (1000 < (a1.size : Int)) = true := decide_eq_true c11
          have c11b1 : decide (1000 < a1.size) = true := decide_eq_true (by omega)
          clear c11
          (first | rw [c11b0] | (simp only [i64_w, i32_w]; rw [c11b0]) | skip)
          have H' := Aside0.mk H
          clear H
          go_wp2_with (first | ((with_reducible refine gate_callee (f := 8) rfl ?_); refine goesL_ (some 20) rfl rfl Try.func8 (by kernel_rfl) rfl #[.slice A0 l0.length c0] rfl (by (try simp only [List.map_toArray, List.map_cons, List.map_nil]); first | done | rfl | (simp only [List.length_drop, List.length_take]; rfl)) ?_; (with_reducible refine (ravelinlaw8_few.calls k _ _ l0 true _ ?side1 ?side2 A9.out).mono ?_); (case side1 => repeat (first | exact (Kd.C_below HR0.out HB.out) | (with_reducible refine Kd.C_alloc ?_ _) | (with_reducible refine Kd.C_drewN ?_ _) | (with_reducible refine Kd.C_drew ?_))); (case side2 => exact HC0.out); rintro e w' ⟨rfl, ⟨nd, rfl⟩⟩; refine ⟨_, rfl, ?_⟩))
          go_meet
          case rel => exact ⟨_, (true), (by first | rfl | (simp; done) | (simp [*]; done)), H', ⟨by first | omega | exact Nat.le_refl _⟩, ⟨by repeat (first | (with_reducible first | exact HB.out | apply below_alloc | apply pw_below_drewN | apply below_drew1) | exact HB.out)⟩⟩
        · rw [if_neg c11] at H
          have c11b0 : decide (1000 < (a1.size : Int)) = false := decide_eq_false c11
          have c11b1 : decide (1000 < a1.size) = false := decide_eq_false (by omega)
          clear c11
          (first | rw [c11b0] | (simp only [i64_w, i32_w]; rw [c11b0]) | skip)
          by_cases c12 : (a2.size : Int) > 40
          · rw [if_pos c12] at H
            have c12b0 : decide (40 < (a2.size : Int)) = true := decide_eq_true c12
            have c12b1 : decide (40 < a2.size) = true := decide_eq_true (by omega)
            clear c12
            have H' := Aside0.mk H
            clear H
            go_wp2_with (first | ((with_reducible refine gate_callee (f := 8) rfl ?_); refine goesL_ (some 20) rfl rfl Try.func8 (by kernel_rfl) rfl #[.slice A0 l0.length c0] rfl (by (try simp only [List.map_toArray, List.map_cons, List.map_nil]); first | done | rfl | (simp only [List.length_drop, List.length_take]; rfl)) ?_; (with_reducible refine (ravelinlaw8_few.calls k _ _ l0 true _ ?side1 ?side2 A9.out).mono ?_); (case side1 => repeat (first | exact (Kd.C_below HR0.out HB.out) | (with_reducible refine Kd.C_alloc ?_ _) | (with_reducible refine Kd.C_drewN ?_ _) | (with_reducible refine Kd.C_drew ?_))); (case side2 => exact HC0.out); rintro e w' ⟨rfl, ⟨nd, rfl⟩⟩; refine ⟨_, rfl, ?_⟩))
            go_meet
            case rel => exact ⟨_, (true), (by first | rfl | (simp; done) | (simp [*]; done)), H', ⟨by first | omega | exact Nat.le_refl _⟩, ⟨by repeat (first | (with_reducible first | exact HB.out | apply below_alloc | apply pw_below_drewN | apply below_drew1) | exact HB.out)⟩⟩
          · rw [if_neg c12] at H
            have c12b0 : decide (40 < (a2.size : Int)) = false := decide_eq_false c12
            have c12b1 : decide (40 < a2.size) = false := decide_eq_false (by omega)
            clear c12
            have H' := Aside0.mk H
            clear H
            go_wp2_with (first | ((with_reducible refine gate_callee (f := 8) rfl ?_); refine goesL_ (some 20) rfl rfl Try.func8 (by kernel_rfl) rfl #[.slice A0 l0.length c0] rfl (by (try simp only [List.map_toArray, List.map_cons, List.map_nil]); first | done | rfl | (simp only [List.length_drop, List.length_take]; rfl)) ?_; (with_reducible refine (ravelinlaw8_few.calls k _ _ l0 true _ ?side1 ?side2 A9.out).mono ?_); (case side1 => repeat (first | exact (Kd.C_below HR0.out HB.out) | (with_reducible refine Kd.C_alloc ?_ _) | (with_reducible refine Kd.C_drewN ?_ _) | (with_reducible refine Kd.C_drew ?_))); (case side2 => exact HC0.out); rintro e w' ⟨rfl, ⟨nd, rfl⟩⟩; refine ⟨_, rfl, ?_⟩))
            go_meet
            case rel => exact ⟨_, (decide ((a3.size : Int) > 40)), (by first | rfl | (simp; done) | (simp [*]; done)), H', ⟨by first | omega | exact Nat.le_refl _⟩, ⟨by repeat (first | (with_reducible first | exact HB.out | apply below_alloc | apply pw_below_drewN | apply below_drew1) | exact HB.out)⟩⟩
      · replace c10 := Bool.eq_false_iff.mpr c10
        subst c10
        have H1 : (ravelinlaw8_BlockTells.j0 k l0 a1 a2 a3 true) = some r := by rw [if_neg (show ¬ (false = true) by decide)] at H; exact H
        clear H
        have H := H1
        clear H1
        have H' := Aside0.mk H
        clear H
        go_wp2_with (first | ((with_reducible refine gate_callee (f := 8) rfl ?_); refine goesL_ (some 20) rfl rfl Try.func8 (by kernel_rfl) rfl #[.slice A0 l0.length c0] rfl (by (try simp only [List.map_toArray, List.map_cons, List.map_nil]); first | done | rfl | (simp only [List.length_drop, List.length_take]; rfl)) ?_; (with_reducible refine (ravelinlaw8_few.calls k _ _ l0 false _ ?side1 ?side2 A9.out).mono ?_); (case side1 => repeat (first | exact (Kd.C_below HR0.out HB.out) | (with_reducible refine Kd.C_alloc ?_ _) | (with_reducible refine Kd.C_drewN ?_ _) | (with_reducible refine Kd.C_drew ?_))); (case side2 => exact HC0.out); rintro e w' ⟨rfl, ⟨nd, rfl⟩⟩; refine ⟨_, rfl, ?_⟩))
        go_meet
        case rel => exact ⟨_, (true), (by first | rfl | (simp; done) | (simp [*]; done)), H', ⟨by first | omega | exact Nat.le_refl _⟩, ⟨by repeat (first | (with_reducible first | exact HB.out | apply below_alloc | apply pw_below_drewN | apply below_drew1) | exact HB.out)⟩⟩
    case rest =>
      clear HC7
      try clear c1
      try clear p2
      try clear c3
      try clear c6
      try clear c7
      try clear c8
      try clear c10
      try clear c11
      try clear c11b0
      try clear c11b1
      try clear c12
      try clear c12b0
      try clear c12b1
      obtain ⟨kq, x36_6, rfl, HA, HJ6, HB⟩ := hcut
      cases kq with
      | zero => exact absurd HA.out (by simp [ravelinlaw8_BlockTells.j0])
      | succ kj6 =>
        have H := HA.out
        clear HA
        simp only [ravelinlaw8_BlockTells.j0] at H
        by_cases c13 : x36_6 = true
        · subst c13
          have H1 : (some true) = some r := by rw [if_pos rfl] at H; exact H
          clear H
          have H := H1
          clear H1
          obtain rfl := Option.some.inj H
          go_wp2
          go_ret
          exact ⟨by first | rfl | (simp [errW_none, errW_some] <;> rfl) | (simp [*, errW_none, errW_some] <;> rfl), by repeat (first | (with_reducible first | exact HB.out | apply below_alloc | apply pw_below_drewN | apply below_drew1) | exact HB.out)⟩
        · replace c13 := Bool.eq_false_iff.mpr c13
          subst c13
          have H1 : ((block_Make.f kj6 l0).bind fun bt309 => ((ravelinref6_Block.f kj6 l0).bind fun bt311 => ((block_Read.f kj6 a1).bind fun bt313 => ((ravelinref6_ReadBlock.f kj6 a1).bind fun bt317 => (if bt309.1.toList = bt311.1.toList then (if bt309.2 = bt311.2 then ((ravelinref6_Same.f kj6 bt313.1 bt317.1).bind fun t321 => (if t321 = true then (if bt313.2 = bt317.2 then ((block_Shared.f kj6 a2 a3).bind fun t322 => ((ravelinref6_Shared.f kj6 a2 a3).bind fun t323 => (some (t322 == t323)))) else (some false)) else (some false))) else (some false)) else (some false)))))) = some r := by rw [if_neg (show ¬ (false = true) by decide)] at H; exact H
          clear H
          have H := H1
          clear H1
          replace H := Option.bind_eq_some_iff.mp H
          obtain ⟨⟨t309, t310⟩, A140, H⟩ := H
          replace H : ((ravelinref6_Block.f kj6 l0).bind fun bt311 => ((block_Read.f kj6 a1).bind fun bt313 => ((ravelinref6_ReadBlock.f kj6 a1).bind fun bt317 => (if t309.toList = bt311.1.toList then (if t310 = bt311.2 then ((ravelinref6_Same.f kj6 bt313.1 bt317.1).bind fun t321 => (if t321 = true then (if bt313.2 = bt317.2 then ((block_Shared.f kj6 a2 a3).bind fun t322 => ((ravelinref6_Shared.f kj6 a2 a3).bind fun t323 => (some (t322 == t323)))) else (some false)) else (some false))) else (some false)) else (some false))))) = some r := H
          have A14 := Aside0.mk A140
          clear A140
          replace H := Option.bind_eq_some_iff.mp H
          obtain ⟨⟨t311, t312⟩, A150, H⟩ := H
          replace H : ((block_Read.f kj6 a1).bind fun bt313 => ((ravelinref6_ReadBlock.f kj6 a1).bind fun bt317 => (if t309.toList = t311.toList then (if t310 = t312 then ((ravelinref6_Same.f kj6 bt313.1 bt317.1).bind fun t321 => (if t321 = true then (if bt313.2 = bt317.2 then ((block_Shared.f kj6 a2 a3).bind fun t322 => ((ravelinref6_Shared.f kj6 a2 a3).bind fun t323 => (some (t322 == t323)))) else (some false)) else (some false))) else (some false)) else (some false)))) = some r := H
          have A15 := Aside0.mk A150
          clear A150
          replace H := Option.bind_eq_some_iff.mp H
          obtain ⟨⟨t313, t314⟩, A160, H⟩ := H
          replace H : ((ravelinref6_ReadBlock.f kj6 a1).bind fun bt317 => (if t309.toList = t311.toList then (if t310 = t312 then ((ravelinref6_Same.f kj6 t313 bt317.1).bind fun t321 => (if t321 = true then (if t314 = bt317.2 then ((block_Shared.f kj6 a2 a3).bind fun t322 => ((ravelinref6_Shared.f kj6 a2 a3).bind fun t323 => (some (t322 == t323)))) else (some false)) else (some false))) else (some false)) else (some false))) = some r := H
          have A16 := Aside0.mk A160
          clear A160
          replace H := Option.bind_eq_some_iff.mp H
          obtain ⟨⟨t317, t318⟩, A170, H⟩ := H
          replace H : (if t309.toList = t311.toList then (if t310 = t312 then ((ravelinref6_Same.f kj6 t313 t317).bind fun t321 => (if t321 = true then (if t314 = t318 then ((block_Shared.f kj6 a2 a3).bind fun t322 => ((ravelinref6_Shared.f kj6 a2 a3).bind fun t323 => (some (t322 == t323)))) else (some false)) else (some false))) else (some false)) else (some false)) = some r := H
          have A17 := Aside0.mk A170
          clear A170
          by_cases c18 : t309.toList = t311.toList
          · rw [if_pos c18] at H
            have c18b0 : (t309.toList == t311.toList) = true := beq_iff_eq.mpr c18
            have c18b1 : (t309.toList != t311.toList) = false := bne_eq_false_iff_eq.mpr c18
            clear c18
            by_cases c19 : t310 = t312
            · rw [if_pos c19] at H
              have c19b0 : (t310 == t312) = true := beq_iff_eq.mpr c19
              have c19b1 : (t310 != t312) = false := bne_eq_false_iff_eq.mpr c19
              clear c19
              replace H := Option.bind_eq_some_iff.mp H
              obtain ⟨t321, A200, H⟩ := H
              replace H : (if t321 = true then (if t314 = t318 then ((block_Shared.f kj6 a2 a3).bind fun t322 => ((ravelinref6_Shared.f kj6 a2 a3).bind fun t323 => (some (t322 == t323)))) else (some false)) else (some false)) = some r := H
              have A20 := Aside0.mk A200
              clear A200
              by_cases c21 : t321 = true
              · subst c21
                have H1 : (if t314 = t318 then ((block_Shared.f kj6 a2 a3).bind fun t322 => ((ravelinref6_Shared.f kj6 a2 a3).bind fun t323 => (some (t322 == t323)))) else (some false)) = some r := by rw [if_pos rfl] at H; exact H
                clear H
                have H := H1
                clear H1
                by_cases c22 : t314 = t318
                · rw [if_pos c22] at H
                  have c22b0 : (t314 == t318) = true := beq_iff_eq.mpr c22
                  have c22b1 : (t314 != t318) = false := bne_eq_false_iff_eq.mpr c22
                  clear c22
                  replace H := Option.bind_eq_some_iff.mp H
                  obtain ⟨t322, A230, H⟩ := H
                  replace H : ((ravelinref6_Shared.f kj6 a2 a3).bind fun t323 => (some (t322 == t323))) = some r := H
                  have A23 := Aside0.mk A230
                  clear A230
                  replace H := Option.bind_eq_some_iff.mp H
                  obtain ⟨t323, A240, H⟩ := H
                  replace H : (some (t322 == t323)) = some r := H
                  have A24 := Aside0.mk A240
                  clear A240
                  obtain rfl := Option.some.inj H
                  go_wp2_with (first | ((with_reducible refine gate_callee (f := 9) rfl ?_); refine goesL_ (some 39) rfl rfl Try.func9 (by kernel_rfl) rfl #[.slice A0 l0.length c0] rfl (by (try simp only [List.map_toArray, List.map_cons, List.map_nil]); first | done | rfl | (simp only [List.length_drop, List.length_take]; rfl)) ?_; (with_reducible refine (block_Make.calls kj6 _ _ l0 t309 t310 _ ?side1 ?side2 A14.out).mono ?_); (case side1 => repeat (first | exact (Kd.C_below HR0.out HB.out) | (with_reducible refine Kd.C_alloc ?_ _) | (with_reducible refine Kd.C_drewN ?_ _) | (with_reducible refine Kd.C_drew ?_))); (case side2 => exact HC0.out); rintro e w25 ⟨rfl, hb⟩; refine ⟨_, rfl, ?_⟩; have n0_ := Aside0.mk (below_step (by repeat (first | (with_reducible first | exact HB.out | apply below_alloc | apply pw_below_drewN | apply below_drew1) | exact HB.out)) hb); clear HB; have HB := n0_; clear n0_; (try clear hb); (try clear hb2); (try clear hk); (try clear hi)) | ((with_reducible refine gate_callee (f := 10) rfl ?_); refine goesL_ (some 44) rfl rfl Try.func10 (by kernel_rfl) rfl #[.slice A0 l0.length c0] rfl (by (try simp only [List.map_toArray, List.map_cons, List.map_nil]); first | done | rfl | (simp only [List.length_drop, List.length_take]; rfl)) ?_; (with_reducible refine (ravelinref6_Block.calls kj6 _ _ l0 t311 t312 _ ?side1 ?side2 A15.out).mono ?_); (case side1 => repeat (first | exact (Kd.C_below HR0.out HB.out) | (with_reducible refine Kd.C_alloc ?_ _) | (with_reducible refine Kd.C_drewN ?_ _) | (with_reducible refine Kd.C_drew ?_))); (case side2 => exact HC0.out); rintro e w26 ⟨rfl, hb⟩; refine ⟨_, rfl, ?_⟩; have n0_ := Aside0.mk (below_step (by repeat (first | (with_reducible first | exact HB.out | apply below_alloc | apply pw_below_drewN | apply below_drew1) | exact HB.out)) hb); clear HB; have HB := n0_; clear n0_; (try clear hb); (try clear hb2); (try clear hk); (try clear hi)) | ((with_reducible refine gate_callee (f := 11) rfl ?_); refine goesL_ (some 49) rfl rfl Try.func11 (by kernel_rfl) rfl #[.string a1] rfl (by (try simp only [List.map_toArray, List.map_cons, List.map_nil]); first | done | rfl | (simp only [List.length_drop, List.length_take]; rfl)) ?_; (with_reducible refine (block_Read.calls kj6 a1 t313 t314 _ A16.out).mono ?_); rintro e w27 ⟨v315, rfl, ho0, hb⟩; refine ⟨_, rfl, ?_⟩; have n0_ := Aside0.mk (Kd.R_lower ho0 (below_size (by repeat (first | (with_reducible first | exact HB.out | apply below_alloc | apply pw_below_drewN | apply below_drew1) | exact HB.out)))); have n1_ := Aside0.mk (below_step (by repeat (first | (with_reducible first | exact HB.out | apply below_alloc | apply pw_below_drewN | apply below_drew1) | exact HB.out)) hb); clear HB; have HO316 := n0_; have HB := n1_; clear n0_ n1_; (try clear hb); (try clear hb2); (try clear hk); (try clear hi); (try clear ho0)) | ((with_reducible refine gate_callee (f := 12) rfl ?_); refine goesL_ (some 54) rfl rfl Try.func12 (by kernel_rfl) rfl #[.string a1] rfl (by (try simp only [List.map_toArray, List.map_cons, List.map_nil]); first | done | rfl | (simp only [List.length_drop, List.length_take]; rfl)) ?_; (with_reducible refine (ravelinref6_ReadBlock.calls kj6 a1 t317 t318 _ A17.out).mono ?_); rintro e w28 ⟨v319, rfl, ho0, hb⟩; refine ⟨_, rfl, ?_⟩; have n0_ := Aside0.mk (Kd.R_elder' (by (with_reducible repeat (first | apply Kd.R_alloc | apply Kd.R_drewN | apply Kd.R_drew)); exact HO316.out) (Kd.R_base ho0) hb); have n1_ := Aside0.mk (Kd.R_lower (Kd.R_new' ho0 (Kd.R_lt (by (with_reducible repeat (first | apply Kd.R_alloc | apply Kd.R_drewN | apply Kd.R_drew)); exact HO316.out))) (below_size (by repeat (first | (with_reducible first | exact HB.out | apply below_alloc | apply pw_below_drewN | apply below_drew1) | exact HB.out)))); have n2_ := Aside0.mk (below_step (by repeat (first | (with_reducible first | exact HB.out | apply below_alloc | apply pw_below_drewN | apply below_drew1) | exact HB.out)) hb); clear HO316; clear HB; have HO316 := n0_; have HO320 := n1_; have HB := n2_; clear n0_ n1_ n2_; (try clear hb); (try clear hb2); (try clear hk); (try clear hi); (try clear ho0); obtain ⟨Ao29, co29, eo29⟩ := Kd.R_slice HO316.out; subst eo29; obtain ⟨Ao30, co30, eo30⟩ := Kd.R_slice HO320.out; subst eo30) | (go_at_call 13; (with_reducible refine (ravelinref6_Same.calls kj6 _ _ t313 _ _ t317 true _ ?side1 ?side2 ?side3 ?side4 A20.out).mono ?_); (case side1 => repeat (first | exact (Kd.R_reads' HO316.out).2.2 | (with_reducible refine Kd.C_alloc ?_ _) | (with_reducible refine Kd.C_drewN ?_ _) | (with_reducible refine Kd.C_drew ?_))); (case side2 => exact (Kd.R_reads' HO316.out).2.1); (case side3 => repeat (first | exact (Kd.R_reads' HO320.out).2.2 | (with_reducible refine Kd.C_alloc ?_ _) | (with_reducible refine Kd.C_drewN ?_ _) | (with_reducible refine Kd.C_drew ?_))); (case side4 => exact (Kd.R_reads' HO320.out).2.1); rintro e w' ⟨rfl, ⟨nd, rfl⟩⟩) | (go_at_call 14; (with_reducible refine (block_Shared.calls kj6 a2 a3 t322 _ A23.out).mono ?_); rintro e w' ⟨rfl, ⟨nd, rfl⟩⟩) | (go_at_call 15; (with_reducible refine (ravelinref6_Shared.calls kj6 a2 a3 t323 _ A24.out).mono ?_); rintro e w' ⟨rfl, ⟨nd, rfl⟩⟩))
                  go_ret
                  exact ⟨by first | rfl | (simp [errW_none, errW_some] <;> rfl) | (simp [*, errW_none, errW_some] <;> rfl), by repeat (first | (with_reducible first | exact HB.out | apply below_alloc | apply pw_below_drewN | apply below_drew1) | exact HB.out)⟩
                · rw [if_neg c22] at H
                  have c22b0 : (t314 == t318) = false := beq_eq_false_iff_ne.mpr c22
                  have c22b1 : (t314 != t318) = true := bne_iff_ne.mpr c22
                  exact absurd ((Option.some.inj H).trans HR_.out) (by decide)
              · replace c21 := Bool.eq_false_iff.mpr c21
                subst c21
                have H1 : (some false) = some r := by rw [if_neg (show ¬ (false = true) by decide)] at H; exact H
                clear H
                have H := H1
                clear H1
                exact absurd ((Option.some.inj H).trans HR_.out) (by decide)
            · rw [if_neg c19] at H
              have c19b0 : (t310 == t312) = false := beq_eq_false_iff_ne.mpr c19
              have c19b1 : (t310 != t312) = true := bne_iff_ne.mpr c19
              exact absurd ((Option.some.inj H).trans HR_.out) (by decide)
          · rw [if_neg c18] at H
            have c18b0 : (t309.toList == t311.toList) = false := beq_eq_false_iff_ne.mpr c18
            have c18b1 : (t309.toList != t311.toList) = true := bne_iff_ne.mpr c18
            exact absurd ((Option.some.inj H).trans HR_.out) (by decide)
  · replace c6 := Bool.eq_false_iff.mpr c6
    subst c6
    have H1 : (some false) = some r := by rw [if_neg (show ¬ (false = true) by decide)] at H; exact H
    clear H
    have H := H1
    clear H1
    exact absurd ((Option.some.inj H).trans HR_.out) (by decide)
def ravelinlaw8_BlockTells.Pure : Prop := ∀ (l0 : List (S45)) (a1 : ByteArray) (a2 : ByteArray) (a3 : ByteArray), l0.length ≤ 9223372036854775807 → (∀ y_ ∈ l0, (y_.f0.size ≤ 9223372036854775807 ∧ (Lit.int .i64 y_.f1).wf = true ∧ True ∧ y_.f3.size ≤ 9223372036854775807)) → a1.size ≤ 140737488351232 → a2.size ≤ 140737488351232 → a3.size ≤ 140737488351232 → ∃ k, ravelinlaw8_BlockTells.f k l0 a1 a2 a3 = some true

/-! ### ravelinlaw8_BlockBack: function 4 -/
def ravelinlaw8_BlockBack.j0 : Nat → Int → Int → ByteArray → Bool → Option (Bool)
  | 0, _, _, _, _ => none
  | k + 1, x1, x2, x7, x58 => if x58 = true then (some false) else (if (x7.size : Int) = 0 then (none) else (if 0 ≤ (Int.tmod (wrap64 (x1)) (x7.size : Int)) then (if (Int.tmod (wrap64 (x1)) (x7.size : Int)) < (x7.size : Int) then ((block_Read.f k (strOfNums ((bytesOf x7).set ((Int.tmod (wrap64 (x1)) (x7.size : Int)) : Int).toNat (Go.bits .xor .u8 (rd (bytesOf x7) (Int.tmod (wrap64 (x1)) (x7.size : Int))) x2)))).bind fun bt336 => (if (Int.tmod (wrap64 (x1)) (x7.size : Int)) ≤ (x7.size : Int) then ((block_Read.f k (x7.extract 0 ((Int.tmod (wrap64 (x1)) (x7.size : Int)) : Int).toNat)).bind fun bt340 => ((ravelinref3_Open.f k x7).bind fun bt344 => (if (bt344.1.size : Int) = 0 then (none) else (if 0 ≤ (Int.tmod (wrap64 (x1)) (bt344.1.size : Int)) then (if (Int.tmod (wrap64 (x1)) (bt344.1.size : Int)) < (bt344.1.size : Int) then ((ravelinref3_Seal.f k (strOfNums ((bytesOf bt344.1).set ((Int.tmod (wrap64 (x1)) (bt344.1.size : Int)) : Int).toNat (Go.bits .xor .u8 (rd (bytesOf bt344.1) (Int.tmod (wrap64 (x1)) (bt344.1.size : Int))) x2)))).bind fun t350 => ((block_Read.f k t350).bind fun bt351 => ((block_Make.f k bt351.1).bind fun bt355 => (if ((bt336.2 == 0) == (x2 == 0)) = true then (if bt336.2 = 0 then (if bt340.2 = 12 then (if (bt340.1.length : Int) = 0 then (if bt351.2 = 0 then (if bt355.2 = 0 then (some (bt355.1.toList == t350.toList)) else (some false)) else (if (bt351.1.length : Int) = 0 then (some true) else (some false))) else (some false)) else (some false)) else (if (bt336.1.length : Int) = 0 then (if bt340.2 = 12 then (if (bt340.1.length : Int) = 0 then (if bt351.2 = 0 then (if bt355.2 = 0 then (some (bt355.1.toList == t350.toList)) else (some false)) else (if (bt351.1.length : Int) = 0 then (some true) else (some false))) else (some false)) else (some false)) else (some false))) else (some false))))) else (none)) else (none))))) else (none))) else (none)) else (none)))
def ravelinlaw8_BlockBack.f (k : Nat) (l0 : List (S45)) (a1 : Int) (a2 : Int) : Option (Bool) := (ravelinlaw8_known.f k).bind fun t324 => (if t324 = true then ((ravelinlaw8_few.f k l0).bind fun t325 => (if t325 = true then ((block_Make.f k l0).bind fun bt326 => (if bt326.2 = 0 then ((block_Read.f k bt326.1).bind fun bt328 => (if bt328.2 = 0 then ((ravelinref6_Same.f k bt328.1 l0).bind fun t332 => (if t332 = true then (ravelinlaw8_BlockBack.j0 k a1 a2 bt326.1 (decide ((bt326.1.size : Int) < 6))) else (ravelinlaw8_BlockBack.j0 k a1 a2 bt326.1 true))) else (ravelinlaw8_BlockBack.j0 k a1 a2 bt326.1 true))) else (some (bt326.1.toList == ([] : List UInt8))))) else (some true))) else (some false))
theorem ravelinlaw8_BlockBack.mono_l : ∀ k, (∀ y0 y1 y2 y3, LeO (ravelinlaw8_BlockBack.j0 k y0 y1 y2 y3) (ravelinlaw8_BlockBack.j0 (k + 1) y0 y1 y2 y3))
  | 0 => fun _ _ _ _ r h => by simp [ravelinlaw8_BlockBack.j0] at h
  | k + 1 => by
    have ih0 := ravelinlaw8_BlockBack.mono_l k
    · intro y0 y1 y2 y3
      unfold ravelinlaw8_BlockBack.j0
      repeat' first
      | (with_reducible exact ih0 _ _ _ _)
      | (with_reducible exact block_Make.mono _ _)
      | (with_reducible exact block_Read.mono _ _)
      | (with_reducible exact ravelinlaw8_few.mono _ _)
      | (with_reducible exact ravelinlaw8_known.mono _)
      | (with_reducible exact ravelinref3_Open.mono _ _)
      | (with_reducible exact ravelinref3_Seal.mono _ _)
      | (with_reducible exact ravelinref6_Same.mono _ _ _)
      | (with_reducible exact LeO.refl _)
      | (with_reducible exact LeO.none _)
      | (with_reducible refine LeO.ite ?_ ?_)
      | (with_reducible refine LeO.bind ?_ (fun _ => ?_))
      | exact ih0 _ _ _ _
      | exact block_Make.mono _ _
      | exact block_Read.mono _ _
      | exact ravelinlaw8_few.mono _ _
      | exact ravelinlaw8_known.mono _
      | exact ravelinref3_Open.mono _ _
      | exact ravelinref3_Seal.mono _ _
      | exact ravelinref6_Same.mono _ _ _
      | exact LeO.none _
      | refine LeO.ite ?_ ?_
      | refine LeO.bind ?_ (fun _ => ?_)
theorem ravelinlaw8_BlockBack.mono : ∀ a0 a1 a2 k, LeO (ravelinlaw8_BlockBack.f k a0 a1 a2) (ravelinlaw8_BlockBack.f (k + 1) a0 a1 a2) := by
  intro a0 a1 a2 k
  have ih0 := ravelinlaw8_BlockBack.mono_l k
  unfold ravelinlaw8_BlockBack.f
  repeat' first
      | (with_reducible exact ih0 _ _ _ _)
      | (with_reducible exact block_Make.mono _ _)
      | (with_reducible exact block_Read.mono _ _)
      | (with_reducible exact ravelinlaw8_few.mono _ _)
      | (with_reducible exact ravelinlaw8_known.mono _)
      | (with_reducible exact ravelinref3_Open.mono _ _)
      | (with_reducible exact ravelinref3_Seal.mono _ _)
      | (with_reducible exact ravelinref6_Same.mono _ _ _)
      | (with_reducible exact LeO.refl _)
      | (with_reducible exact LeO.none _)
      | (with_reducible refine LeO.ite ?_ ?_)
      | (with_reducible refine LeO.bind ?_ (fun _ => ?_))
      | exact ih0 _ _ _ _
      | exact block_Make.mono _ _
      | exact block_Read.mono _ _
      | exact ravelinlaw8_few.mono _ _
      | exact ravelinlaw8_known.mono _
      | exact ravelinref3_Open.mono _ _
      | exact ravelinref3_Seal.mono _ _
      | exact ravelinref6_Same.mono _ _ _
      | exact LeO.none _
      | refine LeO.ite ?_ ?_
      | refine LeO.bind ?_ (fun _ => ?_)
set_option maxHeartbeats 8000000 in
set_option maxRecDepth 100000 in
theorem ravelinlaw8_BlockBack.calls (k : Nat) (A0 : Option Addr) (c0 : Nat) (l0 : List (S45)) (a1 : Int) (a2 : Int) (r : Bool) (w : World) (hr0 : Kd.C k45 w A0 l0.length l0) (hc0 : l0.length ≤ c0) (h : ravelinlaw8_BlockBack.f k l0 a1 a2 = some r) (hr_ : r = true) :
    Calls Try.prog 4 #[.slice A0 l0.length c0, .int .u16 a1, .int .u8 a2] w fun e w' => e = .returned (.bool r) ∧ Below w.heap.size w w' := by
  have HR0 := Aside0.mk hr0
  have HC0 := Aside0.mk hc0
  clear hr0 hc0
  have HB := Aside0.mk (Below.refl w.heap.size w)
  have H : ((ravelinlaw8_known.f k).bind fun t324 => (if t324 = true then ((ravelinlaw8_few.f k l0).bind fun t325 => (if t325 = true then ((block_Make.f k l0).bind fun bt326 => (if bt326.2 = 0 then ((block_Read.f k bt326.1).bind fun bt328 => (if bt328.2 = 0 then ((ravelinref6_Same.f k bt328.1 l0).bind fun t332 => (if t332 = true then (ravelinlaw8_BlockBack.j0 k a1 a2 bt326.1 (decide ((bt326.1.size : Int) < 6))) else (ravelinlaw8_BlockBack.j0 k a1 a2 bt326.1 true))) else (ravelinlaw8_BlockBack.j0 k a1 a2 bt326.1 true))) else (some (bt326.1.toList == ([] : List UInt8))))) else (some true))) else (some false))) = some r := h
  clear h
  have HR_ := Aside0.mk hr_
  clear hr_
  replace H := Option.bind_eq_some_iff.mp H
  obtain ⟨t324, A40, H⟩ := H
  replace H : (if t324 = true then ((ravelinlaw8_few.f k l0).bind fun t325 => (if t325 = true then ((block_Make.f k l0).bind fun bt326 => (if bt326.2 = 0 then ((block_Read.f k bt326.1).bind fun bt328 => (if bt328.2 = 0 then ((ravelinref6_Same.f k bt328.1 l0).bind fun t332 => (if t332 = true then (ravelinlaw8_BlockBack.j0 k a1 a2 bt326.1 (decide ((bt326.1.size : Int) < 6))) else (ravelinlaw8_BlockBack.j0 k a1 a2 bt326.1 true))) else (ravelinlaw8_BlockBack.j0 k a1 a2 bt326.1 true))) else (some (bt326.1.toList == ([] : List UInt8))))) else (some true))) else (some false)) = some r := H
  have A4 := Aside0.mk A40
  clear A40
  by_cases c5 : t324 = true
  · subst c5
    have H1 : ((ravelinlaw8_few.f k l0).bind fun t325 => (if t325 = true then ((block_Make.f k l0).bind fun bt326 => (if bt326.2 = 0 then ((block_Read.f k bt326.1).bind fun bt328 => (if bt328.2 = 0 then ((ravelinref6_Same.f k bt328.1 l0).bind fun t332 => (if t332 = true then (ravelinlaw8_BlockBack.j0 k a1 a2 bt326.1 (decide ((bt326.1.size : Int) < 6))) else (ravelinlaw8_BlockBack.j0 k a1 a2 bt326.1 true))) else (ravelinlaw8_BlockBack.j0 k a1 a2 bt326.1 true))) else (some (bt326.1.toList == ([] : List UInt8))))) else (some true))) = some r := by rw [if_pos rfl] at H; exact H
    clear H
    have H := H1
    clear H1
    replace H := Option.bind_eq_some_iff.mp H
    obtain ⟨t325, A60, H⟩ := H
    replace H : (if t325 = true then ((block_Make.f k l0).bind fun bt326 => (if bt326.2 = 0 then ((block_Read.f k bt326.1).bind fun bt328 => (if bt328.2 = 0 then ((ravelinref6_Same.f k bt328.1 l0).bind fun t332 => (if t332 = true then (ravelinlaw8_BlockBack.j0 k a1 a2 bt326.1 (decide ((bt326.1.size : Int) < 6))) else (ravelinlaw8_BlockBack.j0 k a1 a2 bt326.1 true))) else (ravelinlaw8_BlockBack.j0 k a1 a2 bt326.1 true))) else (some (bt326.1.toList == ([] : List UInt8))))) else (some true)) = some r := H
    have A6 := Aside0.mk A60
    clear A60
    by_cases c7 : t325 = true
    · subst c7
      have H1 : ((block_Make.f k l0).bind fun bt326 => (if bt326.2 = 0 then ((block_Read.f k bt326.1).bind fun bt328 => (if bt328.2 = 0 then ((ravelinref6_Same.f k bt328.1 l0).bind fun t332 => (if t332 = true then (ravelinlaw8_BlockBack.j0 k a1 a2 bt326.1 (decide ((bt326.1.size : Int) < 6))) else (ravelinlaw8_BlockBack.j0 k a1 a2 bt326.1 true))) else (ravelinlaw8_BlockBack.j0 k a1 a2 bt326.1 true))) else (some (bt326.1.toList == ([] : List UInt8))))) = some r := by rw [if_pos rfl] at H; exact H
      clear H
      have H := H1
      clear H1
      replace H := Option.bind_eq_some_iff.mp H
      obtain ⟨⟨t326, t327⟩, A80, H⟩ := H
      replace H : (if t327 = 0 then ((block_Read.f k t326).bind fun bt328 => (if bt328.2 = 0 then ((ravelinref6_Same.f k bt328.1 l0).bind fun t332 => (if t332 = true then (ravelinlaw8_BlockBack.j0 k a1 a2 t326 (decide ((t326.size : Int) < 6))) else (ravelinlaw8_BlockBack.j0 k a1 a2 t326 true))) else (ravelinlaw8_BlockBack.j0 k a1 a2 t326 true))) else (some (t326.toList == ([] : List UInt8)))) = some r := H
      have A8 := Aside0.mk A80
      clear A80
      by_cases c9 : t327 = 0
      · rw [if_pos c9] at H
        have c9b0 : (t327 == 0) = true := beq_iff_eq.mpr c9
        have c9b1 : (t327 != 0) = false := bne_eq_false_iff_eq.mpr c9
        clear c9
        replace H := Option.bind_eq_some_iff.mp H
        obtain ⟨⟨t328, t329⟩, A100, H⟩ := H
        replace H : (if t329 = 0 then ((ravelinref6_Same.f k t328 l0).bind fun t332 => (if t332 = true then (ravelinlaw8_BlockBack.j0 k a1 a2 t326 (decide ((t326.size : Int) < 6))) else (ravelinlaw8_BlockBack.j0 k a1 a2 t326 true))) else (ravelinlaw8_BlockBack.j0 k a1 a2 t326 true)) = some r := H
        have A10 := Aside0.mk A100
        clear A100
        have HC11 := Aside0.mk H
        clear H
        go_enter Try.func4, Try.ntmps4
        go_upto_region 9 with (first | ((with_reducible refine gate_callee (f := 7) rfl ?_); refine goesL_ (some 27) rfl rfl Try.func7 (by kernel_rfl) rfl #[] rfl (by (try simp only [List.map_toArray, List.map_cons, List.map_nil]); first | done | rfl | (simp only [List.length_drop, List.length_take]; rfl)) ?_; (with_reducible refine (ravelinlaw8_known.calls k  true _ A4.out (by first | rfl | assumption | exact of_decide_eq_true (by assumption))).mono ?_); rintro e w12 ⟨rfl, hb⟩; refine ⟨_, rfl, ?_⟩; have n0_ := Aside0.mk (below_step (by repeat (first | (with_reducible first | exact HB.out | apply below_alloc | apply pw_below_drewN | apply below_drew1) | exact HB.out)) hb); clear HB; have HB := n0_; clear n0_; (try clear hb); (try clear hb2); (try clear hk); (try clear hi)) | ((with_reducible refine gate_callee (f := 8) rfl ?_); refine goesL_ (some 30) rfl rfl Try.func8 (by kernel_rfl) rfl #[.slice A0 l0.length c0] rfl (by (try simp only [List.map_toArray, List.map_cons, List.map_nil]); first | done | rfl | (simp only [List.length_drop, List.length_take]; rfl)) ?_; (with_reducible refine (ravelinlaw8_few.calls k _ _ l0 true _ ?side1 ?side2 A6.out).mono ?_); (case side1 => repeat (first | exact (Kd.C_below HR0.out HB.out) | (with_reducible refine Kd.C_alloc ?_ _) | (with_reducible refine Kd.C_drewN ?_ _) | (with_reducible refine Kd.C_drew ?_))); (case side2 => exact HC0.out); rintro e w' ⟨rfl, ⟨nd, rfl⟩⟩; refine ⟨_, rfl, ?_⟩) | ((with_reducible refine gate_callee (f := 9) rfl ?_); refine goesL_ (some 34) rfl rfl Try.func9 (by kernel_rfl) rfl #[.slice A0 l0.length c0] rfl (by (try simp only [List.map_toArray, List.map_cons, List.map_nil]); first | done | rfl | (simp only [List.length_drop, List.length_take]; rfl)) ?_; (with_reducible refine (block_Make.calls k _ _ l0 t326 t327 _ ?side1 ?side2 A8.out).mono ?_); (case side1 => repeat (first | exact (Kd.C_below HR0.out (by repeat (first | (with_reducible first | exact HB.out | apply below_alloc | apply pw_below_drewN | apply below_drew1) | exact HB.out))) | (with_reducible refine Kd.C_alloc ?_ _) | (with_reducible refine Kd.C_drewN ?_ _) | (with_reducible refine Kd.C_drew ?_))); (case side2 => exact HC0.out); rintro e w13 ⟨rfl, hb⟩; refine ⟨_, rfl, ?_⟩; have n0_ := Aside0.mk (below_step (by repeat (first | (with_reducible first | exact HB.out | apply below_alloc | apply pw_below_drewN | apply below_drew1) | exact HB.out)) hb); clear HB; have HB := n0_; clear n0_; (try clear hb); (try clear hb2); (try clear hk); (try clear hi)) | ((with_reducible refine gate_callee (f := 11) rfl ?_); refine goesL_ (some 43) rfl rfl Try.func11 (by kernel_rfl) rfl #[.string t326] rfl (by (try simp only [List.map_toArray, List.map_cons, List.map_nil]); first | done | rfl | (simp only [List.length_drop, List.length_take]; rfl)) ?_; (with_reducible refine (block_Read.calls k t326 t328 t329 _ A10.out).mono ?_); rintro e w14 ⟨v330, rfl, ho0, hb⟩; refine ⟨_, rfl, ?_⟩; have n0_ := Aside0.mk (Kd.R_lower ho0 (below_size (by repeat (first | (with_reducible first | exact HB.out | apply below_alloc | apply pw_below_drewN | apply below_drew1) | exact HB.out)))); have n1_ := Aside0.mk (below_step (by repeat (first | (with_reducible first | exact HB.out | apply below_alloc | apply pw_below_drewN | apply below_drew1) | exact HB.out)) hb); clear HB; have HO331 := n0_; have HB := n1_; clear n0_ n1_; (try clear hb); (try clear hb2); (try clear hk); (try clear hi); (try clear ho0)))
        (try simp only [Act.put, List.setIfInBounds_toArray, List.set_cons_zero, List.set_cons_succ])
        go_cut [58] (fun v58 wc => ∃ (kq : Nat) (x58_10 : Bool), v58 = .bool x58_10 ∧ Aside0 (ravelinlaw8_BlockBack.j0 kq a1 a2 t326 x58_10 = some r) ∧ Aside0 (kq ≤ k) ∧ Aside0 (Below w.heap.size w wc))
        case first =>
          have H := HC11.out
          clear HC11
          by_cases c15 : t329 = 0
          · rw [if_pos c15] at H
            have c15b0 : (t329 == 0) = true := beq_iff_eq.mpr c15
            have c15b1 : (t329 != 0) = false := bne_eq_false_iff_eq.mpr c15
            clear c15
            (first | rw [c15b0] | (simp only [i64_w, i32_w]; rw [c15b0]) | skip)
            replace H := Option.bind_eq_some_iff.mp H
            obtain ⟨t332, A160, H⟩ := H
            replace H : (if t332 = true then (ravelinlaw8_BlockBack.j0 k a1 a2 t326 (decide ((t326.size : Int) < 6))) else (ravelinlaw8_BlockBack.j0 k a1 a2 t326 true)) = some r := H
            have A16 := Aside0.mk A160
            clear A160
            by_cases c17 : t332 = true
            · subst c17
              have H1 : (ravelinlaw8_BlockBack.j0 k a1 a2 t326 (decide ((t326.size : Int) < 6))) = some r := by rw [if_pos rfl] at H; exact H
              clear H
              have H := H1
              clear H1
              have H' := Aside0.mk H
              clear H
              obtain ⟨Ao18, co18, eo18⟩ := Kd.R_slice HO331.out
              subst eo18
              go_wp2_with (first | (go_at_call 13; (with_reducible refine (ravelinref6_Same.calls k _ _ t328 _ _ l0 true _ ?side1 ?side2 ?side3 ?side4 A16.out).mono ?_); (case side1 => repeat (first | exact (Kd.R_reads' HO331.out).2.2 | (with_reducible refine Kd.C_alloc ?_ _) | (with_reducible refine Kd.C_drewN ?_ _) | (with_reducible refine Kd.C_drew ?_))); (case side2 => exact (Kd.R_reads' HO331.out).2.1); (case side3 => repeat (first | exact (Kd.C_below HR0.out HB.out) | (with_reducible refine Kd.C_alloc ?_ _) | (with_reducible refine Kd.C_drewN ?_ _) | (with_reducible refine Kd.C_drew ?_))); (case side4 => exact HC0.out); rintro e w' ⟨rfl, ⟨nd, rfl⟩⟩))
              go_meet
              case rel => exact ⟨_, (decide ((t326.size : Int) < 6)), (by first | rfl | (simp; done) | (simp [*]; done)), H', ⟨by first | omega | exact Nat.le_refl _⟩, ⟨by repeat (first | (with_reducible first | exact HB.out | apply below_alloc | apply pw_below_drewN | apply below_drew1) | exact HB.out)⟩⟩
            · replace c17 := Bool.eq_false_iff.mpr c17
              subst c17
              have H1 : (ravelinlaw8_BlockBack.j0 k a1 a2 t326 true) = some r := by rw [if_neg (show ¬ (false = true) by decide)] at H; exact H
              clear H
              have H := H1
              clear H1
              have H' := Aside0.mk H
              clear H
              obtain ⟨Ao19, co19, eo19⟩ := Kd.R_slice HO331.out
              subst eo19
              go_wp2_with (first | (go_at_call 13; (with_reducible refine (ravelinref6_Same.calls k _ _ t328 _ _ l0 false _ ?side1 ?side2 ?side3 ?side4 A16.out).mono ?_); (case side1 => repeat (first | exact (Kd.R_reads' HO331.out).2.2 | (with_reducible refine Kd.C_alloc ?_ _) | (with_reducible refine Kd.C_drewN ?_ _) | (with_reducible refine Kd.C_drew ?_))); (case side2 => exact (Kd.R_reads' HO331.out).2.1); (case side3 => repeat (first | exact (Kd.C_below HR0.out HB.out) | (with_reducible refine Kd.C_alloc ?_ _) | (with_reducible refine Kd.C_drewN ?_ _) | (with_reducible refine Kd.C_drew ?_))); (case side4 => exact HC0.out); rintro e w' ⟨rfl, ⟨nd, rfl⟩⟩))
              go_meet
              case rel => exact ⟨_, (true), (by first | rfl | (simp; done) | (simp [*]; done)), H', ⟨by first | omega | exact Nat.le_refl _⟩, ⟨by repeat (first | (with_reducible first | exact HB.out | apply below_alloc | apply pw_below_drewN | apply below_drew1) | exact HB.out)⟩⟩
          · rw [if_neg c15] at H
            have c15b0 : (t329 == 0) = false := beq_eq_false_iff_ne.mpr c15
            have c15b1 : (t329 != 0) = true := bne_iff_ne.mpr c15
            (first | rw [c15b0] | (simp only [i64_w, i32_w]; rw [c15b0]) | skip)
            have H' := Aside0.mk H
            clear H
            go_wp2
            go_meet
            case rel => exact ⟨_, (true), (by first | rfl | (simp; done) | (simp [*]; done)), H', ⟨by first | omega | exact Nat.le_refl _⟩, ⟨by repeat (first | (with_reducible first | exact HB.out | apply below_alloc | apply pw_below_drewN | apply below_drew1) | exact HB.out)⟩⟩
        case rest =>
          clear HC11
          try clear c1
          try clear p2
          try clear c4
          try clear c5
          try clear c7
          try clear c8
          try clear c9
          try clear c9b0
          try clear c9b1
          try clear c11
          try clear c15
          try clear c15b0
          try clear c15b1
          try clear c17
          obtain ⟨kq, x58_10, rfl, HA, HJ10, HB⟩ := hcut
          cases kq with
          | zero => exact absurd HA.out (by simp [ravelinlaw8_BlockBack.j0])
          | succ kj10 =>
            have H := HA.out
            clear HA
            simp only [ravelinlaw8_BlockBack.j0] at H
            by_cases c20 : x58_10 = true
            · subst c20
              have H1 : (some false) = some r := by rw [if_pos rfl] at H; exact H
              clear H
              have H := H1
              clear H1
              exact absurd ((Option.some.inj H).trans HR_.out) (by decide)
            · replace c20 := Bool.eq_false_iff.mpr c20
              subst c20
              have H1 : (if (t326.size : Int) = 0 then (none) else (if 0 ≤ (Int.tmod (wrap64 (a1)) (t326.size : Int)) then (if (Int.tmod (wrap64 (a1)) (t326.size : Int)) < (t326.size : Int) then ((block_Read.f kj10 (strOfNums ((bytesOf t326).set ((Int.tmod (wrap64 (a1)) (t326.size : Int)) : Int).toNat (Go.bits .xor .u8 (rd (bytesOf t326) (Int.tmod (wrap64 (a1)) (t326.size : Int))) a2)))).bind fun bt336 => (if (Int.tmod (wrap64 (a1)) (t326.size : Int)) ≤ (t326.size : Int) then ((block_Read.f kj10 (t326.extract 0 ((Int.tmod (wrap64 (a1)) (t326.size : Int)) : Int).toNat)).bind fun bt340 => ((ravelinref3_Open.f kj10 t326).bind fun bt344 => (if (bt344.1.size : Int) = 0 then (none) else (if 0 ≤ (Int.tmod (wrap64 (a1)) (bt344.1.size : Int)) then (if (Int.tmod (wrap64 (a1)) (bt344.1.size : Int)) < (bt344.1.size : Int) then ((ravelinref3_Seal.f kj10 (strOfNums ((bytesOf bt344.1).set ((Int.tmod (wrap64 (a1)) (bt344.1.size : Int)) : Int).toNat (Go.bits .xor .u8 (rd (bytesOf bt344.1) (Int.tmod (wrap64 (a1)) (bt344.1.size : Int))) a2)))).bind fun t350 => ((block_Read.f kj10 t350).bind fun bt351 => ((block_Make.f kj10 bt351.1).bind fun bt355 => (if ((bt336.2 == 0) == (a2 == 0)) = true then (if bt336.2 = 0 then (if bt340.2 = 12 then (if (bt340.1.length : Int) = 0 then (if bt351.2 = 0 then (if bt355.2 = 0 then (some (bt355.1.toList == t350.toList)) else (some false)) else (if (bt351.1.length : Int) = 0 then (some true) else (some false))) else (some false)) else (some false)) else (if (bt336.1.length : Int) = 0 then (if bt340.2 = 12 then (if (bt340.1.length : Int) = 0 then (if bt351.2 = 0 then (if bt355.2 = 0 then (some (bt355.1.toList == t350.toList)) else (some false)) else (if (bt351.1.length : Int) = 0 then (some true) else (some false))) else (some false)) else (some false)) else (some false))) else (some false))))) else (none)) else (none))))) else (none))) else (none)) else (none))) = some r := by rw [if_neg (show ¬ (false = true) by decide)] at H; exact H
              clear H
              have H := H1
              clear H1
              by_cases c21 : (t326.size : Int) = 0
              · rw [if_pos c21] at H
                exact absurd H (by simp)
              · rw [if_neg c21] at H
                have c21b0 : ((t326.size : Int) == 0) = false := beq_eq_false_iff_ne.mpr c21
                have c21b1 : ((t326.size : Int) != 0) = true := bne_iff_ne.mpr c21
                obtain ⟨ji22, hji22⟩ : ∃ j_ : Int, (Int.tmod (wrap64 (a1)) (t326.size : Int)) = j_ := ⟨_, rfl⟩
                replace H : (if 0 ≤ (ji22) then (if (ji22) < (t326.size : Int) then ((block_Read.f kj10 (strOfNums ((bytesOf t326).set ((ji22) : Int).toNat (Go.bits .xor .u8 (rd (bytesOf t326) (ji22)) a2)))).bind fun bt336 => (if (ji22) ≤ (t326.size : Int) then ((block_Read.f kj10 (t326.extract 0 ((ji22) : Int).toNat)).bind fun bt340 => ((ravelinref3_Open.f kj10 t326).bind fun bt344 => (if (bt344.1.size : Int) = 0 then (none) else (if 0 ≤ (Int.tmod (wrap64 (a1)) (bt344.1.size : Int)) then (if (Int.tmod (wrap64 (a1)) (bt344.1.size : Int)) < (bt344.1.size : Int) then ((ravelinref3_Seal.f kj10 (strOfNums ((bytesOf bt344.1).set ((Int.tmod (wrap64 (a1)) (bt344.1.size : Int)) : Int).toNat (Go.bits .xor .u8 (rd (bytesOf bt344.1) (Int.tmod (wrap64 (a1)) (bt344.1.size : Int))) a2)))).bind fun t350 => ((block_Read.f kj10 t350).bind fun bt351 => ((block_Make.f kj10 bt351.1).bind fun bt355 => (if ((bt336.2 == 0) == (a2 == 0)) = true then (if bt336.2 = 0 then (if bt340.2 = 12 then (if (bt340.1.length : Int) = 0 then (if bt351.2 = 0 then (if bt355.2 = 0 then (some (bt355.1.toList == t350.toList)) else (some false)) else (if (bt351.1.length : Int) = 0 then (some true) else (some false))) else (some false)) else (some false)) else (if (bt336.1.length : Int) = 0 then (if bt340.2 = 12 then (if (bt340.1.length : Int) = 0 then (if bt351.2 = 0 then (if bt355.2 = 0 then (some (bt355.1.toList == t350.toList)) else (some false)) else (if (bt351.1.length : Int) = 0 then (some true) else (some false))) else (some false)) else (some false)) else (some false))) else (some false))))) else (none)) else (none))))) else (none))) else (none)) else (none)) = some r := by first | (rw [hji22] at H; exact H) | (simp only [hji22] at H ⊢; exact H)
                by_cases c23 : 0 ≤ (ji22)
                · rw [if_pos c23] at H
                  have c23b0 : decide (0 ≤ (ji22)) = true := decide_eq_true c23
                  clear c23
                  by_cases c24 : (ji22) < (t326.size : Int)
                  · rw [if_pos c24] at H
                    have c24b0 : decide ((ji22) < (t326.size : Int)) = true := decide_eq_true c24
                    clear c24
                    replace H := Option.bind_eq_some_iff.mp H
                    obtain ⟨⟨t336, t337⟩, A250, H⟩ := H
                    replace H : (if (ji22) ≤ (t326.size : Int) then ((block_Read.f kj10 (t326.extract 0 ((ji22) : Int).toNat)).bind fun bt340 => ((ravelinref3_Open.f kj10 t326).bind fun bt344 => (if (bt344.1.size : Int) = 0 then (none) else (if 0 ≤ (Int.tmod (wrap64 (a1)) (bt344.1.size : Int)) then (if (Int.tmod (wrap64 (a1)) (bt344.1.size : Int)) < (bt344.1.size : Int) then ((ravelinref3_Seal.f kj10 (strOfNums ((bytesOf bt344.1).set ((Int.tmod (wrap64 (a1)) (bt344.1.size : Int)) : Int).toNat (Go.bits .xor .u8 (rd (bytesOf bt344.1) (Int.tmod (wrap64 (a1)) (bt344.1.size : Int))) a2)))).bind fun t350 => ((block_Read.f kj10 t350).bind fun bt351 => ((block_Make.f kj10 bt351.1).bind fun bt355 => (if ((t337 == 0) == (a2 == 0)) = true then (if t337 = 0 then (if bt340.2 = 12 then (if (bt340.1.length : Int) = 0 then (if bt351.2 = 0 then (if bt355.2 = 0 then (some (bt355.1.toList == t350.toList)) else (some false)) else (if (bt351.1.length : Int) = 0 then (some true) else (some false))) else (some false)) else (some false)) else (if (t336.length : Int) = 0 then (if bt340.2 = 12 then (if (bt340.1.length : Int) = 0 then (if bt351.2 = 0 then (if bt355.2 = 0 then (some (bt355.1.toList == t350.toList)) else (some false)) else (if (bt351.1.length : Int) = 0 then (some true) else (some false))) else (some false)) else (some false)) else (some false))) else (some false))))) else (none)) else (none))))) else (none)) = some r := H
                    have A25 := Aside0.mk A250
                    clear A250
                    have c26b0 := eq_true (of_decide_eq_true (by first | (with_reducible assumption) | assumption) : 0 ≤ (ji22))
                    by_cases c27 : (ji22) ≤ (t326.size : Int)
                    · rw [if_pos c27] at H
                      have c27b0 := eq_true c27
                      have c27b1 : decide ((ji22) ≤ (t326.size : Int)) = true := decide_eq_true c27
                      clear c27
                      replace H := Option.bind_eq_some_iff.mp H
                      obtain ⟨⟨t340, t341⟩, A280, H⟩ := H
                      replace H : ((ravelinref3_Open.f kj10 t326).bind fun bt344 => (if (bt344.1.size : Int) = 0 then (none) else (if 0 ≤ (Int.tmod (wrap64 (a1)) (bt344.1.size : Int)) then (if (Int.tmod (wrap64 (a1)) (bt344.1.size : Int)) < (bt344.1.size : Int) then ((ravelinref3_Seal.f kj10 (strOfNums ((bytesOf bt344.1).set ((Int.tmod (wrap64 (a1)) (bt344.1.size : Int)) : Int).toNat (Go.bits .xor .u8 (rd (bytesOf bt344.1) (Int.tmod (wrap64 (a1)) (bt344.1.size : Int))) a2)))).bind fun t350 => ((block_Read.f kj10 t350).bind fun bt351 => ((block_Make.f kj10 bt351.1).bind fun bt355 => (if ((t337 == 0) == (a2 == 0)) = true then (if t337 = 0 then (if t341 = 12 then (if (t340.length : Int) = 0 then (if bt351.2 = 0 then (if bt355.2 = 0 then (some (bt355.1.toList == t350.toList)) else (some false)) else (if (bt351.1.length : Int) = 0 then (some true) else (some false))) else (some false)) else (some false)) else (if (t336.length : Int) = 0 then (if t341 = 12 then (if (t340.length : Int) = 0 then (if bt351.2 = 0 then (if bt355.2 = 0 then (some (bt355.1.toList == t350.toList)) else (some false)) else (if (bt351.1.length : Int) = 0 then (some true) else (some false))) else (some false)) else (some false)) else (some false))) else (some false))))) else (none)) else (none)))) = some r := H
                      have A28 := Aside0.mk A280
                      clear A280
                      replace H := Option.bind_eq_some_iff.mp H
                      obtain ⟨⟨t344, t345, t346⟩, A290, H⟩ := H
                      replace H : (if (t344.size : Int) = 0 then (none) else (if 0 ≤ (Int.tmod (wrap64 (a1)) (t344.size : Int)) then (if (Int.tmod (wrap64 (a1)) (t344.size : Int)) < (t344.size : Int) then ((ravelinref3_Seal.f kj10 (strOfNums ((bytesOf t344).set ((Int.tmod (wrap64 (a1)) (t344.size : Int)) : Int).toNat (Go.bits .xor .u8 (rd (bytesOf t344) (Int.tmod (wrap64 (a1)) (t344.size : Int))) a2)))).bind fun t350 => ((block_Read.f kj10 t350).bind fun bt351 => ((block_Make.f kj10 bt351.1).bind fun bt355 => (if ((t337 == 0) == (a2 == 0)) = true then (if t337 = 0 then (if t341 = 12 then (if (t340.length : Int) = 0 then (if bt351.2 = 0 then (if bt355.2 = 0 then (some (bt355.1.toList == t350.toList)) else (some false)) else (if (bt351.1.length : Int) = 0 then (some true) else (some false))) else (some false)) else (some false)) else (if (t336.length : Int) = 0 then (if t341 = 12 then (if (t340.length : Int) = 0 then (if bt351.2 = 0 then (if bt355.2 = 0 then (some (bt355.1.toList == t350.toList)) else (some false)) else (if (bt351.1.length : Int) = 0 then (some true) else (some false))) else (some false)) else (some false)) else (some false))) else (some false))))) else (none)) else (none))) = some r := H
                      have A29 := Aside0.mk A290
                      clear A290
                      by_cases c30 : (t344.size : Int) = 0
                      · rw [if_pos c30] at H
                        exact absurd H (by simp)
                      · rw [if_neg c30] at H
                        have c30b0 : ((t344.size : Int) == 0) = false := beq_eq_false_iff_ne.mpr c30
                        have c30b1 : ((t344.size : Int) != 0) = true := bne_iff_ne.mpr c30
                        obtain ⟨ji31, hji31⟩ : ∃ j_ : Int, (Int.tmod (wrap64 (a1)) (t344.size : Int)) = j_ := ⟨_, rfl⟩
                        replace H : (if 0 ≤ (ji31) then (if (ji31) < (t344.size : Int) then ((ravelinref3_Seal.f kj10 (strOfNums ((bytesOf t344).set ((ji31) : Int).toNat (Go.bits .xor .u8 (rd (bytesOf t344) (ji31)) a2)))).bind fun t350 => ((block_Read.f kj10 t350).bind fun bt351 => ((block_Make.f kj10 bt351.1).bind fun bt355 => (if ((t337 == 0) == (a2 == 0)) = true then (if t337 = 0 then (if t341 = 12 then (if (t340.length : Int) = 0 then (if bt351.2 = 0 then (if bt355.2 = 0 then (some (bt355.1.toList == t350.toList)) else (some false)) else (if (bt351.1.length : Int) = 0 then (some true) else (some false))) else (some false)) else (some false)) else (if (t336.length : Int) = 0 then (if t341 = 12 then (if (t340.length : Int) = 0 then (if bt351.2 = 0 then (if bt355.2 = 0 then (some (bt355.1.toList == t350.toList)) else (some false)) else (if (bt351.1.length : Int) = 0 then (some true) else (some false))) else (some false)) else (some false)) else (some false))) else (some false))))) else (none)) else (none)) = some r := by first | (rw [hji31] at H; exact H) | (simp only [hji31] at H ⊢; exact H)
                        (try rw [hji31] at A25)
                        (try rw [hji31] at A28)
                        (try rw [hji31] at A29)
                        by_cases c32 : 0 ≤ (ji31)
                        · rw [if_pos c32] at H
                          have c32b0 : decide (0 ≤ (ji31)) = true := decide_eq_true c32
                          clear c32
                          by_cases c33 : (ji31) < (t344.size : Int)
                          · rw [if_pos c33] at H
                            have c33b0 : decide ((ji31) < (t344.size : Int)) = true := decide_eq_true c33
                            clear c33
                            replace H := Option.bind_eq_some_iff.mp H
                            obtain ⟨t350, A340, H⟩ := H
                            replace H : ((block_Read.f kj10 t350).bind fun bt351 => ((block_Make.f kj10 bt351.1).bind fun bt355 => (if ((t337 == 0) == (a2 == 0)) = true then (if t337 = 0 then (if t341 = 12 then (if (t340.length : Int) = 0 then (if bt351.2 = 0 then (if bt355.2 = 0 then (some (bt355.1.toList == t350.toList)) else (some false)) else (if (bt351.1.length : Int) = 0 then (some true) else (some false))) else (some false)) else (some false)) else (if (t336.length : Int) = 0 then (if t341 = 12 then (if (t340.length : Int) = 0 then (if bt351.2 = 0 then (if bt355.2 = 0 then (some (bt355.1.toList == t350.toList)) else (some false)) else (if (bt351.1.length : Int) = 0 then (some true) else (some false))) else (some false)) else (some false)) else (some false))) else (some false)))) = some r := H
                            have A34 := Aside0.mk A340
                            clear A340
                            replace H := Option.bind_eq_some_iff.mp H
                            obtain ⟨⟨t351, t352⟩, A350, H⟩ := H
                            replace H : ((block_Make.f kj10 t351).bind fun bt355 => (if ((t337 == 0) == (a2 == 0)) = true then (if t337 = 0 then (if t341 = 12 then (if (t340.length : Int) = 0 then (if t352 = 0 then (if bt355.2 = 0 then (some (bt355.1.toList == t350.toList)) else (some false)) else (if (t351.length : Int) = 0 then (some true) else (some false))) else (some false)) else (some false)) else (if (t336.length : Int) = 0 then (if t341 = 12 then (if (t340.length : Int) = 0 then (if t352 = 0 then (if bt355.2 = 0 then (some (bt355.1.toList == t350.toList)) else (some false)) else (if (t351.length : Int) = 0 then (some true) else (some false))) else (some false)) else (some false)) else (some false))) else (some false))) = some r := H
                            have A35 := Aside0.mk A350
                            clear A350
                            replace H := Option.bind_eq_some_iff.mp H
                            obtain ⟨⟨t355, t356⟩, A360, H⟩ := H
                            replace H : (if ((t337 == 0) == (a2 == 0)) = true then (if t337 = 0 then (if t341 = 12 then (if (t340.length : Int) = 0 then (if t352 = 0 then (if t356 = 0 then (some (t355.toList == t350.toList)) else (some false)) else (if (t351.length : Int) = 0 then (some true) else (some false))) else (some false)) else (some false)) else (if (t336.length : Int) = 0 then (if t341 = 12 then (if (t340.length : Int) = 0 then (if t352 = 0 then (if t356 = 0 then (some (t355.toList == t350.toList)) else (some false)) else (if (t351.length : Int) = 0 then (some true) else (some false))) else (some false)) else (some false)) else (some false))) else (some false)) = some r := H
                            have A36 := Aside0.mk A360
                            clear A360
                            by_cases c37 : ((t337 == 0) == (a2 == 0)) = true
                            · rw [if_pos c37] at H
                              have c37b0 : ((t337 == 0) == (a2 == 0)) = true := c37
                              (try (have c37b1 : decide ((t337 == 0) = (a2 == 0)) = true := by simpa using c37))
                              (try (have c37b2 : ((t337 == 0) == (a2 == 0)) = true := by simpa using c37))
                              (try (have c37b3 : ((a2 == 0)) = (t337 == 0) := by have h_ := c37; revert h_; generalize (t337 == 0) = u_; generalize (a2 == 0) = v_; cases u_ <;> cases v_ <;> simp))
                              clear c37
                              by_cases c38 : t337 = 0
                              · rw [if_pos c38] at H
                                have c38b0 : (t337 == 0) = true := beq_iff_eq.mpr c38
                                have c38b1 : (t337 != 0) = false := bne_eq_false_iff_eq.mpr c38
                                clear c38
                                by_cases c39 : t341 = 12
                                · rw [if_pos c39] at H
                                  have c39b0 : (t341 == 12) = true := beq_iff_eq.mpr c39
                                  have c39b1 : (t341 != 12) = false := bne_eq_false_iff_eq.mpr c39
                                  clear c39
                                  by_cases c40 : (t340.length : Int) = 0
                                  · rw [if_pos c40] at H
                                    have c40b0 : ((t340.length : Int) == 0) = true := beq_iff_eq.mpr c40
                                    have c40b1 : ((t340.length : Int) != 0) = false := bne_eq_false_iff_eq.mpr c40
                                    clear c40
                                    by_cases c41 : t352 = 0
                                    · rw [if_pos c41] at H
                                      have c41b0 : (t352 == 0) = true := beq_iff_eq.mpr c41
                                      have c41b1 : (t352 != 0) = false := bne_eq_false_iff_eq.mpr c41
                                      clear c41
                                      by_cases c42 : t356 = 0
                                      · rw [if_pos c42] at H
                                        have c42b0 : (t356 == 0) = true := beq_iff_eq.mpr c42
                                        have c42b1 : (t356 != 0) = false := bne_eq_false_iff_eq.mpr c42
                                        clear c42
                                        obtain rfl := Option.some.inj H
                                        go_wp2_with (first | ((with_reducible refine gate_dst (N := 60) rfl ?_); (try (refine gate_guard (by rfl) ?_; dsimp only)); refine conv_event (N := 60) (src := 9) (dst := 38) (e := 5) (x := .tmp 59) (s := t326) ?hg ?hd ?ho ?hx Try.underlying9 Try.underlying38 Try.underlying5 ?_; (case hd => rfl); (case hg => rfl); (case ho => rfl); (case hx => rfl); intro gy333 hg cy333 w43 hy hb; have n0_ := Aside0.mk (below_step (by repeat (first | (with_reducible first | exact HB.out | apply below_alloc | apply pw_below_drewN | apply below_drew1) | exact HB.out)) hb); have n1_ := Aside0.mk (hy); have n2_ := Aside0.mk ((by rw [hg]; exact (below_size (by repeat (first | (with_reducible first | exact HB.out | apply below_alloc | apply pw_below_drewN | apply below_drew1) | exact HB.out))) : w.heap.size ≤ gy333)); clear HB; have HB := n0_; have HY333 := n1_; have GY333 := n2_; clear n0_ n1_ n2_; clear hb hy hg; have PY334 := Aside0.mk (of_decide_eq_true (by first | (with_reducible assumption) | assumption) : 0 ≤ ((ji22) : Int)); have QY334 := Aside0.mk ((of_decide_eq_true (by first | (with_reducible assumption) | assumption)) : ((ji22) : Int) < (t326.size : Int)); have pz334 := eq_true PY334.out; have qz334 := eq_true QY334.out; have hcy334 := by_cell HY333.out ((ji22) : Int) PY334.out (by simp only [List.length_set, bytesOf_length]; exact QY334.out); have hfy334 := by_free HY333.out ((ji22) : Int) PY334.out (by simp only [List.length_set, bytesOf_length]; exact QY334.out); have PY335 := Aside0.mk (of_decide_eq_true (by first | (with_reducible assumption) | assumption) : 0 ≤ ((ji22) : Int)); have QY335 := Aside0.mk ((of_decide_eq_true (by first | (with_reducible assumption) | assumption)) : ((ji22) : Int) < (t326.size : Int)); have pz335 := eq_true PY335.out; have qz335 := eq_true QY335.out; have hcy335 := by_cell HY333.out ((ji22) : Int) PY335.out (by simp only [List.length_set, bytesOf_length]; exact QY335.out); have hfy335 := by_free HY333.out ((ji22) : Int) PY335.out (by simp only [List.length_set, bytesOf_length]; exact QY335.out)) | ((with_reducible refine gate_store (t := 5) (p := 74) rfl ?_); refine store_event (t := 5) (p := 74) (v := ?vo_w44) (w1 := (w43.setCell ⟨gy333, ((ji22) : Int).toNat, none⟩ (.int .u8 (Go.bits .xor .u8 (rd (bytesOf t326) (ji22)) a2)))) ?hg ?ho ?hn ?hr ?_; (case ho => rfl); (case hg => rfl); (case hn => rfl); (case hr => first | (go_simp; done) | (go_simp; rfl)); intro w44 hw; have n0_ := Aside0.mk ((by rw [hw]; exact below_set (by repeat (first | (with_reducible first | exact HB.out | apply below_alloc | apply pw_below_drewN | apply below_drew1) | exact HB.out)) GY333.out : Below w.heap.size w w44)); have n1_ := Aside0.mk ((by rw [hw]; exact by_set HY333.out ((ji22) : Int) PY335.out (by simp only [List.length_set, bytesOf_length]; exact QY335.out) (Go.bits .xor .u8 (rd (bytesOf t326) (ji22)) a2) : ByRow w44 gy333 5 ((bytesOf t326).set ((ji22) : Int).toNat (Go.bits .xor .u8 (rd (bytesOf t326) (ji22)) a2)))); clear HB; clear HY333; have HB := n0_; have HY333 := n1_; clear n0_ n1_; clear hw; have hzy45 := by_string (P := Try.prog) (src := 38) (dst := 9) HY333.out Try.underlying38 Try.underlying5 Try.underlying9 t326.size cy333 (by simp only [List.length_set, bytesOf_length])) | ((with_reducible refine gate_callee (f := 11) rfl ?_); refine goesL_ (some 78) rfl rfl Try.func11 (by kernel_rfl) rfl #[.string (strOfNums ((bytesOf t326).set ((ji22) : Int).toNat (Go.bits .xor .u8 (rd (bytesOf t326) (ji22)) a2)))] rfl (by (try simp only [List.map_toArray, List.map_cons, List.map_nil]); first | done | (simp only [hji22]; rfl) | rfl | (simp only [List.length_drop, List.length_take]; rfl)) ?_; (with_reducible refine (block_Read.calls kj10 (strOfNums ((bytesOf t326).set ((ji22) : Int).toNat (Go.bits .xor .u8 (rd (bytesOf t326) (ji22)) a2))) t336 t337 _ A25.out).mono ?_); rintro e w46 ⟨v338, rfl, ho0, hb⟩; refine ⟨_, rfl, ?_⟩; have n0_ := Aside0.mk (Kd.R_lower ho0 (below_size (by repeat (first | (with_reducible first | exact HB.out | apply below_alloc | apply pw_below_drewN | apply below_drew1) | exact HB.out)))); have n1_ := Aside0.mk (below_step (by repeat (first | (with_reducible first | exact HB.out | apply below_alloc | apply pw_below_drewN | apply below_drew1) | exact HB.out)) hb); clear HB; have HO339 := n0_; have HB := n1_; clear n0_ n1_; (try clear hb); (try clear hb2); (try clear hk); (try clear hi); (try clear ho0)) | ((with_reducible refine gate_callee (f := 11) rfl ?_); refine goesL_ (some 85) rfl rfl Try.func11 (by kernel_rfl) rfl #[.string (t326.extract 0 ((ji22) : Int).toNat)] rfl (by (try simp only [List.map_toArray, List.map_cons, List.map_nil]); first | done | (simp only [hji22]; rfl) | rfl | (simp only [List.length_drop, List.length_take]; rfl)) ?_; (with_reducible refine (block_Read.calls kj10 (t326.extract 0 ((ji22) : Int).toNat) t340 t341 _ A28.out).mono ?_); rintro e w47 ⟨v342, rfl, ho0, hb⟩; refine ⟨_, rfl, ?_⟩; have n0_ := Aside0.mk (Kd.R_elder' (by (with_reducible repeat (first | apply Kd.R_alloc | apply Kd.R_drewN | apply Kd.R_drew)); exact HO339.out) (Kd.R_base ho0) hb); have n1_ := Aside0.mk (Kd.R_lower (Kd.R_new' ho0 (Kd.R_lt (by (with_reducible repeat (first | apply Kd.R_alloc | apply Kd.R_drewN | apply Kd.R_drew)); exact HO339.out))) (below_size (by repeat (first | (with_reducible first | exact HB.out | apply below_alloc | apply pw_below_drewN | apply below_drew1) | exact HB.out)))); have n2_ := Aside0.mk (below_step (by repeat (first | (with_reducible first | exact HB.out | apply below_alloc | apply pw_below_drewN | apply below_drew1) | exact HB.out)) hb); clear HO339; clear HB; have HO339 := n0_; have HO343 := n1_; have HB := n2_; clear n0_ n1_ n2_; (try clear hb); (try clear hb2); (try clear hk); (try clear hi); (try clear ho0)) | ((with_reducible refine gate_callee (f := 16) rfl ?_); refine goesL_ (some 90) rfl rfl Try.func16 (by kernel_rfl) rfl #[.string t326] rfl (by (try simp only [List.map_toArray, List.map_cons, List.map_nil]); first | done | rfl | (simp only [List.length_drop, List.length_take]; rfl)) ?_; (with_reducible refine (ravelinref3_Open.calls kj10 t326 t344 t345 t346 _ A29.out).mono ?_); rintro e w48 ⟨rfl, hb⟩; refine ⟨_, rfl, ?_⟩; have n0_ := Aside0.mk (Kd.R_below (by (with_reducible repeat (first | apply Kd.R_alloc | apply Kd.R_drewN | apply Kd.R_drew)); exact HO339.out) hb); have n1_ := Aside0.mk (Kd.R_below (by (with_reducible repeat (first | apply Kd.R_alloc | apply Kd.R_drewN | apply Kd.R_drew)); exact HO343.out) hb); have n2_ := Aside0.mk (below_step (by repeat (first | (with_reducible first | exact HB.out | apply below_alloc | apply pw_below_drewN | apply below_drew1) | exact HB.out)) hb); clear HO339; clear HO343; clear HB; have HO339 := n0_; have HO343 := n1_; have HB := n2_; clear n0_ n1_ n2_; (try clear hb); (try clear hb2); (try clear hk); (try clear hi)) | ((with_reducible refine gate_dst (N := 95) rfl ?_); (try (refine gate_guard (by rfl) ?_; dsimp only)); refine conv_event (N := 95) (src := 9) (dst := 38) (e := 5) (x := .tmp 94) (s := t344) ?hg ?hd ?ho ?hx Try.underlying9 Try.underlying38 Try.underlying5 ?_; (case hd => rfl); (case hg => rfl); (case ho => rfl); (case hx => rfl); intro gy347 hg cy347 w49 hy hb; have n0_ := Aside0.mk (Kd.R_below (by (with_reducible repeat (first | apply Kd.R_alloc | apply Kd.R_drewN | apply Kd.R_drew)); exact HO339.out) hb); have n1_ := Aside0.mk (Kd.R_below (by (with_reducible repeat (first | apply Kd.R_alloc | apply Kd.R_drewN | apply Kd.R_drew)); exact HO343.out) hb); have n2_ := Aside0.mk (below_step (by repeat (first | (with_reducible first | exact HB.out | apply below_alloc | apply pw_below_drewN | apply below_drew1) | exact HB.out)) hb); have n3_ := Aside0.mk (hy); have n4_ := Aside0.mk ((by rw [hg]; exact (below_size (by repeat (first | (with_reducible first | exact HB.out | apply below_alloc | apply pw_below_drewN | apply below_drew1) | exact HB.out))) : w.heap.size ≤ gy347)); clear HO339; clear HO343; clear HB; have HO339 := n0_; have HO343 := n1_; have HB := n2_; have HY347 := n3_; have GY347 := n4_; clear n0_ n1_ n2_ n3_ n4_; clear hb hy hg; have PY348 := Aside0.mk (of_decide_eq_true (by first | (with_reducible assumption) | assumption) : 0 ≤ ((ji31) : Int)); have QY348 := Aside0.mk ((of_decide_eq_true (by first | (with_reducible assumption) | assumption)) : ((ji31) : Int) < (t344.size : Int)); have pz348 := eq_true PY348.out; have qz348 := eq_true QY348.out; have hcy348 := by_cell HY347.out ((ji31) : Int) PY348.out (by simp only [List.length_set, bytesOf_length]; exact QY348.out); have hfy348 := by_free HY347.out ((ji31) : Int) PY348.out (by simp only [List.length_set, bytesOf_length]; exact QY348.out); have PY349 := Aside0.mk (of_decide_eq_true (by first | (with_reducible assumption) | assumption) : 0 ≤ ((ji31) : Int)); have QY349 := Aside0.mk ((of_decide_eq_true (by first | (with_reducible assumption) | assumption)) : ((ji31) : Int) < (t344.size : Int)); have pz349 := eq_true PY349.out; have qz349 := eq_true QY349.out; have hcy349 := by_cell HY347.out ((ji31) : Int) PY349.out (by simp only [List.length_set, bytesOf_length]; exact QY349.out); have hfy349 := by_free HY347.out ((ji31) : Int) PY349.out (by simp only [List.length_set, bytesOf_length]; exact QY349.out)) | ((with_reducible refine gate_store (t := 5) (p := 109) rfl ?_); refine store_event (t := 5) (p := 109) (v := ?vo_w50) (w1 := (w49.setCell ⟨gy347, ((ji31) : Int).toNat, none⟩ (.int .u8 (Go.bits .xor .u8 (rd (bytesOf t344) (ji31)) a2)))) ?hg ?ho ?hn ?hr ?_; (case ho => rfl); (case hg => rfl); (case hn => rfl); (case hr => first | (go_simp; done) | (go_simp; rfl)); intro w50 hw; have n0_ := Aside0.mk (by_R HY347.out (by (with_reducible repeat (first | apply Kd.R_alloc | apply Kd.R_drewN | apply Kd.R_drew)); exact HO339.out) hw); have n1_ := Aside0.mk (by_R HY347.out (by (with_reducible repeat (first | apply Kd.R_alloc | apply Kd.R_drewN | apply Kd.R_drew)); exact HO343.out) hw); have n2_ := Aside0.mk ((by rw [hw]; exact below_set (by repeat (first | (with_reducible first | exact HB.out | apply below_alloc | apply pw_below_drewN | apply below_drew1) | exact HB.out)) GY347.out : Below w.heap.size w w50)); have n3_ := Aside0.mk ((by rw [hw]; exact by_set HY347.out ((ji31) : Int) PY349.out (by simp only [List.length_set, bytesOf_length]; exact QY349.out) (Go.bits .xor .u8 (rd (bytesOf t344) (ji31)) a2) : ByRow w50 gy347 5 ((bytesOf t344).set ((ji31) : Int).toNat (Go.bits .xor .u8 (rd (bytesOf t344) (ji31)) a2)))); clear HO339; clear HO343; clear HB; clear HY347; have HO339 := n0_; have HO343 := n1_; have HB := n2_; have HY347 := n3_; clear n0_ n1_ n2_ n3_; clear hw; have hzy51 := by_string (P := Try.prog) (src := 38) (dst := 9) HY347.out Try.underlying38 Try.underlying5 Try.underlying9 t344.size cy347 (by simp only [List.length_set, bytesOf_length])) | ((with_reducible refine gate_callee (f := 17) rfl ?_); refine goesL_ (some 112) rfl rfl Try.func17 (by kernel_rfl) rfl #[.string (strOfNums ((bytesOf t344).set ((ji31) : Int).toNat (Go.bits .xor .u8 (rd (bytesOf t344) (ji31)) a2)))] rfl (by (try simp only [List.map_toArray, List.map_cons, List.map_nil]); first | done | (simp only [hji31]; rfl) | rfl | (simp only [List.length_drop, List.length_take]; rfl)) ?_; (with_reducible refine (ravelinref3_Seal.calls kj10 (strOfNums ((bytesOf t344).set ((ji31) : Int).toNat (Go.bits .xor .u8 (rd (bytesOf t344) (ji31)) a2))) t350 _ A34.out).mono ?_); rintro e w52 ⟨rfl, hb⟩; refine ⟨_, rfl, ?_⟩; have n0_ := Aside0.mk (Kd.R_below (by (with_reducible repeat (first | apply Kd.R_alloc | apply Kd.R_drewN | apply Kd.R_drew)); exact HO339.out) hb); have n1_ := Aside0.mk (Kd.R_below (by (with_reducible repeat (first | apply Kd.R_alloc | apply Kd.R_drewN | apply Kd.R_drew)); exact HO343.out) hb); have n2_ := Aside0.mk (below_step (by repeat (first | (with_reducible first | exact HB.out | apply below_alloc | apply pw_below_drewN | apply below_drew1) | exact HB.out)) hb); clear HO339; clear HO343; clear HB; have HO339 := n0_; have HO343 := n1_; have HB := n2_; clear n0_ n1_ n2_; (try clear hb); (try clear hb2); (try clear hk); (try clear hi)) | ((with_reducible refine gate_callee (f := 11) rfl ?_); refine goesL_ (some 115) rfl rfl Try.func11 (by kernel_rfl) rfl #[.string t350] rfl (by (try simp only [List.map_toArray, List.map_cons, List.map_nil]); first | done | rfl | (simp only [List.length_drop, List.length_take]; rfl)) ?_; (with_reducible refine (block_Read.calls kj10 t350 t351 t352 _ A35.out).mono ?_); rintro e w53 ⟨v353, rfl, ho0, hb⟩; refine ⟨_, rfl, ?_⟩; have n0_ := Aside0.mk (Kd.R_elder' (by (with_reducible repeat (first | apply Kd.R_alloc | apply Kd.R_drewN | apply Kd.R_drew)); exact HO339.out) (Kd.R_base ho0) hb); have n1_ := Aside0.mk (Kd.R_elder' (by (with_reducible repeat (first | apply Kd.R_alloc | apply Kd.R_drewN | apply Kd.R_drew)); exact HO343.out) (Kd.R_base ho0) hb); have n2_ := Aside0.mk (Kd.R_lower (Kd.R_new' (Kd.R_new' ho0 (Kd.R_lt (by (with_reducible repeat (first | apply Kd.R_alloc | apply Kd.R_drewN | apply Kd.R_drew)); exact HO339.out))) (Kd.R_lt (by (with_reducible repeat (first | apply Kd.R_alloc | apply Kd.R_drewN | apply Kd.R_drew)); exact HO343.out))) (below_size (by repeat (first | (with_reducible first | exact HB.out | apply below_alloc | apply pw_below_drewN | apply below_drew1) | exact HB.out)))); have n3_ := Aside0.mk (below_step (by repeat (first | (with_reducible first | exact HB.out | apply below_alloc | apply pw_below_drewN | apply below_drew1) | exact HB.out)) hb); clear HO339; clear HO343; clear HB; have HO339 := n0_; have HO343 := n1_; have HO354 := n2_; have HB := n3_; clear n0_ n1_ n2_ n3_; (try clear hb); (try clear hb2); (try clear hk); (try clear hi); (try clear ho0); obtain ⟨Ao54, co54, eo54⟩ := Kd.R_slice HO354.out; subst eo54) | ((with_reducible refine gate_callee (f := 9) rfl ?_); refine goesL_ (some 120) rfl rfl Try.func9 (by kernel_rfl) rfl #[.slice Ao54 t351.length co54] rfl (by (try simp only [List.map_toArray, List.map_cons, List.map_nil]); first | done | rfl | (simp only [List.length_drop, List.length_take]; rfl)) ?_; (with_reducible refine (block_Make.calls kj10 _ _ t351 t355 t356 _ ?side1 ?side2 A36.out).mono ?_); (case side1 => repeat (first | exact (Kd.R_reads' HO354.out).2.2 | (with_reducible refine Kd.C_alloc ?_ _) | (with_reducible refine Kd.C_drewN ?_ _) | (with_reducible refine Kd.C_drew ?_))); (case side2 => exact (Kd.R_reads' HO354.out).2.1); rintro e w55 ⟨rfl, hb⟩; refine ⟨_, rfl, ?_⟩; have n0_ := Aside0.mk (Kd.R_below (by (with_reducible repeat (first | apply Kd.R_alloc | apply Kd.R_drewN | apply Kd.R_drew)); exact HO339.out) hb); have n1_ := Aside0.mk (Kd.R_below (by (with_reducible repeat (first | apply Kd.R_alloc | apply Kd.R_drewN | apply Kd.R_drew)); exact HO343.out) hb); have n2_ := Aside0.mk (Kd.R_below (by (with_reducible repeat (first | apply Kd.R_alloc | apply Kd.R_drewN | apply Kd.R_drew)); exact HO354.out) hb); have n3_ := Aside0.mk (below_step (by repeat (first | (with_reducible first | exact HB.out | apply below_alloc | apply pw_below_drewN | apply below_drew1) | exact HB.out)) hb); clear HO339; clear HO343; clear HO354; clear HB; have HO339 := n0_; have HO343 := n1_; have HO354 := n2_; have HB := n3_; clear n0_ n1_ n2_ n3_; (try clear hb); (try clear hb2); (try clear hk); (try clear hi); obtain ⟨Ao56, co56, eo56⟩ := Kd.R_slice HO343.out; subst eo56))
                                        go_ret
                                        exact ⟨by first | rfl | (simp [errW_none, errW_some] <;> rfl) | (simp only [← hji22, ← hji31]; first | rfl | (simp [errW_none, errW_some] <;> rfl)) | (simp [*, errW_none, errW_some] <;> rfl), by repeat (first | (with_reducible first | exact HB.out | apply below_alloc | apply pw_below_drewN | apply below_drew1) | exact HB.out)⟩
                                      · rw [if_neg c42] at H
                                        have c42b0 : (t356 == 0) = false := beq_eq_false_iff_ne.mpr c42
                                        have c42b1 : (t356 != 0) = true := bne_iff_ne.mpr c42
                                        exact absurd ((Option.some.inj H).trans HR_.out) (by decide)
                                    · rw [if_neg c41] at H
                                      have c41b0 : (t352 == 0) = false := beq_eq_false_iff_ne.mpr c41
                                      have c41b1 : (t352 != 0) = true := bne_iff_ne.mpr c41
                                      by_cases c57 : (t351.length : Int) = 0
                                      · rw [if_pos c57] at H
                                        have c57b0 : ((t351.length : Int) == 0) = true := beq_iff_eq.mpr c57
                                        have c57b1 : ((t351.length : Int) != 0) = false := bne_eq_false_iff_eq.mpr c57
                                        clear c57
                                        obtain rfl := Option.some.inj H
                                        go_wp2_with (first | ((with_reducible refine gate_dst (N := 60) rfl ?_); (try (refine gate_guard (by rfl) ?_; dsimp only)); refine conv_event (N := 60) (src := 9) (dst := 38) (e := 5) (x := .tmp 59) (s := t326) ?hg ?hd ?ho ?hx Try.underlying9 Try.underlying38 Try.underlying5 ?_; (case hd => rfl); (case hg => rfl); (case ho => rfl); (case hx => rfl); intro gy333 hg cy333 w58 hy hb; have n0_ := Aside0.mk (below_step (by repeat (first | (with_reducible first | exact HB.out | apply below_alloc | apply pw_below_drewN | apply below_drew1) | exact HB.out)) hb); have n1_ := Aside0.mk (hy); have n2_ := Aside0.mk ((by rw [hg]; exact (below_size (by repeat (first | (with_reducible first | exact HB.out | apply below_alloc | apply pw_below_drewN | apply below_drew1) | exact HB.out))) : w.heap.size ≤ gy333)); clear HB; have HB := n0_; have HY333 := n1_; have GY333 := n2_; clear n0_ n1_ n2_; clear hb hy hg; have PY334 := Aside0.mk (of_decide_eq_true (by first | (with_reducible assumption) | assumption) : 0 ≤ ((ji22) : Int)); have QY334 := Aside0.mk ((of_decide_eq_true (by first | (with_reducible assumption) | assumption)) : ((ji22) : Int) < (t326.size : Int)); have pz334 := eq_true PY334.out; have qz334 := eq_true QY334.out; have hcy334 := by_cell HY333.out ((ji22) : Int) PY334.out (by simp only [List.length_set, bytesOf_length]; exact QY334.out); have hfy334 := by_free HY333.out ((ji22) : Int) PY334.out (by simp only [List.length_set, bytesOf_length]; exact QY334.out); have PY335 := Aside0.mk (of_decide_eq_true (by first | (with_reducible assumption) | assumption) : 0 ≤ ((ji22) : Int)); have QY335 := Aside0.mk ((of_decide_eq_true (by first | (with_reducible assumption) | assumption)) : ((ji22) : Int) < (t326.size : Int)); have pz335 := eq_true PY335.out; have qz335 := eq_true QY335.out; have hcy335 := by_cell HY333.out ((ji22) : Int) PY335.out (by simp only [List.length_set, bytesOf_length]; exact QY335.out); have hfy335 := by_free HY333.out ((ji22) : Int) PY335.out (by simp only [List.length_set, bytesOf_length]; exact QY335.out)) | ((with_reducible refine gate_store (t := 5) (p := 74) rfl ?_); refine store_event (t := 5) (p := 74) (v := ?vo_w59) (w1 := (w58.setCell ⟨gy333, ((ji22) : Int).toNat, none⟩ (.int .u8 (Go.bits .xor .u8 (rd (bytesOf t326) (ji22)) a2)))) ?hg ?ho ?hn ?hr ?_; (case ho => rfl); (case hg => rfl); (case hn => rfl); (case hr => first | (go_simp; done) | (go_simp; rfl)); intro w59 hw; have n0_ := Aside0.mk ((by rw [hw]; exact below_set (by repeat (first | (with_reducible first | exact HB.out | apply below_alloc | apply pw_below_drewN | apply below_drew1) | exact HB.out)) GY333.out : Below w.heap.size w w59)); have n1_ := Aside0.mk ((by rw [hw]; exact by_set HY333.out ((ji22) : Int) PY335.out (by simp only [List.length_set, bytesOf_length]; exact QY335.out) (Go.bits .xor .u8 (rd (bytesOf t326) (ji22)) a2) : ByRow w59 gy333 5 ((bytesOf t326).set ((ji22) : Int).toNat (Go.bits .xor .u8 (rd (bytesOf t326) (ji22)) a2)))); clear HB; clear HY333; have HB := n0_; have HY333 := n1_; clear n0_ n1_; clear hw; have hzy60 := by_string (P := Try.prog) (src := 38) (dst := 9) HY333.out Try.underlying38 Try.underlying5 Try.underlying9 t326.size cy333 (by simp only [List.length_set, bytesOf_length])) | ((with_reducible refine gate_callee (f := 11) rfl ?_); refine goesL_ (some 78) rfl rfl Try.func11 (by kernel_rfl) rfl #[.string (strOfNums ((bytesOf t326).set ((ji22) : Int).toNat (Go.bits .xor .u8 (rd (bytesOf t326) (ji22)) a2)))] rfl (by (try simp only [List.map_toArray, List.map_cons, List.map_nil]); first | done | (simp only [hji22]; rfl) | rfl | (simp only [List.length_drop, List.length_take]; rfl)) ?_; (with_reducible refine (block_Read.calls kj10 (strOfNums ((bytesOf t326).set ((ji22) : Int).toNat (Go.bits .xor .u8 (rd (bytesOf t326) (ji22)) a2))) t336 t337 _ A25.out).mono ?_); rintro e w61 ⟨v338, rfl, ho0, hb⟩; refine ⟨_, rfl, ?_⟩; have n0_ := Aside0.mk (Kd.R_lower ho0 (below_size (by repeat (first | (with_reducible first | exact HB.out | apply below_alloc | apply pw_below_drewN | apply below_drew1) | exact HB.out)))); have n1_ := Aside0.mk (below_step (by repeat (first | (with_reducible first | exact HB.out | apply below_alloc | apply pw_below_drewN | apply below_drew1) | exact HB.out)) hb); clear HB; have HO339 := n0_; have HB := n1_; clear n0_ n1_; (try clear hb); (try clear hb2); (try clear hk); (try clear hi); (try clear ho0)) | ((with_reducible refine gate_callee (f := 11) rfl ?_); refine goesL_ (some 85) rfl rfl Try.func11 (by kernel_rfl) rfl #[.string (t326.extract 0 ((ji22) : Int).toNat)] rfl (by (try simp only [List.map_toArray, List.map_cons, List.map_nil]); first | done | (simp only [hji22]; rfl) | rfl | (simp only [List.length_drop, List.length_take]; rfl)) ?_; (with_reducible refine (block_Read.calls kj10 (t326.extract 0 ((ji22) : Int).toNat) t340 t341 _ A28.out).mono ?_); rintro e w62 ⟨v342, rfl, ho0, hb⟩; refine ⟨_, rfl, ?_⟩; have n0_ := Aside0.mk (Kd.R_elder' (by (with_reducible repeat (first | apply Kd.R_alloc | apply Kd.R_drewN | apply Kd.R_drew)); exact HO339.out) (Kd.R_base ho0) hb); have n1_ := Aside0.mk (Kd.R_lower (Kd.R_new' ho0 (Kd.R_lt (by (with_reducible repeat (first | apply Kd.R_alloc | apply Kd.R_drewN | apply Kd.R_drew)); exact HO339.out))) (below_size (by repeat (first | (with_reducible first | exact HB.out | apply below_alloc | apply pw_below_drewN | apply below_drew1) | exact HB.out)))); have n2_ := Aside0.mk (below_step (by repeat (first | (with_reducible first | exact HB.out | apply below_alloc | apply pw_below_drewN | apply below_drew1) | exact HB.out)) hb); clear HO339; clear HB; have HO339 := n0_; have HO343 := n1_; have HB := n2_; clear n0_ n1_ n2_; (try clear hb); (try clear hb2); (try clear hk); (try clear hi); (try clear ho0)) | ((with_reducible refine gate_callee (f := 16) rfl ?_); refine goesL_ (some 90) rfl rfl Try.func16 (by kernel_rfl) rfl #[.string t326] rfl (by (try simp only [List.map_toArray, List.map_cons, List.map_nil]); first | done | rfl | (simp only [List.length_drop, List.length_take]; rfl)) ?_; (with_reducible refine (ravelinref3_Open.calls kj10 t326 t344 t345 t346 _ A29.out).mono ?_); rintro e w63 ⟨rfl, hb⟩; refine ⟨_, rfl, ?_⟩; have n0_ := Aside0.mk (Kd.R_below (by (with_reducible repeat (first | apply Kd.R_alloc | apply Kd.R_drewN | apply Kd.R_drew)); exact HO339.out) hb); have n1_ := Aside0.mk (Kd.R_below (by (with_reducible repeat (first | apply Kd.R_alloc | apply Kd.R_drewN | apply Kd.R_drew)); exact HO343.out) hb); have n2_ := Aside0.mk (below_step (by repeat (first | (with_reducible first | exact HB.out | apply below_alloc | apply pw_below_drewN | apply below_drew1) | exact HB.out)) hb); clear HO339; clear HO343; clear HB; have HO339 := n0_; have HO343 := n1_; have HB := n2_; clear n0_ n1_ n2_; (try clear hb); (try clear hb2); (try clear hk); (try clear hi)) | ((with_reducible refine gate_dst (N := 95) rfl ?_); (try (refine gate_guard (by rfl) ?_; dsimp only)); refine conv_event (N := 95) (src := 9) (dst := 38) (e := 5) (x := .tmp 94) (s := t344) ?hg ?hd ?ho ?hx Try.underlying9 Try.underlying38 Try.underlying5 ?_; (case hd => rfl); (case hg => rfl); (case ho => rfl); (case hx => rfl); intro gy347 hg cy347 w64 hy hb; have n0_ := Aside0.mk (Kd.R_below (by (with_reducible repeat (first | apply Kd.R_alloc | apply Kd.R_drewN | apply Kd.R_drew)); exact HO339.out) hb); have n1_ := Aside0.mk (Kd.R_below (by (with_reducible repeat (first | apply Kd.R_alloc | apply Kd.R_drewN | apply Kd.R_drew)); exact HO343.out) hb); have n2_ := Aside0.mk (below_step (by repeat (first | (with_reducible first | exact HB.out | apply below_alloc | apply pw_below_drewN | apply below_drew1) | exact HB.out)) hb); have n3_ := Aside0.mk (hy); have n4_ := Aside0.mk ((by rw [hg]; exact (below_size (by repeat (first | (with_reducible first | exact HB.out | apply below_alloc | apply pw_below_drewN | apply below_drew1) | exact HB.out))) : w.heap.size ≤ gy347)); clear HO339; clear HO343; clear HB; have HO339 := n0_; have HO343 := n1_; have HB := n2_; have HY347 := n3_; have GY347 := n4_; clear n0_ n1_ n2_ n3_ n4_; clear hb hy hg; have PY348 := Aside0.mk (of_decide_eq_true (by first | (with_reducible assumption) | assumption) : 0 ≤ ((ji31) : Int)); have QY348 := Aside0.mk ((of_decide_eq_true (by first | (with_reducible assumption) | assumption)) : ((ji31) : Int) < (t344.size : Int)); have pz348 := eq_true PY348.out; have qz348 := eq_true QY348.out; have hcy348 := by_cell HY347.out ((ji31) : Int) PY348.out (by simp only [List.length_set, bytesOf_length]; exact QY348.out); have hfy348 := by_free HY347.out ((ji31) : Int) PY348.out (by simp only [List.length_set, bytesOf_length]; exact QY348.out); have PY349 := Aside0.mk (of_decide_eq_true (by first | (with_reducible assumption) | assumption) : 0 ≤ ((ji31) : Int)); have QY349 := Aside0.mk ((of_decide_eq_true (by first | (with_reducible assumption) | assumption)) : ((ji31) : Int) < (t344.size : Int)); have pz349 := eq_true PY349.out; have qz349 := eq_true QY349.out; have hcy349 := by_cell HY347.out ((ji31) : Int) PY349.out (by simp only [List.length_set, bytesOf_length]; exact QY349.out); have hfy349 := by_free HY347.out ((ji31) : Int) PY349.out (by simp only [List.length_set, bytesOf_length]; exact QY349.out)) | ((with_reducible refine gate_store (t := 5) (p := 109) rfl ?_); refine store_event (t := 5) (p := 109) (v := ?vo_w65) (w1 := (w64.setCell ⟨gy347, ((ji31) : Int).toNat, none⟩ (.int .u8 (Go.bits .xor .u8 (rd (bytesOf t344) (ji31)) a2)))) ?hg ?ho ?hn ?hr ?_; (case ho => rfl); (case hg => rfl); (case hn => rfl); (case hr => first | (go_simp; done) | (go_simp; rfl)); intro w65 hw; have n0_ := Aside0.mk (by_R HY347.out (by (with_reducible repeat (first | apply Kd.R_alloc | apply Kd.R_drewN | apply Kd.R_drew)); exact HO339.out) hw); have n1_ := Aside0.mk (by_R HY347.out (by (with_reducible repeat (first | apply Kd.R_alloc | apply Kd.R_drewN | apply Kd.R_drew)); exact HO343.out) hw); have n2_ := Aside0.mk ((by rw [hw]; exact below_set (by repeat (first | (with_reducible first | exact HB.out | apply below_alloc | apply pw_below_drewN | apply below_drew1) | exact HB.out)) GY347.out : Below w.heap.size w w65)); have n3_ := Aside0.mk ((by rw [hw]; exact by_set HY347.out ((ji31) : Int) PY349.out (by simp only [List.length_set, bytesOf_length]; exact QY349.out) (Go.bits .xor .u8 (rd (bytesOf t344) (ji31)) a2) : ByRow w65 gy347 5 ((bytesOf t344).set ((ji31) : Int).toNat (Go.bits .xor .u8 (rd (bytesOf t344) (ji31)) a2)))); clear HO339; clear HO343; clear HB; clear HY347; have HO339 := n0_; have HO343 := n1_; have HB := n2_; have HY347 := n3_; clear n0_ n1_ n2_ n3_; clear hw; have hzy66 := by_string (P := Try.prog) (src := 38) (dst := 9) HY347.out Try.underlying38 Try.underlying5 Try.underlying9 t344.size cy347 (by simp only [List.length_set, bytesOf_length])) | ((with_reducible refine gate_callee (f := 17) rfl ?_); refine goesL_ (some 112) rfl rfl Try.func17 (by kernel_rfl) rfl #[.string (strOfNums ((bytesOf t344).set ((ji31) : Int).toNat (Go.bits .xor .u8 (rd (bytesOf t344) (ji31)) a2)))] rfl (by (try simp only [List.map_toArray, List.map_cons, List.map_nil]); first | done | (simp only [hji31]; rfl) | rfl | (simp only [List.length_drop, List.length_take]; rfl)) ?_; (with_reducible refine (ravelinref3_Seal.calls kj10 (strOfNums ((bytesOf t344).set ((ji31) : Int).toNat (Go.bits .xor .u8 (rd (bytesOf t344) (ji31)) a2))) t350 _ A34.out).mono ?_); rintro e w67 ⟨rfl, hb⟩; refine ⟨_, rfl, ?_⟩; have n0_ := Aside0.mk (Kd.R_below (by (with_reducible repeat (first | apply Kd.R_alloc | apply Kd.R_drewN | apply Kd.R_drew)); exact HO339.out) hb); have n1_ := Aside0.mk (Kd.R_below (by (with_reducible repeat (first | apply Kd.R_alloc | apply Kd.R_drewN | apply Kd.R_drew)); exact HO343.out) hb); have n2_ := Aside0.mk (below_step (by repeat (first | (with_reducible first | exact HB.out | apply below_alloc | apply pw_below_drewN | apply below_drew1) | exact HB.out)) hb); clear HO339; clear HO343; clear HB; have HO339 := n0_; have HO343 := n1_; have HB := n2_; clear n0_ n1_ n2_; (try clear hb); (try clear hb2); (try clear hk); (try clear hi)) | ((with_reducible refine gate_callee (f := 11) rfl ?_); refine goesL_ (some 115) rfl rfl Try.func11 (by kernel_rfl) rfl #[.string t350] rfl (by (try simp only [List.map_toArray, List.map_cons, List.map_nil]); first | done | rfl | (simp only [List.length_drop, List.length_take]; rfl)) ?_; (with_reducible refine (block_Read.calls kj10 t350 t351 t352 _ A35.out).mono ?_); rintro e w68 ⟨v353, rfl, ho0, hb⟩; refine ⟨_, rfl, ?_⟩; have n0_ := Aside0.mk (Kd.R_elder' (by (with_reducible repeat (first | apply Kd.R_alloc | apply Kd.R_drewN | apply Kd.R_drew)); exact HO339.out) (Kd.R_base ho0) hb); have n1_ := Aside0.mk (Kd.R_elder' (by (with_reducible repeat (first | apply Kd.R_alloc | apply Kd.R_drewN | apply Kd.R_drew)); exact HO343.out) (Kd.R_base ho0) hb); have n2_ := Aside0.mk (Kd.R_lower (Kd.R_new' (Kd.R_new' ho0 (Kd.R_lt (by (with_reducible repeat (first | apply Kd.R_alloc | apply Kd.R_drewN | apply Kd.R_drew)); exact HO339.out))) (Kd.R_lt (by (with_reducible repeat (first | apply Kd.R_alloc | apply Kd.R_drewN | apply Kd.R_drew)); exact HO343.out))) (below_size (by repeat (first | (with_reducible first | exact HB.out | apply below_alloc | apply pw_below_drewN | apply below_drew1) | exact HB.out)))); have n3_ := Aside0.mk (below_step (by repeat (first | (with_reducible first | exact HB.out | apply below_alloc | apply pw_below_drewN | apply below_drew1) | exact HB.out)) hb); clear HO339; clear HO343; clear HB; have HO339 := n0_; have HO343 := n1_; have HO354 := n2_; have HB := n3_; clear n0_ n1_ n2_ n3_; (try clear hb); (try clear hb2); (try clear hk); (try clear hi); (try clear ho0); obtain ⟨Ao69, co69, eo69⟩ := Kd.R_slice HO354.out; subst eo69) | ((with_reducible refine gate_callee (f := 9) rfl ?_); refine goesL_ (some 120) rfl rfl Try.func9 (by kernel_rfl) rfl #[.slice Ao69 t351.length co69] rfl (by (try simp only [List.map_toArray, List.map_cons, List.map_nil]); first | done | rfl | (simp only [List.length_drop, List.length_take]; rfl)) ?_; (with_reducible refine (block_Make.calls kj10 _ _ t351 t355 t356 _ ?side1 ?side2 A36.out).mono ?_); (case side1 => repeat (first | exact (Kd.R_reads' HO354.out).2.2 | (with_reducible refine Kd.C_alloc ?_ _) | (with_reducible refine Kd.C_drewN ?_ _) | (with_reducible refine Kd.C_drew ?_))); (case side2 => exact (Kd.R_reads' HO354.out).2.1); rintro e w70 ⟨rfl, hb⟩; refine ⟨_, rfl, ?_⟩; have n0_ := Aside0.mk (Kd.R_below (by (with_reducible repeat (first | apply Kd.R_alloc | apply Kd.R_drewN | apply Kd.R_drew)); exact HO339.out) hb); have n1_ := Aside0.mk (Kd.R_below (by (with_reducible repeat (first | apply Kd.R_alloc | apply Kd.R_drewN | apply Kd.R_drew)); exact HO343.out) hb); have n2_ := Aside0.mk (Kd.R_below (by (with_reducible repeat (first | apply Kd.R_alloc | apply Kd.R_drewN | apply Kd.R_drew)); exact HO354.out) hb); have n3_ := Aside0.mk (below_step (by repeat (first | (with_reducible first | exact HB.out | apply below_alloc | apply pw_below_drewN | apply below_drew1) | exact HB.out)) hb); clear HO339; clear HO343; clear HO354; clear HB; have HO339 := n0_; have HO343 := n1_; have HO354 := n2_; have HB := n3_; clear n0_ n1_ n2_ n3_; (try clear hb); (try clear hb2); (try clear hk); (try clear hi); obtain ⟨Ao71, co71, eo71⟩ := Kd.R_slice HO343.out; subst eo71))
                                        go_ret
                                        exact ⟨by first | rfl | (simp [errW_none, errW_some] <;> rfl) | (simp only [← hji22, ← hji31]; first | rfl | (simp [errW_none, errW_some] <;> rfl)) | (simp [*, errW_none, errW_some] <;> rfl), by repeat (first | (with_reducible first | exact HB.out | apply below_alloc | apply pw_below_drewN | apply below_drew1) | exact HB.out)⟩
                                      · rw [if_neg c57] at H
                                        have c57b0 : ((t351.length : Int) == 0) = false := beq_eq_false_iff_ne.mpr c57
                                        have c57b1 : ((t351.length : Int) != 0) = true := bne_iff_ne.mpr c57
                                        have c57b2 : ¬ (t351 = []) := fun h_ => c57 (by rw [h_]; rfl)
                                        exact absurd ((Option.some.inj H).trans HR_.out) (by decide)
                                  · rw [if_neg c40] at H
                                    have c40b0 : ((t340.length : Int) == 0) = false := beq_eq_false_iff_ne.mpr c40
                                    have c40b1 : ((t340.length : Int) != 0) = true := bne_iff_ne.mpr c40
                                    have c40b2 : ¬ (t340 = []) := fun h_ => c40 (by rw [h_]; rfl)
                                    exact absurd ((Option.some.inj H).trans HR_.out) (by decide)
                                · rw [if_neg c39] at H
                                  have c39b0 : (t341 == 12) = false := beq_eq_false_iff_ne.mpr c39
                                  have c39b1 : (t341 != 12) = true := bne_iff_ne.mpr c39
                                  exact absurd ((Option.some.inj H).trans HR_.out) (by decide)
                              · rw [if_neg c38] at H
                                have c38b0 : (t337 == 0) = false := beq_eq_false_iff_ne.mpr c38
                                have c38b1 : (t337 != 0) = true := bne_iff_ne.mpr c38
                                by_cases c72 : (t336.length : Int) = 0
                                · rw [if_pos c72] at H
                                  have c72b0 : ((t336.length : Int) == 0) = true := beq_iff_eq.mpr c72
                                  have c72b1 : ((t336.length : Int) != 0) = false := bne_eq_false_iff_eq.mpr c72
                                  clear c72
                                  by_cases c73 : t341 = 12
                                  · rw [if_pos c73] at H
                                    have c73b0 : (t341 == 12) = true := beq_iff_eq.mpr c73
                                    have c73b1 : (t341 != 12) = false := bne_eq_false_iff_eq.mpr c73
                                    clear c73
                                    by_cases c74 : (t340.length : Int) = 0
                                    · rw [if_pos c74] at H
                                      have c74b0 : ((t340.length : Int) == 0) = true := beq_iff_eq.mpr c74
                                      have c74b1 : ((t340.length : Int) != 0) = false := bne_eq_false_iff_eq.mpr c74
                                      clear c74
                                      by_cases c75 : t352 = 0
                                      · rw [if_pos c75] at H
                                        have c75b0 : (t352 == 0) = true := beq_iff_eq.mpr c75
                                        have c75b1 : (t352 != 0) = false := bne_eq_false_iff_eq.mpr c75
                                        clear c75
                                        by_cases c76 : t356 = 0
                                        · rw [if_pos c76] at H
                                          have c76b0 : (t356 == 0) = true := beq_iff_eq.mpr c76
                                          have c76b1 : (t356 != 0) = false := bne_eq_false_iff_eq.mpr c76
                                          clear c76
                                          obtain rfl := Option.some.inj H
                                          go_wp2_with (first | ((with_reducible refine gate_dst (N := 60) rfl ?_); (try (refine gate_guard (by rfl) ?_; dsimp only)); refine conv_event (N := 60) (src := 9) (dst := 38) (e := 5) (x := .tmp 59) (s := t326) ?hg ?hd ?ho ?hx Try.underlying9 Try.underlying38 Try.underlying5 ?_; (case hd => rfl); (case hg => rfl); (case ho => rfl); (case hx => rfl); intro gy333 hg cy333 w77 hy hb; have n0_ := Aside0.mk (below_step (by repeat (first | (with_reducible first | exact HB.out | apply below_alloc | apply pw_below_drewN | apply below_drew1) | exact HB.out)) hb); have n1_ := Aside0.mk (hy); have n2_ := Aside0.mk ((by rw [hg]; exact (below_size (by repeat (first | (with_reducible first | exact HB.out | apply below_alloc | apply pw_below_drewN | apply below_drew1) | exact HB.out))) : w.heap.size ≤ gy333)); clear HB; have HB := n0_; have HY333 := n1_; have GY333 := n2_; clear n0_ n1_ n2_; clear hb hy hg; have PY334 := Aside0.mk (of_decide_eq_true (by first | (with_reducible assumption) | assumption) : 0 ≤ ((ji22) : Int)); have QY334 := Aside0.mk ((of_decide_eq_true (by first | (with_reducible assumption) | assumption)) : ((ji22) : Int) < (t326.size : Int)); have pz334 := eq_true PY334.out; have qz334 := eq_true QY334.out; have hcy334 := by_cell HY333.out ((ji22) : Int) PY334.out (by simp only [List.length_set, bytesOf_length]; exact QY334.out); have hfy334 := by_free HY333.out ((ji22) : Int) PY334.out (by simp only [List.length_set, bytesOf_length]; exact QY334.out); have PY335 := Aside0.mk (of_decide_eq_true (by first | (with_reducible assumption) | assumption) : 0 ≤ ((ji22) : Int)); have QY335 := Aside0.mk ((of_decide_eq_true (by first | (with_reducible assumption) | assumption)) : ((ji22) : Int) < (t326.size : Int)); have pz335 := eq_true PY335.out; have qz335 := eq_true QY335.out; have hcy335 := by_cell HY333.out ((ji22) : Int) PY335.out (by simp only [List.length_set, bytesOf_length]; exact QY335.out); have hfy335 := by_free HY333.out ((ji22) : Int) PY335.out (by simp only [List.length_set, bytesOf_length]; exact QY335.out)) | ((with_reducible refine gate_store (t := 5) (p := 74) rfl ?_); refine store_event (t := 5) (p := 74) (v := ?vo_w78) (w1 := (w77.setCell ⟨gy333, ((ji22) : Int).toNat, none⟩ (.int .u8 (Go.bits .xor .u8 (rd (bytesOf t326) (ji22)) a2)))) ?hg ?ho ?hn ?hr ?_; (case ho => rfl); (case hg => rfl); (case hn => rfl); (case hr => first | (go_simp; done) | (go_simp; rfl)); intro w78 hw; have n0_ := Aside0.mk ((by rw [hw]; exact below_set (by repeat (first | (with_reducible first | exact HB.out | apply below_alloc | apply pw_below_drewN | apply below_drew1) | exact HB.out)) GY333.out : Below w.heap.size w w78)); have n1_ := Aside0.mk ((by rw [hw]; exact by_set HY333.out ((ji22) : Int) PY335.out (by simp only [List.length_set, bytesOf_length]; exact QY335.out) (Go.bits .xor .u8 (rd (bytesOf t326) (ji22)) a2) : ByRow w78 gy333 5 ((bytesOf t326).set ((ji22) : Int).toNat (Go.bits .xor .u8 (rd (bytesOf t326) (ji22)) a2)))); clear HB; clear HY333; have HB := n0_; have HY333 := n1_; clear n0_ n1_; clear hw; have hzy79 := by_string (P := Try.prog) (src := 38) (dst := 9) HY333.out Try.underlying38 Try.underlying5 Try.underlying9 t326.size cy333 (by simp only [List.length_set, bytesOf_length])) | ((with_reducible refine gate_callee (f := 11) rfl ?_); refine goesL_ (some 78) rfl rfl Try.func11 (by kernel_rfl) rfl #[.string (strOfNums ((bytesOf t326).set ((ji22) : Int).toNat (Go.bits .xor .u8 (rd (bytesOf t326) (ji22)) a2)))] rfl (by (try simp only [List.map_toArray, List.map_cons, List.map_nil]); first | done | (simp only [hji22]; rfl) | rfl | (simp only [List.length_drop, List.length_take]; rfl)) ?_; (with_reducible refine (block_Read.calls kj10 (strOfNums ((bytesOf t326).set ((ji22) : Int).toNat (Go.bits .xor .u8 (rd (bytesOf t326) (ji22)) a2))) t336 t337 _ A25.out).mono ?_); rintro e w80 ⟨v338, rfl, ho0, hb⟩; refine ⟨_, rfl, ?_⟩; have n0_ := Aside0.mk (Kd.R_lower ho0 (below_size (by repeat (first | (with_reducible first | exact HB.out | apply below_alloc | apply pw_below_drewN | apply below_drew1) | exact HB.out)))); have n1_ := Aside0.mk (below_step (by repeat (first | (with_reducible first | exact HB.out | apply below_alloc | apply pw_below_drewN | apply below_drew1) | exact HB.out)) hb); clear HB; have HO339 := n0_; have HB := n1_; clear n0_ n1_; (try clear hb); (try clear hb2); (try clear hk); (try clear hi); (try clear ho0)) | ((with_reducible refine gate_callee (f := 11) rfl ?_); refine goesL_ (some 85) rfl rfl Try.func11 (by kernel_rfl) rfl #[.string (t326.extract 0 ((ji22) : Int).toNat)] rfl (by (try simp only [List.map_toArray, List.map_cons, List.map_nil]); first | done | (simp only [hji22]; rfl) | rfl | (simp only [List.length_drop, List.length_take]; rfl)) ?_; (with_reducible refine (block_Read.calls kj10 (t326.extract 0 ((ji22) : Int).toNat) t340 t341 _ A28.out).mono ?_); rintro e w81 ⟨v342, rfl, ho0, hb⟩; refine ⟨_, rfl, ?_⟩; have n0_ := Aside0.mk (Kd.R_elder' (by (with_reducible repeat (first | apply Kd.R_alloc | apply Kd.R_drewN | apply Kd.R_drew)); exact HO339.out) (Kd.R_base ho0) hb); have n1_ := Aside0.mk (Kd.R_lower (Kd.R_new' ho0 (Kd.R_lt (by (with_reducible repeat (first | apply Kd.R_alloc | apply Kd.R_drewN | apply Kd.R_drew)); exact HO339.out))) (below_size (by repeat (first | (with_reducible first | exact HB.out | apply below_alloc | apply pw_below_drewN | apply below_drew1) | exact HB.out)))); have n2_ := Aside0.mk (below_step (by repeat (first | (with_reducible first | exact HB.out | apply below_alloc | apply pw_below_drewN | apply below_drew1) | exact HB.out)) hb); clear HO339; clear HB; have HO339 := n0_; have HO343 := n1_; have HB := n2_; clear n0_ n1_ n2_; (try clear hb); (try clear hb2); (try clear hk); (try clear hi); (try clear ho0)) | ((with_reducible refine gate_callee (f := 16) rfl ?_); refine goesL_ (some 90) rfl rfl Try.func16 (by kernel_rfl) rfl #[.string t326] rfl (by (try simp only [List.map_toArray, List.map_cons, List.map_nil]); first | done | rfl | (simp only [List.length_drop, List.length_take]; rfl)) ?_; (with_reducible refine (ravelinref3_Open.calls kj10 t326 t344 t345 t346 _ A29.out).mono ?_); rintro e w82 ⟨rfl, hb⟩; refine ⟨_, rfl, ?_⟩; have n0_ := Aside0.mk (Kd.R_below (by (with_reducible repeat (first | apply Kd.R_alloc | apply Kd.R_drewN | apply Kd.R_drew)); exact HO339.out) hb); have n1_ := Aside0.mk (Kd.R_below (by (with_reducible repeat (first | apply Kd.R_alloc | apply Kd.R_drewN | apply Kd.R_drew)); exact HO343.out) hb); have n2_ := Aside0.mk (below_step (by repeat (first | (with_reducible first | exact HB.out | apply below_alloc | apply pw_below_drewN | apply below_drew1) | exact HB.out)) hb); clear HO339; clear HO343; clear HB; have HO339 := n0_; have HO343 := n1_; have HB := n2_; clear n0_ n1_ n2_; (try clear hb); (try clear hb2); (try clear hk); (try clear hi)) | ((with_reducible refine gate_dst (N := 95) rfl ?_); (try (refine gate_guard (by rfl) ?_; dsimp only)); refine conv_event (N := 95) (src := 9) (dst := 38) (e := 5) (x := .tmp 94) (s := t344) ?hg ?hd ?ho ?hx Try.underlying9 Try.underlying38 Try.underlying5 ?_; (case hd => rfl); (case hg => rfl); (case ho => rfl); (case hx => rfl); intro gy347 hg cy347 w83 hy hb; have n0_ := Aside0.mk (Kd.R_below (by (with_reducible repeat (first | apply Kd.R_alloc | apply Kd.R_drewN | apply Kd.R_drew)); exact HO339.out) hb); have n1_ := Aside0.mk (Kd.R_below (by (with_reducible repeat (first | apply Kd.R_alloc | apply Kd.R_drewN | apply Kd.R_drew)); exact HO343.out) hb); have n2_ := Aside0.mk (below_step (by repeat (first | (with_reducible first | exact HB.out | apply below_alloc | apply pw_below_drewN | apply below_drew1) | exact HB.out)) hb); have n3_ := Aside0.mk (hy); have n4_ := Aside0.mk ((by rw [hg]; exact (below_size (by repeat (first | (with_reducible first | exact HB.out | apply below_alloc | apply pw_below_drewN | apply below_drew1) | exact HB.out))) : w.heap.size ≤ gy347)); clear HO339; clear HO343; clear HB; have HO339 := n0_; have HO343 := n1_; have HB := n2_; have HY347 := n3_; have GY347 := n4_; clear n0_ n1_ n2_ n3_ n4_; clear hb hy hg; have PY348 := Aside0.mk (of_decide_eq_true (by first | (with_reducible assumption) | assumption) : 0 ≤ ((ji31) : Int)); have QY348 := Aside0.mk ((of_decide_eq_true (by first | (with_reducible assumption) | assumption)) : ((ji31) : Int) < (t344.size : Int)); have pz348 := eq_true PY348.out; have qz348 := eq_true QY348.out; have hcy348 := by_cell HY347.out ((ji31) : Int) PY348.out (by simp only [List.length_set, bytesOf_length]; exact QY348.out); have hfy348 := by_free HY347.out ((ji31) : Int) PY348.out (by simp only [List.length_set, bytesOf_length]; exact QY348.out); have PY349 := Aside0.mk (of_decide_eq_true (by first | (with_reducible assumption) | assumption) : 0 ≤ ((ji31) : Int)); have QY349 := Aside0.mk ((of_decide_eq_true (by first | (with_reducible assumption) | assumption)) : ((ji31) : Int) < (t344.size : Int)); have pz349 := eq_true PY349.out; have qz349 := eq_true QY349.out; have hcy349 := by_cell HY347.out ((ji31) : Int) PY349.out (by simp only [List.length_set, bytesOf_length]; exact QY349.out); have hfy349 := by_free HY347.out ((ji31) : Int) PY349.out (by simp only [List.length_set, bytesOf_length]; exact QY349.out)) | ((with_reducible refine gate_store (t := 5) (p := 109) rfl ?_); refine store_event (t := 5) (p := 109) (v := ?vo_w84) (w1 := (w83.setCell ⟨gy347, ((ji31) : Int).toNat, none⟩ (.int .u8 (Go.bits .xor .u8 (rd (bytesOf t344) (ji31)) a2)))) ?hg ?ho ?hn ?hr ?_; (case ho => rfl); (case hg => rfl); (case hn => rfl); (case hr => first | (go_simp; done) | (go_simp; rfl)); intro w84 hw; have n0_ := Aside0.mk (by_R HY347.out (by (with_reducible repeat (first | apply Kd.R_alloc | apply Kd.R_drewN | apply Kd.R_drew)); exact HO339.out) hw); have n1_ := Aside0.mk (by_R HY347.out (by (with_reducible repeat (first | apply Kd.R_alloc | apply Kd.R_drewN | apply Kd.R_drew)); exact HO343.out) hw); have n2_ := Aside0.mk ((by rw [hw]; exact below_set (by repeat (first | (with_reducible first | exact HB.out | apply below_alloc | apply pw_below_drewN | apply below_drew1) | exact HB.out)) GY347.out : Below w.heap.size w w84)); have n3_ := Aside0.mk ((by rw [hw]; exact by_set HY347.out ((ji31) : Int) PY349.out (by simp only [List.length_set, bytesOf_length]; exact QY349.out) (Go.bits .xor .u8 (rd (bytesOf t344) (ji31)) a2) : ByRow w84 gy347 5 ((bytesOf t344).set ((ji31) : Int).toNat (Go.bits .xor .u8 (rd (bytesOf t344) (ji31)) a2)))); clear HO339; clear HO343; clear HB; clear HY347; have HO339 := n0_; have HO343 := n1_; have HB := n2_; have HY347 := n3_; clear n0_ n1_ n2_ n3_; clear hw; have hzy85 := by_string (P := Try.prog) (src := 38) (dst := 9) HY347.out Try.underlying38 Try.underlying5 Try.underlying9 t344.size cy347 (by simp only [List.length_set, bytesOf_length])) | ((with_reducible refine gate_callee (f := 17) rfl ?_); refine goesL_ (some 112) rfl rfl Try.func17 (by kernel_rfl) rfl #[.string (strOfNums ((bytesOf t344).set ((ji31) : Int).toNat (Go.bits .xor .u8 (rd (bytesOf t344) (ji31)) a2)))] rfl (by (try simp only [List.map_toArray, List.map_cons, List.map_nil]); first | done | (simp only [hji31]; rfl) | rfl | (simp only [List.length_drop, List.length_take]; rfl)) ?_; (with_reducible refine (ravelinref3_Seal.calls kj10 (strOfNums ((bytesOf t344).set ((ji31) : Int).toNat (Go.bits .xor .u8 (rd (bytesOf t344) (ji31)) a2))) t350 _ A34.out).mono ?_); rintro e w86 ⟨rfl, hb⟩; refine ⟨_, rfl, ?_⟩; have n0_ := Aside0.mk (Kd.R_below (by (with_reducible repeat (first | apply Kd.R_alloc | apply Kd.R_drewN | apply Kd.R_drew)); exact HO339.out) hb); have n1_ := Aside0.mk (Kd.R_below (by (with_reducible repeat (first | apply Kd.R_alloc | apply Kd.R_drewN | apply Kd.R_drew)); exact HO343.out) hb); have n2_ := Aside0.mk (below_step (by repeat (first | (with_reducible first | exact HB.out | apply below_alloc | apply pw_below_drewN | apply below_drew1) | exact HB.out)) hb); clear HO339; clear HO343; clear HB; have HO339 := n0_; have HO343 := n1_; have HB := n2_; clear n0_ n1_ n2_; (try clear hb); (try clear hb2); (try clear hk); (try clear hi)) | ((with_reducible refine gate_callee (f := 11) rfl ?_); refine goesL_ (some 115) rfl rfl Try.func11 (by kernel_rfl) rfl #[.string t350] rfl (by (try simp only [List.map_toArray, List.map_cons, List.map_nil]); first | done | rfl | (simp only [List.length_drop, List.length_take]; rfl)) ?_; (with_reducible refine (block_Read.calls kj10 t350 t351 t352 _ A35.out).mono ?_); rintro e w87 ⟨v353, rfl, ho0, hb⟩; refine ⟨_, rfl, ?_⟩; have n0_ := Aside0.mk (Kd.R_elder' (by (with_reducible repeat (first | apply Kd.R_alloc | apply Kd.R_drewN | apply Kd.R_drew)); exact HO339.out) (Kd.R_base ho0) hb); have n1_ := Aside0.mk (Kd.R_elder' (by (with_reducible repeat (first | apply Kd.R_alloc | apply Kd.R_drewN | apply Kd.R_drew)); exact HO343.out) (Kd.R_base ho0) hb); have n2_ := Aside0.mk (Kd.R_lower (Kd.R_new' (Kd.R_new' ho0 (Kd.R_lt (by (with_reducible repeat (first | apply Kd.R_alloc | apply Kd.R_drewN | apply Kd.R_drew)); exact HO339.out))) (Kd.R_lt (by (with_reducible repeat (first | apply Kd.R_alloc | apply Kd.R_drewN | apply Kd.R_drew)); exact HO343.out))) (below_size (by repeat (first | (with_reducible first | exact HB.out | apply below_alloc | apply pw_below_drewN | apply below_drew1) | exact HB.out)))); have n3_ := Aside0.mk (below_step (by repeat (first | (with_reducible first | exact HB.out | apply below_alloc | apply pw_below_drewN | apply below_drew1) | exact HB.out)) hb); clear HO339; clear HO343; clear HB; have HO339 := n0_; have HO343 := n1_; have HO354 := n2_; have HB := n3_; clear n0_ n1_ n2_ n3_; (try clear hb); (try clear hb2); (try clear hk); (try clear hi); (try clear ho0); obtain ⟨Ao88, co88, eo88⟩ := Kd.R_slice HO354.out; subst eo88) | ((with_reducible refine gate_callee (f := 9) rfl ?_); refine goesL_ (some 120) rfl rfl Try.func9 (by kernel_rfl) rfl #[.slice Ao88 t351.length co88] rfl (by (try simp only [List.map_toArray, List.map_cons, List.map_nil]); first | done | rfl | (simp only [List.length_drop, List.length_take]; rfl)) ?_; (with_reducible refine (block_Make.calls kj10 _ _ t351 t355 t356 _ ?side1 ?side2 A36.out).mono ?_); (case side1 => repeat (first | exact (Kd.R_reads' HO354.out).2.2 | (with_reducible refine Kd.C_alloc ?_ _) | (with_reducible refine Kd.C_drewN ?_ _) | (with_reducible refine Kd.C_drew ?_))); (case side2 => exact (Kd.R_reads' HO354.out).2.1); rintro e w89 ⟨rfl, hb⟩; refine ⟨_, rfl, ?_⟩; have n0_ := Aside0.mk (Kd.R_below (by (with_reducible repeat (first | apply Kd.R_alloc | apply Kd.R_drewN | apply Kd.R_drew)); exact HO339.out) hb); have n1_ := Aside0.mk (Kd.R_below (by (with_reducible repeat (first | apply Kd.R_alloc | apply Kd.R_drewN | apply Kd.R_drew)); exact HO343.out) hb); have n2_ := Aside0.mk (Kd.R_below (by (with_reducible repeat (first | apply Kd.R_alloc | apply Kd.R_drewN | apply Kd.R_drew)); exact HO354.out) hb); have n3_ := Aside0.mk (below_step (by repeat (first | (with_reducible first | exact HB.out | apply below_alloc | apply pw_below_drewN | apply below_drew1) | exact HB.out)) hb); clear HO339; clear HO343; clear HO354; clear HB; have HO339 := n0_; have HO343 := n1_; have HO354 := n2_; have HB := n3_; clear n0_ n1_ n2_ n3_; (try clear hb); (try clear hb2); (try clear hk); (try clear hi); obtain ⟨Ao90, co90, eo90⟩ := Kd.R_slice HO339.out; subst eo90; obtain ⟨Ao91, co91, eo91⟩ := Kd.R_slice HO343.out; subst eo91))
                                          go_ret
                                          exact ⟨by first | rfl | (simp [errW_none, errW_some] <;> rfl) | (simp only [← hji22, ← hji31]; first | rfl | (simp [errW_none, errW_some] <;> rfl)) | (simp [*, errW_none, errW_some] <;> rfl), by repeat (first | (with_reducible first | exact HB.out | apply below_alloc | apply pw_below_drewN | apply below_drew1) | exact HB.out)⟩
                                        · rw [if_neg c76] at H
                                          have c76b0 : (t356 == 0) = false := beq_eq_false_iff_ne.mpr c76
                                          have c76b1 : (t356 != 0) = true := bne_iff_ne.mpr c76
                                          exact absurd ((Option.some.inj H).trans HR_.out) (by decide)
                                      · rw [if_neg c75] at H
                                        have c75b0 : (t352 == 0) = false := beq_eq_false_iff_ne.mpr c75
                                        have c75b1 : (t352 != 0) = true := bne_iff_ne.mpr c75
                                        by_cases c92 : (t351.length : Int) = 0
                                        · rw [if_pos c92] at H
                                          have c92b0 : ((t351.length : Int) == 0) = true := beq_iff_eq.mpr c92
                                          have c92b1 : ((t351.length : Int) != 0) = false := bne_eq_false_iff_eq.mpr c92
                                          clear c92
                                          obtain rfl := Option.some.inj H
                                          go_wp2_with (first | ((with_reducible refine gate_dst (N := 60) rfl ?_); (try (refine gate_guard (by rfl) ?_; dsimp only)); refine conv_event (N := 60) (src := 9) (dst := 38) (e := 5) (x := .tmp 59) (s := t326) ?hg ?hd ?ho ?hx Try.underlying9 Try.underlying38 Try.underlying5 ?_; (case hd => rfl); (case hg => rfl); (case ho => rfl); (case hx => rfl); intro gy333 hg cy333 w93 hy hb; have n0_ := Aside0.mk (below_step (by repeat (first | (with_reducible first | exact HB.out | apply below_alloc | apply pw_below_drewN | apply below_drew1) | exact HB.out)) hb); have n1_ := Aside0.mk (hy); have n2_ := Aside0.mk ((by rw [hg]; exact (below_size (by repeat (first | (with_reducible first | exact HB.out | apply below_alloc | apply pw_below_drewN | apply below_drew1) | exact HB.out))) : w.heap.size ≤ gy333)); clear HB; have HB := n0_; have HY333 := n1_; have GY333 := n2_; clear n0_ n1_ n2_; clear hb hy hg; have PY334 := Aside0.mk (of_decide_eq_true (by first | (with_reducible assumption) | assumption) : 0 ≤ ((ji22) : Int)); have QY334 := Aside0.mk ((of_decide_eq_true (by first | (with_reducible assumption) | assumption)) : ((ji22) : Int) < (t326.size : Int)); have pz334 := eq_true PY334.out; have qz334 := eq_true QY334.out; have hcy334 := by_cell HY333.out ((ji22) : Int) PY334.out (by simp only [List.length_set, bytesOf_length]; exact QY334.out); have hfy334 := by_free HY333.out ((ji22) : Int) PY334.out (by simp only [List.length_set, bytesOf_length]; exact QY334.out); have PY335 := Aside0.mk (of_decide_eq_true (by first | (with_reducible assumption) | assumption) : 0 ≤ ((ji22) : Int)); have QY335 := Aside0.mk ((of_decide_eq_true (by first | (with_reducible assumption) | assumption)) : ((ji22) : Int) < (t326.size : Int)); have pz335 := eq_true PY335.out; have qz335 := eq_true QY335.out; have hcy335 := by_cell HY333.out ((ji22) : Int) PY335.out (by simp only [List.length_set, bytesOf_length]; exact QY335.out); have hfy335 := by_free HY333.out ((ji22) : Int) PY335.out (by simp only [List.length_set, bytesOf_length]; exact QY335.out)) | ((with_reducible refine gate_store (t := 5) (p := 74) rfl ?_); refine store_event (t := 5) (p := 74) (v := ?vo_w94) (w1 := (w93.setCell ⟨gy333, ((ji22) : Int).toNat, none⟩ (.int .u8 (Go.bits .xor .u8 (rd (bytesOf t326) (ji22)) a2)))) ?hg ?ho ?hn ?hr ?_; (case ho => rfl); (case hg => rfl); (case hn => rfl); (case hr => first | (go_simp; done) | (go_simp; rfl)); intro w94 hw; have n0_ := Aside0.mk ((by rw [hw]; exact below_set (by repeat (first | (with_reducible first | exact HB.out | apply below_alloc | apply pw_below_drewN | apply below_drew1) | exact HB.out)) GY333.out : Below w.heap.size w w94)); have n1_ := Aside0.mk ((by rw [hw]; exact by_set HY333.out ((ji22) : Int) PY335.out (by simp only [List.length_set, bytesOf_length]; exact QY335.out) (Go.bits .xor .u8 (rd (bytesOf t326) (ji22)) a2) : ByRow w94 gy333 5 ((bytesOf t326).set ((ji22) : Int).toNat (Go.bits .xor .u8 (rd (bytesOf t326) (ji22)) a2)))); clear HB; clear HY333; have HB := n0_; have HY333 := n1_; clear n0_ n1_; clear hw; have hzy95 := by_string (P := Try.prog) (src := 38) (dst := 9) HY333.out Try.underlying38 Try.underlying5 Try.underlying9 t326.size cy333 (by simp only [List.length_set, bytesOf_length])) | ((with_reducible refine gate_callee (f := 11) rfl ?_); refine goesL_ (some 78) rfl rfl Try.func11 (by kernel_rfl) rfl #[.string (strOfNums ((bytesOf t326).set ((ji22) : Int).toNat (Go.bits .xor .u8 (rd (bytesOf t326) (ji22)) a2)))] rfl (by (try simp only [List.map_toArray, List.map_cons, List.map_nil]); first | done | (simp only [hji22]; rfl) | rfl | (simp only [List.length_drop, List.length_take]; rfl)) ?_; (with_reducible refine (block_Read.calls kj10 (strOfNums ((bytesOf t326).set ((ji22) : Int).toNat (Go.bits .xor .u8 (rd (bytesOf t326) (ji22)) a2))) t336 t337 _ A25.out).mono ?_); rintro e w96 ⟨v338, rfl, ho0, hb⟩; refine ⟨_, rfl, ?_⟩; have n0_ := Aside0.mk (Kd.R_lower ho0 (below_size (by repeat (first | (with_reducible first | exact HB.out | apply below_alloc | apply pw_below_drewN | apply below_drew1) | exact HB.out)))); have n1_ := Aside0.mk (below_step (by repeat (first | (with_reducible first | exact HB.out | apply below_alloc | apply pw_below_drewN | apply below_drew1) | exact HB.out)) hb); clear HB; have HO339 := n0_; have HB := n1_; clear n0_ n1_; (try clear hb); (try clear hb2); (try clear hk); (try clear hi); (try clear ho0)) | ((with_reducible refine gate_callee (f := 11) rfl ?_); refine goesL_ (some 85) rfl rfl Try.func11 (by kernel_rfl) rfl #[.string (t326.extract 0 ((ji22) : Int).toNat)] rfl (by (try simp only [List.map_toArray, List.map_cons, List.map_nil]); first | done | (simp only [hji22]; rfl) | rfl | (simp only [List.length_drop, List.length_take]; rfl)) ?_; (with_reducible refine (block_Read.calls kj10 (t326.extract 0 ((ji22) : Int).toNat) t340 t341 _ A28.out).mono ?_); rintro e w97 ⟨v342, rfl, ho0, hb⟩; refine ⟨_, rfl, ?_⟩; have n0_ := Aside0.mk (Kd.R_elder' (by (with_reducible repeat (first | apply Kd.R_alloc | apply Kd.R_drewN | apply Kd.R_drew)); exact HO339.out) (Kd.R_base ho0) hb); have n1_ := Aside0.mk (Kd.R_lower (Kd.R_new' ho0 (Kd.R_lt (by (with_reducible repeat (first | apply Kd.R_alloc | apply Kd.R_drewN | apply Kd.R_drew)); exact HO339.out))) (below_size (by repeat (first | (with_reducible first | exact HB.out | apply below_alloc | apply pw_below_drewN | apply below_drew1) | exact HB.out)))); have n2_ := Aside0.mk (below_step (by repeat (first | (with_reducible first | exact HB.out | apply below_alloc | apply pw_below_drewN | apply below_drew1) | exact HB.out)) hb); clear HO339; clear HB; have HO339 := n0_; have HO343 := n1_; have HB := n2_; clear n0_ n1_ n2_; (try clear hb); (try clear hb2); (try clear hk); (try clear hi); (try clear ho0)) | ((with_reducible refine gate_callee (f := 16) rfl ?_); refine goesL_ (some 90) rfl rfl Try.func16 (by kernel_rfl) rfl #[.string t326] rfl (by (try simp only [List.map_toArray, List.map_cons, List.map_nil]); first | done | rfl | (simp only [List.length_drop, List.length_take]; rfl)) ?_; (with_reducible refine (ravelinref3_Open.calls kj10 t326 t344 t345 t346 _ A29.out).mono ?_); rintro e w98 ⟨rfl, hb⟩; refine ⟨_, rfl, ?_⟩; have n0_ := Aside0.mk (Kd.R_below (by (with_reducible repeat (first | apply Kd.R_alloc | apply Kd.R_drewN | apply Kd.R_drew)); exact HO339.out) hb); have n1_ := Aside0.mk (Kd.R_below (by (with_reducible repeat (first | apply Kd.R_alloc | apply Kd.R_drewN | apply Kd.R_drew)); exact HO343.out) hb); have n2_ := Aside0.mk (below_step (by repeat (first | (with_reducible first | exact HB.out | apply below_alloc | apply pw_below_drewN | apply below_drew1) | exact HB.out)) hb); clear HO339; clear HO343; clear HB; have HO339 := n0_; have HO343 := n1_; have HB := n2_; clear n0_ n1_ n2_; (try clear hb); (try clear hb2); (try clear hk); (try clear hi)) | ((with_reducible refine gate_dst (N := 95) rfl ?_); (try (refine gate_guard (by rfl) ?_; dsimp only)); refine conv_event (N := 95) (src := 9) (dst := 38) (e := 5) (x := .tmp 94) (s := t344) ?hg ?hd ?ho ?hx Try.underlying9 Try.underlying38 Try.underlying5 ?_; (case hd => rfl); (case hg => rfl); (case ho => rfl); (case hx => rfl); intro gy347 hg cy347 w99 hy hb; have n0_ := Aside0.mk (Kd.R_below (by (with_reducible repeat (first | apply Kd.R_alloc | apply Kd.R_drewN | apply Kd.R_drew)); exact HO339.out) hb); have n1_ := Aside0.mk (Kd.R_below (by (with_reducible repeat (first | apply Kd.R_alloc | apply Kd.R_drewN | apply Kd.R_drew)); exact HO343.out) hb); have n2_ := Aside0.mk (below_step (by repeat (first | (with_reducible first | exact HB.out | apply below_alloc | apply pw_below_drewN | apply below_drew1) | exact HB.out)) hb); have n3_ := Aside0.mk (hy); have n4_ := Aside0.mk ((by rw [hg]; exact (below_size (by repeat (first | (with_reducible first | exact HB.out | apply below_alloc | apply pw_below_drewN | apply below_drew1) | exact HB.out))) : w.heap.size ≤ gy347)); clear HO339; clear HO343; clear HB; have HO339 := n0_; have HO343 := n1_; have HB := n2_; have HY347 := n3_; have GY347 := n4_; clear n0_ n1_ n2_ n3_ n4_; clear hb hy hg; have PY348 := Aside0.mk (of_decide_eq_true (by first | (with_reducible assumption) | assumption) : 0 ≤ ((ji31) : Int)); have QY348 := Aside0.mk ((of_decide_eq_true (by first | (with_reducible assumption) | assumption)) : ((ji31) : Int) < (t344.size : Int)); have pz348 := eq_true PY348.out; have qz348 := eq_true QY348.out; have hcy348 := by_cell HY347.out ((ji31) : Int) PY348.out (by simp only [List.length_set, bytesOf_length]; exact QY348.out); have hfy348 := by_free HY347.out ((ji31) : Int) PY348.out (by simp only [List.length_set, bytesOf_length]; exact QY348.out); have PY349 := Aside0.mk (of_decide_eq_true (by first | (with_reducible assumption) | assumption) : 0 ≤ ((ji31) : Int)); have QY349 := Aside0.mk ((of_decide_eq_true (by first | (with_reducible assumption) | assumption)) : ((ji31) : Int) < (t344.size : Int)); have pz349 := eq_true PY349.out; have qz349 := eq_true QY349.out; have hcy349 := by_cell HY347.out ((ji31) : Int) PY349.out (by simp only [List.length_set, bytesOf_length]; exact QY349.out); have hfy349 := by_free HY347.out ((ji31) : Int) PY349.out (by simp only [List.length_set, bytesOf_length]; exact QY349.out)) | ((with_reducible refine gate_store (t := 5) (p := 109) rfl ?_); refine store_event (t := 5) (p := 109) (v := ?vo_w100) (w1 := (w99.setCell ⟨gy347, ((ji31) : Int).toNat, none⟩ (.int .u8 (Go.bits .xor .u8 (rd (bytesOf t344) (ji31)) a2)))) ?hg ?ho ?hn ?hr ?_; (case ho => rfl); (case hg => rfl); (case hn => rfl); (case hr => first | (go_simp; done) | (go_simp; rfl)); intro w100 hw; have n0_ := Aside0.mk (by_R HY347.out (by (with_reducible repeat (first | apply Kd.R_alloc | apply Kd.R_drewN | apply Kd.R_drew)); exact HO339.out) hw); have n1_ := Aside0.mk (by_R HY347.out (by (with_reducible repeat (first | apply Kd.R_alloc | apply Kd.R_drewN | apply Kd.R_drew)); exact HO343.out) hw); have n2_ := Aside0.mk ((by rw [hw]; exact below_set (by repeat (first | (with_reducible first | exact HB.out | apply below_alloc | apply pw_below_drewN | apply below_drew1) | exact HB.out)) GY347.out : Below w.heap.size w w100)); have n3_ := Aside0.mk ((by rw [hw]; exact by_set HY347.out ((ji31) : Int) PY349.out (by simp only [List.length_set, bytesOf_length]; exact QY349.out) (Go.bits .xor .u8 (rd (bytesOf t344) (ji31)) a2) : ByRow w100 gy347 5 ((bytesOf t344).set ((ji31) : Int).toNat (Go.bits .xor .u8 (rd (bytesOf t344) (ji31)) a2)))); clear HO339; clear HO343; clear HB; clear HY347; have HO339 := n0_; have HO343 := n1_; have HB := n2_; have HY347 := n3_; clear n0_ n1_ n2_ n3_; clear hw; have hzy101 := by_string (P := Try.prog) (src := 38) (dst := 9) HY347.out Try.underlying38 Try.underlying5 Try.underlying9 t344.size cy347 (by simp only [List.length_set, bytesOf_length])) | ((with_reducible refine gate_callee (f := 17) rfl ?_); refine goesL_ (some 112) rfl rfl Try.func17 (by kernel_rfl) rfl #[.string (strOfNums ((bytesOf t344).set ((ji31) : Int).toNat (Go.bits .xor .u8 (rd (bytesOf t344) (ji31)) a2)))] rfl (by (try simp only [List.map_toArray, List.map_cons, List.map_nil]); first | done | (simp only [hji31]; rfl) | rfl | (simp only [List.length_drop, List.length_take]; rfl)) ?_; (with_reducible refine (ravelinref3_Seal.calls kj10 (strOfNums ((bytesOf t344).set ((ji31) : Int).toNat (Go.bits .xor .u8 (rd (bytesOf t344) (ji31)) a2))) t350 _ A34.out).mono ?_); rintro e w102 ⟨rfl, hb⟩; refine ⟨_, rfl, ?_⟩; have n0_ := Aside0.mk (Kd.R_below (by (with_reducible repeat (first | apply Kd.R_alloc | apply Kd.R_drewN | apply Kd.R_drew)); exact HO339.out) hb); have n1_ := Aside0.mk (Kd.R_below (by (with_reducible repeat (first | apply Kd.R_alloc | apply Kd.R_drewN | apply Kd.R_drew)); exact HO343.out) hb); have n2_ := Aside0.mk (below_step (by repeat (first | (with_reducible first | exact HB.out | apply below_alloc | apply pw_below_drewN | apply below_drew1) | exact HB.out)) hb); clear HO339; clear HO343; clear HB; have HO339 := n0_; have HO343 := n1_; have HB := n2_; clear n0_ n1_ n2_; (try clear hb); (try clear hb2); (try clear hk); (try clear hi)) | ((with_reducible refine gate_callee (f := 11) rfl ?_); refine goesL_ (some 115) rfl rfl Try.func11 (by kernel_rfl) rfl #[.string t350] rfl (by (try simp only [List.map_toArray, List.map_cons, List.map_nil]); first | done | rfl | (simp only [List.length_drop, List.length_take]; rfl)) ?_; (with_reducible refine (block_Read.calls kj10 t350 t351 t352 _ A35.out).mono ?_); rintro e w103 ⟨v353, rfl, ho0, hb⟩; refine ⟨_, rfl, ?_⟩; have n0_ := Aside0.mk (Kd.R_elder' (by (with_reducible repeat (first | apply Kd.R_alloc | apply Kd.R_drewN | apply Kd.R_drew)); exact HO339.out) (Kd.R_base ho0) hb); have n1_ := Aside0.mk (Kd.R_elder' (by (with_reducible repeat (first | apply Kd.R_alloc | apply Kd.R_drewN | apply Kd.R_drew)); exact HO343.out) (Kd.R_base ho0) hb); have n2_ := Aside0.mk (Kd.R_lower (Kd.R_new' (Kd.R_new' ho0 (Kd.R_lt (by (with_reducible repeat (first | apply Kd.R_alloc | apply Kd.R_drewN | apply Kd.R_drew)); exact HO339.out))) (Kd.R_lt (by (with_reducible repeat (first | apply Kd.R_alloc | apply Kd.R_drewN | apply Kd.R_drew)); exact HO343.out))) (below_size (by repeat (first | (with_reducible first | exact HB.out | apply below_alloc | apply pw_below_drewN | apply below_drew1) | exact HB.out)))); have n3_ := Aside0.mk (below_step (by repeat (first | (with_reducible first | exact HB.out | apply below_alloc | apply pw_below_drewN | apply below_drew1) | exact HB.out)) hb); clear HO339; clear HO343; clear HB; have HO339 := n0_; have HO343 := n1_; have HO354 := n2_; have HB := n3_; clear n0_ n1_ n2_ n3_; (try clear hb); (try clear hb2); (try clear hk); (try clear hi); (try clear ho0); obtain ⟨Ao104, co104, eo104⟩ := Kd.R_slice HO354.out; subst eo104) | ((with_reducible refine gate_callee (f := 9) rfl ?_); refine goesL_ (some 120) rfl rfl Try.func9 (by kernel_rfl) rfl #[.slice Ao104 t351.length co104] rfl (by (try simp only [List.map_toArray, List.map_cons, List.map_nil]); first | done | rfl | (simp only [List.length_drop, List.length_take]; rfl)) ?_; (with_reducible refine (block_Make.calls kj10 _ _ t351 t355 t356 _ ?side1 ?side2 A36.out).mono ?_); (case side1 => repeat (first | exact (Kd.R_reads' HO354.out).2.2 | (with_reducible refine Kd.C_alloc ?_ _) | (with_reducible refine Kd.C_drewN ?_ _) | (with_reducible refine Kd.C_drew ?_))); (case side2 => exact (Kd.R_reads' HO354.out).2.1); rintro e w105 ⟨rfl, hb⟩; refine ⟨_, rfl, ?_⟩; have n0_ := Aside0.mk (Kd.R_below (by (with_reducible repeat (first | apply Kd.R_alloc | apply Kd.R_drewN | apply Kd.R_drew)); exact HO339.out) hb); have n1_ := Aside0.mk (Kd.R_below (by (with_reducible repeat (first | apply Kd.R_alloc | apply Kd.R_drewN | apply Kd.R_drew)); exact HO343.out) hb); have n2_ := Aside0.mk (Kd.R_below (by (with_reducible repeat (first | apply Kd.R_alloc | apply Kd.R_drewN | apply Kd.R_drew)); exact HO354.out) hb); have n3_ := Aside0.mk (below_step (by repeat (first | (with_reducible first | exact HB.out | apply below_alloc | apply pw_below_drewN | apply below_drew1) | exact HB.out)) hb); clear HO339; clear HO343; clear HO354; clear HB; have HO339 := n0_; have HO343 := n1_; have HO354 := n2_; have HB := n3_; clear n0_ n1_ n2_ n3_; (try clear hb); (try clear hb2); (try clear hk); (try clear hi); obtain ⟨Ao106, co106, eo106⟩ := Kd.R_slice HO339.out; subst eo106; obtain ⟨Ao107, co107, eo107⟩ := Kd.R_slice HO343.out; subst eo107))
                                          go_ret
                                          exact ⟨by first | rfl | (simp [errW_none, errW_some] <;> rfl) | (simp only [← hji22, ← hji31]; first | rfl | (simp [errW_none, errW_some] <;> rfl)) | (simp [*, errW_none, errW_some] <;> rfl), by repeat (first | (with_reducible first | exact HB.out | apply below_alloc | apply pw_below_drewN | apply below_drew1) | exact HB.out)⟩
                                        · rw [if_neg c92] at H
                                          have c92b0 : ((t351.length : Int) == 0) = false := beq_eq_false_iff_ne.mpr c92
                                          have c92b1 : ((t351.length : Int) != 0) = true := bne_iff_ne.mpr c92
                                          have c92b2 : ¬ (t351 = []) := fun h_ => c92 (by rw [h_]; rfl)
                                          exact absurd ((Option.some.inj H).trans HR_.out) (by decide)
                                    · rw [if_neg c74] at H
                                      have c74b0 : ((t340.length : Int) == 0) = false := beq_eq_false_iff_ne.mpr c74
                                      have c74b1 : ((t340.length : Int) != 0) = true := bne_iff_ne.mpr c74
                                      have c74b2 : ¬ (t340 = []) := fun h_ => c74 (by rw [h_]; rfl)
                                      exact absurd ((Option.some.inj H).trans HR_.out) (by decide)
                                  · rw [if_neg c73] at H
                                    have c73b0 : (t341 == 12) = false := beq_eq_false_iff_ne.mpr c73
                                    have c73b1 : (t341 != 12) = true := bne_iff_ne.mpr c73
                                    exact absurd ((Option.some.inj H).trans HR_.out) (by decide)
                                · rw [if_neg c72] at H
                                  have c72b0 : ((t336.length : Int) == 0) = false := beq_eq_false_iff_ne.mpr c72
                                  have c72b1 : ((t336.length : Int) != 0) = true := bne_iff_ne.mpr c72
                                  have c72b2 : ¬ (t336 = []) := fun h_ => c72 (by rw [h_]; rfl)
                                  exact absurd ((Option.some.inj H).trans HR_.out) (by decide)
                            · rw [if_neg c37] at H
                              have c37b0 : ((t337 == 0) == (a2 == 0)) = false := by simpa using c37
                              (try (have c37b1 : decide ((t337 == 0) = (a2 == 0)) = false := by simpa using c37))
                              (try (have c37b2 : ((t337 == 0) == (a2 == 0)) = false := by simpa using c37))
                              (try (have c37b3 : ¬ ((t337 == 0) = (a2 == 0)) := by simpa using c37))
                              (try (have c37b4 : ((a2 == 0)) = !(t337 == 0) := by have h_ := c37; revert h_; generalize (t337 == 0) = u_; generalize (a2 == 0) = v_; cases u_ <;> cases v_ <;> simp))
                              clear c37
                              exact absurd ((Option.some.inj H).trans HR_.out) (by decide)
                          · rw [if_neg c33] at H
                            exact absurd H (by simp)
                        · rw [if_neg c32] at H
                          exact absurd H (by simp)
                    · rw [if_neg c27] at H
                      exact absurd H (by simp)
                  · rw [if_neg c24] at H
                    exact absurd H (by simp)
                · rw [if_neg c23] at H
                  exact absurd H (by simp)
      · rw [if_neg c9] at H
        have c9b0 : (t327 == 0) = false := beq_eq_false_iff_ne.mpr c9
        have c9b1 : (t327 != 0) = true := bne_iff_ne.mpr c9
        obtain rfl := Option.some.inj H
        go_enter Try.func4, Try.ntmps4
        go_wp2_with (first | ((with_reducible refine gate_callee (f := 7) rfl ?_); refine goesL_ (some 27) rfl rfl Try.func7 (by kernel_rfl) rfl #[] rfl (by (try simp only [List.map_toArray, List.map_cons, List.map_nil]); first | done | rfl | (simp only [List.length_drop, List.length_take]; rfl)) ?_; (with_reducible refine (ravelinlaw8_known.calls k  true _ A4.out (by first | rfl | assumption | exact of_decide_eq_true (by assumption))).mono ?_); rintro e w108 ⟨rfl, hb⟩; refine ⟨_, rfl, ?_⟩; have n0_ := Aside0.mk (below_step (by repeat (first | (with_reducible first | exact HB.out | apply below_alloc | apply pw_below_drewN | apply below_drew1) | exact HB.out)) hb); clear HB; have HB := n0_; clear n0_; (try clear hb); (try clear hb2); (try clear hk); (try clear hi)) | ((with_reducible refine gate_callee (f := 8) rfl ?_); refine goesL_ (some 30) rfl rfl Try.func8 (by kernel_rfl) rfl #[.slice A0 l0.length c0] rfl (by (try simp only [List.map_toArray, List.map_cons, List.map_nil]); first | done | rfl | (simp only [List.length_drop, List.length_take]; rfl)) ?_; (with_reducible refine (ravelinlaw8_few.calls k _ _ l0 true _ ?side1 ?side2 A6.out).mono ?_); (case side1 => repeat (first | exact (Kd.C_below HR0.out HB.out) | (with_reducible refine Kd.C_alloc ?_ _) | (with_reducible refine Kd.C_drewN ?_ _) | (with_reducible refine Kd.C_drew ?_))); (case side2 => exact HC0.out); rintro e w' ⟨rfl, ⟨nd, rfl⟩⟩; refine ⟨_, rfl, ?_⟩) | ((with_reducible refine gate_callee (f := 9) rfl ?_); refine goesL_ (some 34) rfl rfl Try.func9 (by kernel_rfl) rfl #[.slice A0 l0.length c0] rfl (by (try simp only [List.map_toArray, List.map_cons, List.map_nil]); first | done | rfl | (simp only [List.length_drop, List.length_take]; rfl)) ?_; (with_reducible refine (block_Make.calls k _ _ l0 t326 t327 _ ?side1 ?side2 A8.out).mono ?_); (case side1 => repeat (first | exact (Kd.C_below HR0.out (by repeat (first | (with_reducible first | exact HB.out | apply below_alloc | apply pw_below_drewN | apply below_drew1) | exact HB.out))) | (with_reducible refine Kd.C_alloc ?_ _) | (with_reducible refine Kd.C_drewN ?_ _) | (with_reducible refine Kd.C_drew ?_))); (case side2 => exact HC0.out); rintro e w109 ⟨rfl, hb⟩; refine ⟨_, rfl, ?_⟩; have n0_ := Aside0.mk (below_step (by repeat (first | (with_reducible first | exact HB.out | apply below_alloc | apply pw_below_drewN | apply below_drew1) | exact HB.out)) hb); clear HB; have HB := n0_; clear n0_; (try clear hb); (try clear hb2); (try clear hk); (try clear hi)))
        go_ret
        exact ⟨by first | rfl | (simp [errW_none, errW_some] <;> rfl) | (simp [*, errW_none, errW_some] <;> rfl), by repeat (first | (with_reducible first | exact HB.out | apply below_alloc | apply pw_below_drewN | apply below_drew1) | exact HB.out)⟩
    · replace c7 := Bool.eq_false_iff.mpr c7
      subst c7
      have H1 : (some true) = some r := by rw [if_neg (show ¬ (false = true) by decide)] at H; exact H
      clear H
      have H := H1
      clear H1
      obtain rfl := Option.some.inj H
      go_enter Try.func4, Try.ntmps4
      go_wp2_with (first | ((with_reducible refine gate_callee (f := 7) rfl ?_); refine goesL_ (some 27) rfl rfl Try.func7 (by kernel_rfl) rfl #[] rfl (by (try simp only [List.map_toArray, List.map_cons, List.map_nil]); first | done | rfl | (simp only [List.length_drop, List.length_take]; rfl)) ?_; (with_reducible refine (ravelinlaw8_known.calls k  true _ A4.out (by first | rfl | assumption | exact of_decide_eq_true (by assumption))).mono ?_); rintro e w110 ⟨rfl, hb⟩; refine ⟨_, rfl, ?_⟩; have n0_ := Aside0.mk (below_step (by repeat (first | (with_reducible first | exact HB.out | apply below_alloc | apply pw_below_drewN | apply below_drew1) | exact HB.out)) hb); clear HB; have HB := n0_; clear n0_; (try clear hb); (try clear hb2); (try clear hk); (try clear hi)) | ((with_reducible refine gate_callee (f := 8) rfl ?_); refine goesL_ (some 30) rfl rfl Try.func8 (by kernel_rfl) rfl #[.slice A0 l0.length c0] rfl (by (try simp only [List.map_toArray, List.map_cons, List.map_nil]); first | done | rfl | (simp only [List.length_drop, List.length_take]; rfl)) ?_; (with_reducible refine (ravelinlaw8_few.calls k _ _ l0 false _ ?side1 ?side2 A6.out).mono ?_); (case side1 => repeat (first | exact (Kd.C_below HR0.out HB.out) | (with_reducible refine Kd.C_alloc ?_ _) | (with_reducible refine Kd.C_drewN ?_ _) | (with_reducible refine Kd.C_drew ?_))); (case side2 => exact HC0.out); rintro e w' ⟨rfl, ⟨nd, rfl⟩⟩; refine ⟨_, rfl, ?_⟩))
      go_ret
      exact ⟨by first | rfl | (simp [errW_none, errW_some] <;> rfl) | (simp [*, errW_none, errW_some] <;> rfl), by repeat (first | (with_reducible first | exact HB.out | apply below_alloc | apply pw_below_drewN | apply below_drew1) | exact HB.out)⟩
  · replace c5 := Bool.eq_false_iff.mpr c5
    subst c5
    have H1 : (some false) = some r := by rw [if_neg (show ¬ (false = true) by decide)] at H; exact H
    clear H
    have H := H1
    clear H1
    exact absurd ((Option.some.inj H).trans HR_.out) (by decide)
def ravelinlaw8_BlockBack.Pure : Prop := ∀ (l0 : List (S45)) (a1 : Int) (a2 : Int), l0.length ≤ 9223372036854775807 → (∀ y_ ∈ l0, (y_.f0.size ≤ 9223372036854775807 ∧ (Lit.int .i64 y_.f1).wf = true ∧ True ∧ y_.f3.size ≤ 9223372036854775807)) → (Lit.int .u16 a1).wf = true → (Lit.int .u8 a2).wf = true → ∃ k, ravelinlaw8_BlockBack.f k l0 a1 a2 = some true

end Go.Proofs.Ythohfmfgijckhaa.P
