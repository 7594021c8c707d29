-- Printed by a changed copy of the kit's printer (wip/tools/ext.py); labels and more
import Derived.Test.YtialmkppgbplpaaPx0
import Derived.Test.YtialmkppgbplpaaPx1
import Derived.Test.YtialmkppgbplpaaPx2
namespace Go.Proofs.Ytialmkppgbplpaa.P
open Go.RowKit Go.Proofs.YtialmkppgbplpaaW.PrintWords Go.Proofs.YtialmkppgbplpaaW.PrintLast Go.Proofs.YtialmkppgbplpaaW.PrintMore
attribute [local go_sem] max2_int min2_int max_two min_two max_three min_three max_four min_four   -- for this text's walks alone
set_option linter.unusedVariables false
set_option linter.unusedSimpArgs false

/-! ### ravelinlaw3_CellBack: function 4 -/
mutual
def ravelinlaw3_CellBack.j0 : Nat → Int → Int → ByteArray → ByteArray → Int → Bool → Option (Bool)
  | 0, _, _, _, _, _, _ => none
  | k + 1, x0, x1, x2, x3, x4, x42 => if x42 = true then (some true) else ((cell_Num.f k x0).bind fun t161 => ((cell_Text.f k x2).bind fun t162 => (if t161.size + x3.size ≤ 9223372036854775807 then ((cell_TakeNum.f k (t161 ++ x3)).bind fun bt163 => (if t162.size + x3.size ≤ 9223372036854775807 then ((cell_TakeText.f k (t162 ++ x3)).bind fun bt166 => (if (t161.size : Int) = 0 then (ravelinlaw3_CellBack.j1 k x0 x1 x2 x4 t161 t162 bt163.1 bt163.2.1 bt163.2.2 bt166.1 bt166.2.1 bt166.2.2 true) else (ravelinlaw3_CellBack.j1 k x0 x1 x2 x4 t161 t162 bt163.1 bt163.2.1 bt163.2.2 bt166.1 bt166.2.1 bt166.2.2 ((t162.size : Int) == 0)))) else (none))) else (none))))
def ravelinlaw3_CellBack.j1 : Nat → Int → Int → ByteArray → Int → ByteArray → ByteArray → Int → Int → Int → ByteArray → Int → Int → Bool → Option (Bool)
  | 0, _, _, _, _, _, _, _, _, _, _, _, _, _ => none
  | k + 1, x0, x1, x2, x4, x11, x12, x13, x14, x15, x16, x17, x18, x70 => if x70 = true then (some false) else (if (x11.size : Int) = 0 then (none) else (if 0 ≤ (Int.tmod (wrap64 (x4)) (x11.size : Int)) then (if (Int.tmod (wrap64 (x4)) (x11.size : Int)) ≤ (x11.size : Int) then ((cell_TakeNum.f k (x11.extract 0 ((Int.tmod (wrap64 (x4)) (x11.size : Int)) : Int).toNat)).bind fun bt169 => (if (x12.size : Int) = 0 then (none) else (if 0 ≤ (Int.tmod (wrap64 (x4)) (x12.size : Int)) then (if (Int.tmod (wrap64 (x4)) (x12.size : Int)) ≤ (x12.size : Int) then ((cell_TakeText.f k (x12.extract 0 ((Int.tmod (wrap64 (x4)) (x12.size : Int)) : Int).toNat)).bind fun bt172 => (if x15 = 0 then (if x13 = x0 then (if x14 = (x11.size : Int) then (if x18 = 0 then (if x16.toList = x2.toList then (if x17 = (x12.size : Int) then (if bt169.2.2 = 12 then (if bt172.2.2 = 12 then ((cell_Num.f k x1).bind fun t175 => ((cell_Less.f x11 t175).bind fun t176 => (some (t176 == (decide (x0 < x1)))))) else (some false)) else (some false)) else (some false)) else (some false)) else (some false)) else (some false)) else (some false)) else (some false))) else (none)) else (none)))) else (none)) else (none)))
end
def ravelinlaw3_CellBack.f (k : Nat) (a0 : Int) (a1 : Int) (a2 : ByteArray) (a3 : ByteArray) (a4 : Int) : Option (Bool) := (ravelinlaw3_known.f k).bind fun t160 => (if t160 = true then (if (a2.size : Int) > 300 then (ravelinlaw3_CellBack.j0 k a0 a1 a2 a3 a4 true) else (if (a3.size : Int) > 300 then (ravelinlaw3_CellBack.j0 k a0 a1 a2 a3 a4 true) else (if a0 < 0 then (ravelinlaw3_CellBack.j0 k a0 a1 a2 a3 a4 true) else (ravelinlaw3_CellBack.j0 k a0 a1 a2 a3 a4 (decide (a1 < 0)))))) else (some false))
theorem ravelinlaw3_CellBack.mono_l : ∀ k, (∀ y0 y1 y2 y3 y4 y5, LeO (ravelinlaw3_CellBack.j0 k y0 y1 y2 y3 y4 y5) (ravelinlaw3_CellBack.j0 (k + 1) y0 y1 y2 y3 y4 y5)) ∧ (∀ y0 y1 y2 y3 y4 y5 y6 y7 y8 y9 y10 y11 y12, LeO (ravelinlaw3_CellBack.j1 k y0 y1 y2 y3 y4 y5 y6 y7 y8 y9 y10 y11 y12) (ravelinlaw3_CellBack.j1 (k + 1) y0 y1 y2 y3 y4 y5 y6 y7 y8 y9 y10 y11 y12))
  | 0 => ⟨fun _ _ _ _ _ _ r h => by simp [ravelinlaw3_CellBack.j0] at h, fun _ _ _ _ _ _ _ _ _ _ _ _ _ r h => by simp [ravelinlaw3_CellBack.j1] at h⟩
  | k + 1 => by
    obtain ⟨ih0, ih1⟩ := ravelinlaw3_CellBack.mono_l k
    refine ⟨?_, ?_⟩
    · intro y0 y1 y2 y3 y4 y5
      unfold ravelinlaw3_CellBack.j0
      repeat' first
      | (with_reducible exact ih0 _ _ _ _ _ _)
      | (with_reducible exact ih1 _ _ _ _ _ _ _ _ _ _ _ _ _)
      | (with_reducible exact cell_Num.mono _ _)
      | (with_reducible exact cell_TakeNum.mono _ _)
      | (with_reducible exact cell_TakeText.mono _ _)
      | (with_reducible exact cell_Text.mono _ _)
      | (with_reducible exact ravelinlaw3_known.mono _)
      | (with_reducible exact LeO.refl _)
      | (with_reducible exact LeO.none _)
      | (with_reducible refine LeO.ite ?_ ?_)
      | (with_reducible refine LeO.bind ?_ (fun _ => ?_))
      | exact ih0 _ _ _ _ _ _
      | exact ih1 _ _ _ _ _ _ _ _ _ _ _ _ _
      | exact cell_Num.mono _ _
      | exact cell_TakeNum.mono _ _
      | exact cell_TakeText.mono _ _
      | exact cell_Text.mono _ _
      | exact ravelinlaw3_known.mono _
      | exact LeO.none _
      | refine LeO.ite ?_ ?_
      | refine LeO.bind ?_ (fun _ => ?_)
    · intro y0 y1 y2 y3 y4 y5 y6 y7 y8 y9 y10 y11 y12
      unfold ravelinlaw3_CellBack.j1
      repeat' first
      | (with_reducible exact ih0 _ _ _ _ _ _)
      | (with_reducible exact ih1 _ _ _ _ _ _ _ _ _ _ _ _ _)
      | (with_reducible exact cell_Num.mono _ _)
      | (with_reducible exact cell_TakeNum.mono _ _)
      | (with_reducible exact cell_TakeText.mono _ _)
      | (with_reducible exact cell_Text.mono _ _)
      | (with_reducible exact ravelinlaw3_known.mono _)
      | (with_reducible exact LeO.refl _)
      | (with_reducible exact LeO.none _)
      | (with_reducible refine LeO.ite ?_ ?_)
      | (with_reducible refine LeO.bind ?_ (fun _ => ?_))
      | exact ih0 _ _ _ _ _ _
      | exact ih1 _ _ _ _ _ _ _ _ _ _ _ _ _
      | exact cell_Num.mono _ _
      | exact cell_TakeNum.mono _ _
      | exact cell_TakeText.mono _ _
      | exact cell_Text.mono _ _
      | exact ravelinlaw3_known.mono _
      | exact LeO.none _
      | refine LeO.ite ?_ ?_
      | refine LeO.bind ?_ (fun _ => ?_)
theorem ravelinlaw3_CellBack.mono : ∀ a0 a1 a2 a3 a4 k, LeO (ravelinlaw3_CellBack.f k a0 a1 a2 a3 a4) (ravelinlaw3_CellBack.f (k + 1) a0 a1 a2 a3 a4) := by
  intro a0 a1 a2 a3 a4 k
  obtain ⟨ih0, ih1⟩ := ravelinlaw3_CellBack.mono_l k
  unfold ravelinlaw3_CellBack.f
  repeat' first
      | (with_reducible exact ih0 _ _ _ _ _ _)
      | (with_reducible exact ih1 _ _ _ _ _ _ _ _ _ _ _ _ _)
      | (with_reducible exact cell_Num.mono _ _)
      | (with_reducible exact cell_TakeNum.mono _ _)
      | (with_reducible exact cell_TakeText.mono _ _)
      | (with_reducible exact cell_Text.mono _ _)
      | (with_reducible exact ravelinlaw3_known.mono _)
      | (with_reducible exact LeO.refl _)
      | (with_reducible exact LeO.none _)
      | (with_reducible refine LeO.ite ?_ ?_)
      | (with_reducible refine LeO.bind ?_ (fun _ => ?_))
      | exact ih0 _ _ _ _ _ _
      | exact ih1 _ _ _ _ _ _ _ _ _ _ _ _ _
      | exact cell_Num.mono _ _
      | exact cell_TakeNum.mono _ _
      | exact cell_TakeText.mono _ _
      | exact cell_Text.mono _ _
      | exact ravelinlaw3_known.mono _
      | exact LeO.none _
      | refine LeO.ite ?_ ?_
      | refine LeO.bind ?_ (fun _ => ?_)
set_option maxHeartbeats 8000000 in
set_option maxRecDepth 100000 in
theorem ravelinlaw3_CellBack.calls (k : Nat) (a0 : Int) (a1 : Int) (a2 : ByteArray) (a3 : ByteArray) (a4 : Int) (r : Bool) (w : World) (h : ravelinlaw3_CellBack.f k a0 a1 a2 a3 a4 = some r) :
    Calls Try.prog 4 #[.int .i64 a0, .int .i64 a1, .string a2, .string a3, .int .u8 a4] w fun e w' => e = .returned (.bool r) ∧ Below w.heap.size w w' := by
  have HB := Aside0.mk (Below.refl w.heap.size w)
  have H : ((ravelinlaw3_known.f k).bind fun t160 => (if t160 = true then (if (a2.size : Int) > 300 then (ravelinlaw3_CellBack.j0 k a0 a1 a2 a3 a4 true) else (if (a3.size : Int) > 300 then (ravelinlaw3_CellBack.j0 k a0 a1 a2 a3 a4 true) else (if a0 < 0 then (ravelinlaw3_CellBack.j0 k a0 a1 a2 a3 a4 true) else (ravelinlaw3_CellBack.j0 k a0 a1 a2 a3 a4 (decide (a1 < 0)))))) else (some false))) = some r := h
  clear h
  replace H := Option.bind_eq_some_iff.mp H
  obtain ⟨t160, A60, H⟩ := H
  replace H : (if t160 = true then (if (a2.size : Int) > 300 then (ravelinlaw3_CellBack.j0 k a0 a1 a2 a3 a4 true) else (if (a3.size : Int) > 300 then (ravelinlaw3_CellBack.j0 k a0 a1 a2 a3 a4 true) else (if a0 < 0 then (ravelinlaw3_CellBack.j0 k a0 a1 a2 a3 a4 true) else (ravelinlaw3_CellBack.j0 k a0 a1 a2 a3 a4 (decide (a1 < 0)))))) else (some false)) = some r := H
  have A6 := Aside0.mk A60
  clear A60
  by_cases c7 : t160 = true
  · subst c7
    have H1 : (if (a2.size : Int) > 300 then (ravelinlaw3_CellBack.j0 k a0 a1 a2 a3 a4 true) else (if (a3.size : Int) > 300 then (ravelinlaw3_CellBack.j0 k a0 a1 a2 a3 a4 true) else (if a0 < 0 then (ravelinlaw3_CellBack.j0 k a0 a1 a2 a3 a4 true) else (ravelinlaw3_CellBack.j0 k a0 a1 a2 a3 a4 (decide (a1 < 0)))))) = some r := by rw [if_pos rfl] at H; exact H
    clear H
    have H := H1
    clear H1
    have HC8 := Aside0.mk H
    clear H
    go_enter Try.func4, Try.ntmps4
    go_upto_region 3 with (first | ((with_reducible refine gate_callee (f := 8) rfl ?_); refine goesL_ (some 25) rfl rfl Try.func8 (by kernel_rfl) rfl #[] rfl (by (try simp only [List.map_toArray, List.map_cons, List.map_nil]); first | done | rfl | (simp only [List.length_drop, List.length_take]; rfl)) ?_; (with_reducible refine (ravelinlaw3_known.calls k  true _ A6.out).mono ?_); rintro e w9 ⟨rfl, hb⟩; refine ⟨_, rfl, ?_⟩; have n0_ := Aside0.mk (below_step (by repeat (first | (with_reducible first | exact HB.out | apply below_alloc | apply pw_below_drewN | apply below_drew1) | exact HB.out)) hb); clear HB; have HB := n0_; clear n0_; (try clear hb); (try clear hb2); (try clear hk); (try clear hi)))
    (try simp only [Act.put, List.setIfInBounds_toArray, List.set_cons_zero, List.set_cons_succ])
    go_cut [42] (fun v42 wc => ∃ (kq : Nat) (x42_7 : Bool), v42 = .bool x42_7 ∧ Aside0 (ravelinlaw3_CellBack.j0 kq a0 a1 a2 a3 a4 x42_7 = some r) ∧ Aside0 (kq ≤ k) ∧ Aside0 (Below w.heap.size w wc))
    case first =>
      have H := HC8.out
      clear HC8
      by_cases c10 : (a2.size : Int) > 300
      · rw [if_pos c10] at H
        have c10b0 : decide (300 < (a2.size : Int)) = true := decide_eq_true c10
        have c10b1 : decide (300 < a2.size) = true := decide_eq_true (by omega)
        clear c10
        (first | rw [c10b0] | (simp only [i64_w, i32_w]; rw [c10b0]) | skip)
        have H' := Aside0.mk H
        clear H
        go_wp2
        go_meet
        case rel => exact ⟨_, (true), (by first | rfl | (simp; done) | (simp [*]; done)), H', ⟨by first | omega | exact Nat.le_refl _⟩, ⟨by repeat (first | (with_reducible first | exact HB.out | apply below_alloc | apply pw_below_drewN | apply below_drew1) | exact HB.out)⟩⟩
      · rw [if_neg c10] at H
        have c10b0 : decide (300 < (a2.size : Int)) = false := decide_eq_false c10
        have c10b1 : decide (300 < a2.size) = false := decide_eq_false (by omega)
        clear c10
        (first | rw [c10b0] | (simp only [i64_w, i32_w]; rw [c10b0]) | skip)
        by_cases c11 : (a3.size : Int) > 300
        · rw [if_pos c11] at H
          have c11b0 : decide (300 < (a3.size : Int)) = true := decide_eq_true c11
          have c11b1 : decide (300 < a3.size) = true := decide_eq_true (by omega)
          clear c11
          have H' := Aside0.mk H
          clear H
          go_wp2
          go_meet
          case rel => exact ⟨_, (true), (by first | rfl | (simp; done) | (simp [*]; done)), H', ⟨by first | omega | exact Nat.le_refl _⟩, ⟨by repeat (first | (with_reducible first | exact HB.out | apply below_alloc | apply pw_below_drewN | apply below_drew1) | exact HB.out)⟩⟩
        · rw [if_neg c11] at H
          have c11b0 : decide (300 < (a3.size : Int)) = false := decide_eq_false c11
          have c11b1 : decide (300 < a3.size) = false := decide_eq_false (by omega)
          clear c11
          by_cases c12 : a0 < 0
          · rw [if_pos c12] at H
            have c12b0 : decide (a0 < 0) = true := decide_eq_true c12
            clear c12
            have H' := Aside0.mk H
            clear H
            go_wp2
            go_meet
            case rel => exact ⟨_, (true), (by first | rfl | (simp; done) | (simp [*]; done)), H', ⟨by first | omega | exact Nat.le_refl _⟩, ⟨by repeat (first | (with_reducible first | exact HB.out | apply below_alloc | apply pw_below_drewN | apply below_drew1) | exact HB.out)⟩⟩
          · rw [if_neg c12] at H
            have c12b0 : decide (a0 < 0) = false := decide_eq_false c12
            clear c12
            have H' := Aside0.mk H
            clear H
            go_wp2
            go_meet
            case rel => exact ⟨_, (decide (a1 < 0)), (by first | rfl | (simp; done) | (simp [*]; done)), H', ⟨by first | omega | exact Nat.le_refl _⟩, ⟨by repeat (first | (with_reducible first | exact HB.out | apply below_alloc | apply pw_below_drewN | apply below_drew1) | exact HB.out)⟩⟩
    case rest =>
      clear HC8
      try clear c1
      try clear p2
      try clear c4
      try clear c7
      try clear c8
      try clear c10
      try clear c10b0
      try clear c10b1
      try clear c11
      try clear c11b0
      try clear c11b1
      try clear c12
      try clear c12b0
      obtain ⟨kq, x42_7, rfl, HA, HJ7, HB⟩ := hcut
      cases kq with
      | zero => exact absurd HA.out (by simp [ravelinlaw3_CellBack.j0])
      | succ kj7 =>
        have H := HA.out
        clear HA
        simp only [ravelinlaw3_CellBack.j0] at H
        by_cases c13 : x42_7 = true
        · subst c13
          have H1 : (some true) = some r := by rw [if_pos rfl] at H; exact H
          clear H
          have H := H1
          clear H1
          obtain rfl := Option.some.inj H
          go_wp2
          go_ret
          exact ⟨by first | rfl | (simp [errW_none, errW_some] <;> rfl) | (simp [*, errW_none, errW_some] <;> rfl), by repeat (first | (with_reducible first | exact HB.out | apply below_alloc | apply pw_below_drewN | apply below_drew1) | exact HB.out)⟩
        · replace c13 := Bool.eq_false_iff.mpr c13
          subst c13
          have H1 : ((cell_Num.f kj7 a0).bind fun t161 => ((cell_Text.f kj7 a2).bind fun t162 => (if t161.size + a3.size ≤ 9223372036854775807 then ((cell_TakeNum.f kj7 (t161 ++ a3)).bind fun bt163 => (if t162.size + a3.size ≤ 9223372036854775807 then ((cell_TakeText.f kj7 (t162 ++ a3)).bind fun bt166 => (if (t161.size : Int) = 0 then (ravelinlaw3_CellBack.j1 kj7 a0 a1 a2 a4 t161 t162 bt163.1 bt163.2.1 bt163.2.2 bt166.1 bt166.2.1 bt166.2.2 true) else (ravelinlaw3_CellBack.j1 kj7 a0 a1 a2 a4 t161 t162 bt163.1 bt163.2.1 bt163.2.2 bt166.1 bt166.2.1 bt166.2.2 ((t162.size : Int) == 0)))) else (none))) else (none)))) = some r := by rw [if_neg (show ¬ (false = true) by decide)] at H; exact H
          clear H
          have H := H1
          clear H1
          replace H := Option.bind_eq_some_iff.mp H
          obtain ⟨t161, A140, H⟩ := H
          replace H : ((cell_Text.f kj7 a2).bind fun t162 => (if t161.size + a3.size ≤ 9223372036854775807 then ((cell_TakeNum.f kj7 (t161 ++ a3)).bind fun bt163 => (if t162.size + a3.size ≤ 9223372036854775807 then ((cell_TakeText.f kj7 (t162 ++ a3)).bind fun bt166 => (if (t161.size : Int) = 0 then (ravelinlaw3_CellBack.j1 kj7 a0 a1 a2 a4 t161 t162 bt163.1 bt163.2.1 bt163.2.2 bt166.1 bt166.2.1 bt166.2.2 true) else (ravelinlaw3_CellBack.j1 kj7 a0 a1 a2 a4 t161 t162 bt163.1 bt163.2.1 bt163.2.2 bt166.1 bt166.2.1 bt166.2.2 ((t162.size : Int) == 0)))) else (none))) else (none))) = some r := H
          have A14 := Aside0.mk A140
          clear A140
          replace H := Option.bind_eq_some_iff.mp H
          obtain ⟨t162, A150, H⟩ := H
          replace H : (if t161.size + a3.size ≤ 9223372036854775807 then ((cell_TakeNum.f kj7 (t161 ++ a3)).bind fun bt163 => (if t162.size + a3.size ≤ 9223372036854775807 then ((cell_TakeText.f kj7 (t162 ++ a3)).bind fun bt166 => (if (t161.size : Int) = 0 then (ravelinlaw3_CellBack.j1 kj7 a0 a1 a2 a4 t161 t162 bt163.1 bt163.2.1 bt163.2.2 bt166.1 bt166.2.1 bt166.2.2 true) else (ravelinlaw3_CellBack.j1 kj7 a0 a1 a2 a4 t161 t162 bt163.1 bt163.2.1 bt163.2.2 bt166.1 bt166.2.1 bt166.2.2 ((t162.size : Int) == 0)))) else (none))) else (none)) = some r := H
          have A15 := Aside0.mk A150
          clear A150
          by_cases c16 : t161.size + a3.size ≤ 9223372036854775807
          · rw [if_pos c16] at H
            have c16b0 := eq_true c16
            have c16b1 : decide (t161.size + a3.size ≤ 9223372036854775807) = true := decide_eq_true c16
            try have c16b2 : (9223372036854775807 < t161.size + a3.size) = False := eq_false (Nat.not_lt.2 c16)
            replace H := Option.bind_eq_some_iff.mp H
            obtain ⟨⟨t163, t164, t165⟩, A170, H⟩ := H
            replace H : (if t162.size + a3.size ≤ 9223372036854775807 then ((cell_TakeText.f kj7 (t162 ++ a3)).bind fun bt166 => (if (t161.size : Int) = 0 then (ravelinlaw3_CellBack.j1 kj7 a0 a1 a2 a4 t161 t162 t163 t164 t165 bt166.1 bt166.2.1 bt166.2.2 true) else (ravelinlaw3_CellBack.j1 kj7 a0 a1 a2 a4 t161 t162 t163 t164 t165 bt166.1 bt166.2.1 bt166.2.2 ((t162.size : Int) == 0)))) else (none)) = some r := H
            have A17 := Aside0.mk A170
            clear A170
            by_cases c18 : t162.size + a3.size ≤ 9223372036854775807
            · rw [if_pos c18] at H
              have c18b0 := eq_true c18
              have c18b1 : decide (t162.size + a3.size ≤ 9223372036854775807) = true := decide_eq_true c18
              try have c18b2 : (9223372036854775807 < t162.size + a3.size) = False := eq_false (Nat.not_lt.2 c18)
              replace H := Option.bind_eq_some_iff.mp H
              obtain ⟨⟨t166, t167, t168⟩, A190, H⟩ := H
              replace H : (if (t161.size : Int) = 0 then (ravelinlaw3_CellBack.j1 kj7 a0 a1 a2 a4 t161 t162 t163 t164 t165 t166 t167 t168 true) else (ravelinlaw3_CellBack.j1 kj7 a0 a1 a2 a4 t161 t162 t163 t164 t165 t166 t167 t168 ((t162.size : Int) == 0))) = some r := H
              have A19 := Aside0.mk A190
              clear A190
              have HC20 := Aside0.mk H
              clear H
              go_upto_region 8 with (first | ((with_reducible refine gate_callee (f := 13) rfl ?_); refine goesL_ (some 44) rfl rfl Try.func13 (by kernel_rfl) rfl #[.int .i64 a0] rfl (by (try simp only [List.map_toArray, List.map_cons, List.map_nil]); first | done | rfl | (simp only [List.length_drop, List.length_take]; rfl)) ?_; (with_reducible refine (cell_Num.calls kj7 a0 t161 _ A14.out).mono ?_); rintro e w21 ⟨rfl, hb⟩; refine ⟨_, rfl, ?_⟩; have n0_ := Aside0.mk (below_step (by repeat (first | (with_reducible first | exact HB.out | apply below_alloc | apply pw_below_drewN | apply below_drew1) | exact HB.out)) hb); clear HB; have HB := n0_; clear n0_; (try clear hb); (try clear hb2); (try clear hk); (try clear hi)) | ((with_reducible refine gate_callee (f := 15) rfl ?_); refine goesL_ (some 46) rfl rfl Try.func15 (by kernel_rfl) rfl #[.string a2] rfl (by (try simp only [List.map_toArray, List.map_cons, List.map_nil]); first | done | rfl | (simp only [List.length_drop, List.length_take]; rfl)) ?_; (with_reducible refine (cell_Text.calls kj7 a2 t162 _ A15.out).mono ?_); rintro e w22 ⟨rfl, hb⟩; refine ⟨_, rfl, ?_⟩; have n0_ := Aside0.mk (below_step (by repeat (first | (with_reducible first | exact HB.out | apply below_alloc | apply pw_below_drewN | apply below_drew1) | exact HB.out)) hb); clear HB; have HB := n0_; clear n0_; (try clear hb); (try clear hb2); (try clear hk); (try clear hi)) | ((with_reducible refine gate_callee (f := 9) rfl ?_); refine goesL_ (some 51) rfl rfl Try.func9 (by kernel_rfl) rfl #[.string (t161 ++ a3)] rfl (by (try simp only [List.map_toArray, List.map_cons, List.map_nil]); first | done | rfl | (simp only [List.length_drop, List.length_take]; rfl)) ?_; (with_reducible refine (cell_TakeNum.calls kj7 (t161 ++ a3) t163 t164 t165 _ A17.out).mono ?_); rintro e w' ⟨rfl, ⟨nd, rfl⟩⟩; refine ⟨_, rfl, ?_⟩) | ((with_reducible refine gate_callee (f := 11) rfl ?_); refine goesL_ (some 59) rfl rfl Try.func11 (by kernel_rfl) rfl #[.string (t162 ++ a3)] rfl (by (try simp only [List.map_toArray, List.map_cons, List.map_nil]); first | done | rfl | (simp only [List.length_drop, List.length_take]; rfl)) ?_; (with_reducible refine (cell_TakeText.calls kj7 (t162 ++ a3) t166 t167 t168 _ A19.out).mono ?_); rintro e w' ⟨rfl, ⟨nd, rfl⟩⟩; refine ⟨_, rfl, ?_⟩))
              (try simp only [Act.put, List.setIfInBounds_toArray, List.set_cons_zero, List.set_cons_succ])
              go_cut [70] (fun v70 wc => ∃ (kq : Nat) (x70_19 : Bool), v70 = .bool x70_19 ∧ Aside0 (ravelinlaw3_CellBack.j1 kq a0 a1 a2 a4 t161 t162 t163 t164 t165 t166 t167 t168 x70_19 = some r) ∧ Aside0 (kq ≤ kj7) ∧ Aside0 (Below w.heap.size w wc))
              case first =>
                have H := HC20.out
                clear HC20
                by_cases c23 : (t161.size : Int) = 0
                · rw [if_pos c23] at H
                  have c23b0 : ((t161.size : Int) == 0) = true := beq_iff_eq.mpr c23
                  have c23b1 : ((t161.size : Int) != 0) = false := bne_eq_false_iff_eq.mpr c23
                  clear c23
                  (first | rw [c23b0] | (simp only [i64_w, i32_w]; rw [c23b0]) | skip)
                  have H' := Aside0.mk H
                  clear H
                  go_wp2
                  go_meet
                  case rel => exact ⟨_, (true), (by first | rfl | (simp; done) | (simp [*]; done)), H', ⟨by have := HJ7.out; first | omega | exact Nat.le_refl _⟩, ⟨by repeat (first | (with_reducible first | exact HB.out | apply below_alloc | apply pw_below_drewN | apply below_drew1) | exact HB.out)⟩⟩
                · rw [if_neg c23] at H
                  have c23b0 : ((t161.size : Int) == 0) = false := beq_eq_false_iff_ne.mpr c23
                  have c23b1 : ((t161.size : Int) != 0) = true := bne_iff_ne.mpr c23
                  (first | rw [c23b0] | (simp only [i64_w, i32_w]; rw [c23b0]) | skip)
                  have H' := Aside0.mk H
                  clear H
                  go_wp2
                  go_meet
                  case rel => exact ⟨_, (((t162.size : Int) == 0)), (by first | rfl | (simp; done) | (simp [*]; done)), H', ⟨by have := HJ7.out; first | omega | exact Nat.le_refl _⟩, ⟨by repeat (first | (with_reducible first | exact HB.out | apply below_alloc | apply pw_below_drewN | apply below_drew1) | exact HB.out)⟩⟩
              case rest =>
                clear HC20
                try clear c1
                try clear c2
                try clear p2
                try clear c4
                try clear c7
                try clear c8
                try clear c9
                try clear c10
                try clear c10b0
                try clear c10b1
                try clear c11
                try clear c11b0
                try clear c11b1
                try clear c12
                try clear c12b0
                try clear c13
                try clear c15
                try clear c16
                try clear c16b0
                try clear c16b1
                try clear c16b2
                try clear c18
                try clear c18b0
                try clear c18b1
                try clear c18b2
                try clear c23
                try clear c23b0
                try clear c23b1
                try clear p2
                obtain ⟨kq, x70_19, rfl, HA, HJ19, HB⟩ := hcut
                cases kq with
                | zero => exact absurd HA.out (by simp [ravelinlaw3_CellBack.j1])
                | succ kj19 =>
                  have H := HA.out
                  clear HA
                  simp only [ravelinlaw3_CellBack.j1] at H
                  by_cases c24 : x70_19 = true
                  · subst c24
                    have H1 : (some false) = some r := by rw [if_pos rfl] at H; exact H
                    clear H
                    have H := H1
                    clear H1
                    obtain rfl := Option.some.inj H
                    go_wp2
                    go_ret
                    exact ⟨by first | rfl | (simp [errW_none, errW_some] <;> rfl) | (simp [*, errW_none, errW_some] <;> rfl), by repeat (first | (with_reducible first | exact HB.out | apply below_alloc | apply pw_below_drewN | apply below_drew1) | exact HB.out)⟩
                  · replace c24 := Bool.eq_false_iff.mpr c24
                    subst c24
                    have H1 : (if (t161.size : Int) = 0 then (none) else (if 0 ≤ (Int.tmod (wrap64 (a4)) (t161.size : Int)) then (if (Int.tmod (wrap64 (a4)) (t161.size : Int)) ≤ (t161.size : Int) then ((cell_TakeNum.f kj19 (t161.extract 0 ((Int.tmod (wrap64 (a4)) (t161.size : Int)) : Int).toNat)).bind fun bt169 => (if (t162.size : Int) = 0 then (none) else (if 0 ≤ (Int.tmod (wrap64 (a4)) (t162.size : Int)) then (if (Int.tmod (wrap64 (a4)) (t162.size : Int)) ≤ (t162.size : Int) then ((cell_TakeText.f kj19 (t162.extract 0 ((Int.tmod (wrap64 (a4)) (t162.size : Int)) : Int).toNat)).bind fun bt172 => (if t165 = 0 then (if t163 = a0 then (if t164 = (t161.size : Int) then (if t168 = 0 then (if t166.toList = a2.toList then (if t167 = (t162.size : Int) then (if bt169.2.2 = 12 then (if bt172.2.2 = 12 then ((cell_Num.f kj19 a1).bind fun t175 => ((cell_Less.f t161 t175).bind fun t176 => (some (t176 == (decide (a0 < a1)))))) else (some false)) else (some false)) else (some false)) else (some false)) else (some false)) else (some false)) else (some false)) else (some false))) else (none)) else (none)))) else (none)) else (none))) = some r := by rw [if_neg (show ¬ (false = true) by decide)] at H; exact H
                    clear H
                    have H := H1
                    clear H1
                    by_cases c25 : (t161.size : Int) = 0
                    · rw [if_pos c25] at H
                      exact absurd H (by simp)
                    · rw [if_neg c25] at H
                      have c25b0 : ((t161.size : Int) == 0) = false := beq_eq_false_iff_ne.mpr c25
                      have c25b1 : ((t161.size : Int) != 0) = true := bne_iff_ne.mpr c25
                      obtain ⟨ji26, hji26⟩ : ∃ j_ : Int, (Int.tmod (wrap64 (a4)) (t161.size : Int)) = j_ := ⟨_, rfl⟩
                      replace H : (if 0 ≤ (ji26) then (if (ji26) ≤ (t161.size : Int) then ((cell_TakeNum.f kj19 (t161.extract 0 ((ji26) : Int).toNat)).bind fun bt169 => (if (t162.size : Int) = 0 then (none) else (if 0 ≤ (Int.tmod (wrap64 (a4)) (t162.size : Int)) then (if (Int.tmod (wrap64 (a4)) (t162.size : Int)) ≤ (t162.size : Int) then ((cell_TakeText.f kj19 (t162.extract 0 ((Int.tmod (wrap64 (a4)) (t162.size : Int)) : Int).toNat)).bind fun bt172 => (if t165 = 0 then (if t163 = a0 then (if t164 = (t161.size : Int) then (if t168 = 0 then (if t166.toList = a2.toList then (if t167 = (t162.size : Int) then (if bt169.2.2 = 12 then (if bt172.2.2 = 12 then ((cell_Num.f kj19 a1).bind fun t175 => ((cell_Less.f t161 t175).bind fun t176 => (some (t176 == (decide (a0 < a1)))))) else (some false)) else (some false)) else (some false)) else (some false)) else (some false)) else (some false)) else (some false)) else (some false))) else (none)) else (none)))) else (none)) else (none)) = some r := by first | (rw [hji26] at H; exact H) | (simp only [hji26] at H ⊢; exact H)
                      by_cases c27 : 0 ≤ (ji26)
                      · rw [if_pos c27] at H
                        have c27b0 := eq_true c27
                        have c27b1 : decide (0 ≤ (ji26)) = true := decide_eq_true c27
                        clear c27
                        by_cases c28 : (ji26) ≤ (t161.size : Int)
                        · rw [if_pos c28] at H
                          have c28b0 := eq_true c28
                          have c28b1 : decide ((ji26) ≤ (t161.size : Int)) = true := decide_eq_true c28
                          clear c28
                          replace H := Option.bind_eq_some_iff.mp H
                          obtain ⟨⟨t169, t170, t171⟩, A290, H⟩ := H
                          replace H : (if (t162.size : Int) = 0 then (none) else (if 0 ≤ (Int.tmod (wrap64 (a4)) (t162.size : Int)) then (if (Int.tmod (wrap64 (a4)) (t162.size : Int)) ≤ (t162.size : Int) then ((cell_TakeText.f kj19 (t162.extract 0 ((Int.tmod (wrap64 (a4)) (t162.size : Int)) : Int).toNat)).bind fun bt172 => (if t165 = 0 then (if t163 = a0 then (if t164 = (t161.size : Int) then (if t168 = 0 then (if t166.toList = a2.toList then (if t167 = (t162.size : Int) then (if t171 = 12 then (if bt172.2.2 = 12 then ((cell_Num.f kj19 a1).bind fun t175 => ((cell_Less.f t161 t175).bind fun t176 => (some (t176 == (decide (a0 < a1)))))) else (some false)) else (some false)) else (some false)) else (some false)) else (some false)) else (some false)) else (some false)) else (some false))) else (none)) else (none))) = some r := H
                          have A29 := Aside0.mk A290
                          clear A290
                          by_cases c30 : (t162.size : Int) = 0
                          · rw [if_pos c30] at H
                            exact absurd H (by simp)
                          · rw [if_neg c30] at H
                            have c30b0 : ((t162.size : Int) == 0) = false := beq_eq_false_iff_ne.mpr c30
                            have c30b1 : ((t162.size : Int) != 0) = true := bne_iff_ne.mpr c30
                            obtain ⟨ji31, hji31⟩ : ∃ j_ : Int, (Int.tmod (wrap64 (a4)) (t162.size : Int)) = j_ := ⟨_, rfl⟩
                            replace H : (if 0 ≤ (ji31) then (if (ji31) ≤ (t162.size : Int) then ((cell_TakeText.f kj19 (t162.extract 0 ((ji31) : Int).toNat)).bind fun bt172 => (if t165 = 0 then (if t163 = a0 then (if t164 = (t161.size : Int) then (if t168 = 0 then (if t166.toList = a2.toList then (if t167 = (t162.size : Int) then (if t171 = 12 then (if bt172.2.2 = 12 then ((cell_Num.f kj19 a1).bind fun t175 => ((cell_Less.f t161 t175).bind fun t176 => (some (t176 == (decide (a0 < a1)))))) else (some false)) else (some false)) else (some false)) else (some false)) else (some false)) else (some false)) else (some false)) else (some false))) else (none)) else (none)) = some r := by first | (rw [hji31] at H; exact H) | (simp only [hji31] at H ⊢; exact H)
                            (try rw [hji31] at A29)
                            by_cases c32 : 0 ≤ (ji31)
                            · rw [if_pos c32] at H
                              have c32b0 := eq_true c32
                              have c32b1 : decide (0 ≤ (ji31)) = true := decide_eq_true c32
                              clear c32
                              by_cases c33 : (ji31) ≤ (t162.size : Int)
                              · rw [if_pos c33] at H
                                have c33b0 := eq_true c33
                                have c33b1 : decide ((ji31) ≤ (t162.size : Int)) = true := decide_eq_true c33
                                clear c33
                                replace H := Option.bind_eq_some_iff.mp H
                                obtain ⟨⟨t172, t173, t174⟩, A340, H⟩ := H
                                replace H : (if t165 = 0 then (if t163 = a0 then (if t164 = (t161.size : Int) then (if t168 = 0 then (if t166.toList = a2.toList then (if t167 = (t162.size : Int) then (if t171 = 12 then (if t174 = 12 then ((cell_Num.f kj19 a1).bind fun t175 => ((cell_Less.f t161 t175).bind fun t176 => (some (t176 == (decide (a0 < a1)))))) else (some false)) else (some false)) else (some false)) else (some false)) else (some false)) else (some false)) else (some false)) else (some false)) = some r := H
                                have A34 := Aside0.mk A340
                                clear A340
                                by_cases c35 : t165 = 0
                                · rw [if_pos c35] at H
                                  have c35b0 : (t165 == 0) = true := beq_iff_eq.mpr c35
                                  have c35b1 : (t165 != 0) = false := bne_eq_false_iff_eq.mpr c35
                                  clear c35
                                  by_cases c36 : t163 = a0
                                  · rw [if_pos c36] at H
                                    have c36b0 : (t163 == a0) = true := beq_iff_eq.mpr c36
                                    have c36b1 : (t163 != a0) = false := bne_eq_false_iff_eq.mpr c36
                                    clear c36
                                    by_cases c37 : t164 = (t161.size : Int)
                                    · rw [if_pos c37] at H
                                      have c37b0 : (t164 == (t161.size : Int)) = true := beq_iff_eq.mpr c37
                                      have c37b1 : (t164 != (t161.size : Int)) = false := bne_eq_false_iff_eq.mpr c37
                                      clear c37
                                      by_cases c38 : t168 = 0
                                      · rw [if_pos c38] at H
                                        have c38b0 : (t168 == 0) = true := beq_iff_eq.mpr c38
                                        have c38b1 : (t168 != 0) = false := bne_eq_false_iff_eq.mpr c38
                                        clear c38
                                        by_cases c39 : t166.toList = a2.toList
                                        · rw [if_pos c39] at H
                                          have c39b0 : (t166.toList == a2.toList) = true := beq_iff_eq.mpr c39
                                          have c39b1 : (t166.toList != a2.toList) = false := bne_eq_false_iff_eq.mpr c39
                                          clear c39
                                          by_cases c40 : t167 = (t162.size : Int)
                                          · rw [if_pos c40] at H
                                            have c40b0 : (t167 == (t162.size : Int)) = true := beq_iff_eq.mpr c40
                                            have c40b1 : (t167 != (t162.size : Int)) = false := bne_eq_false_iff_eq.mpr c40
                                            clear c40
                                            by_cases c41 : t171 = 12
                                            · rw [if_pos c41] at H
                                              have c41b0 : (t171 == 12) = true := beq_iff_eq.mpr c41
                                              have c41b1 : (t171 != 12) = false := bne_eq_false_iff_eq.mpr c41
                                              clear c41
                                              by_cases c42 : t174 = 12
                                              · rw [if_pos c42] at H
                                                have c42b0 : (t174 == 12) = true := beq_iff_eq.mpr c42
                                                have c42b1 : (t174 != 12) = false := bne_eq_false_iff_eq.mpr c42
                                                clear c42
                                                replace H := Option.bind_eq_some_iff.mp H
                                                obtain ⟨t175, A430, H⟩ := H
                                                replace H : ((cell_Less.f t161 t175).bind fun t176 => (some (t176 == (decide (a0 < a1))))) = some r := H
                                                have A43 := Aside0.mk A430
                                                clear A430
                                                replace H := Option.bind_eq_some_iff.mp H
                                                obtain ⟨t176, A440, H⟩ := H
                                                replace H : (some (t176 == (decide (a0 < a1)))) = some r := H
                                                have A44 := Aside0.mk A440
                                                clear A440
                                                obtain rfl := Option.some.inj H
                                                go_wp2_with (first | ((with_reducible refine gate_callee (f := 9) rfl ?_); refine goesL_ (some 79) rfl rfl Try.func9 (by kernel_rfl) rfl #[.string (t161.extract 0 ((ji26) : Int).toNat)] rfl (by (try simp only [List.map_toArray, List.map_cons, List.map_nil]); first | done | (simp only [hji26]; rfl) | rfl | (simp only [List.length_drop, List.length_take]; rfl)) ?_; (with_reducible refine (cell_TakeNum.calls kj19 (t161.extract 0 ((ji26) : Int).toNat) t169 t170 t171 _ A29.out).mono ?_); rintro e w' ⟨rfl, ⟨nd, rfl⟩⟩; refine ⟨_, rfl, ?_⟩) | ((with_reducible refine gate_callee (f := 11) rfl ?_); refine goesL_ (some 91) rfl rfl Try.func11 (by kernel_rfl) rfl #[.string (t162.extract 0 ((ji31) : Int).toNat)] rfl (by (try simp only [List.map_toArray, List.map_cons, List.map_nil]); first | done | (simp only [hji31]; rfl) | rfl | (simp only [List.length_drop, List.length_take]; rfl)) ?_; (with_reducible refine (cell_TakeText.calls kj19 (t162.extract 0 ((ji31) : Int).toNat) t172 t173 t174 _ A34.out).mono ?_); rintro e w' ⟨rfl, ⟨nd, rfl⟩⟩; refine ⟨_, rfl, ?_⟩) | (go_at_call 13; (with_reducible refine (cell_Num.calls kj19 a1 t175 _ A43.out).mono ?_); rintro e w45 ⟨rfl, hb⟩; have n0_ := Aside0.mk (below_step (by repeat (first | (with_reducible first | exact HB.out | apply below_alloc | apply pw_below_drewN | apply below_drew1) | exact HB.out)) hb); clear HB; have HB := n0_; clear n0_; (try clear hb); (try clear hb2); (try clear hk); (try clear hi)) | (go_at_call 17; (with_reducible refine (cell_Less.calls t161 t175 t176 _ A44.out).mono ?_); rintro e w' ⟨rfl, ⟨nd, rfl⟩⟩))
                                                go_ret
                                                exact ⟨by first | rfl | (simp [errW_none, errW_some] <;> rfl) | (simp only [← hji26, ← hji31]; first | rfl | (simp [errW_none, errW_some] <;> rfl)) | (simp [*, errW_none, errW_some] <;> rfl), by repeat (first | (with_reducible first | exact HB.out | apply below_alloc | apply pw_below_drewN | apply below_drew1) | exact HB.out)⟩
                                              · rw [if_neg c42] at H
                                                have c42b0 : (t174 == 12) = false := beq_eq_false_iff_ne.mpr c42
                                                have c42b1 : (t174 != 12) = true := bne_iff_ne.mpr c42
                                                obtain rfl := Option.some.inj H
                                                go_wp2_with (first | ((with_reducible refine gate_callee (f := 9) rfl ?_); refine goesL_ (some 79) rfl rfl Try.func9 (by kernel_rfl) rfl #[.string (t161.extract 0 ((ji26) : Int).toNat)] rfl (by (try simp only [List.map_toArray, List.map_cons, List.map_nil]); first | done | (simp only [hji26]; rfl) | rfl | (simp only [List.length_drop, List.length_take]; rfl)) ?_; (with_reducible refine (cell_TakeNum.calls kj19 (t161.extract 0 ((ji26) : Int).toNat) t169 t170 t171 _ A29.out).mono ?_); rintro e w' ⟨rfl, ⟨nd, rfl⟩⟩; refine ⟨_, rfl, ?_⟩) | ((with_reducible refine gate_callee (f := 11) rfl ?_); refine goesL_ (some 91) rfl rfl Try.func11 (by kernel_rfl) rfl #[.string (t162.extract 0 ((ji31) : Int).toNat)] rfl (by (try simp only [List.map_toArray, List.map_cons, List.map_nil]); first | done | (simp only [hji31]; rfl) | rfl | (simp only [List.length_drop, List.length_take]; rfl)) ?_; (with_reducible refine (cell_TakeText.calls kj19 (t162.extract 0 ((ji31) : Int).toNat) t172 t173 t174 _ A34.out).mono ?_); rintro e w' ⟨rfl, ⟨nd, rfl⟩⟩; refine ⟨_, rfl, ?_⟩))
                                                go_ret
                                                exact ⟨by first | rfl | (simp [errW_none, errW_some] <;> rfl) | (simp only [← hji26, ← hji31]; first | rfl | (simp [errW_none, errW_some] <;> rfl)) | (simp [*, errW_none, errW_some] <;> rfl), by repeat (first | (with_reducible first | exact HB.out | apply below_alloc | apply pw_below_drewN | apply below_drew1) | exact HB.out)⟩
                                            · rw [if_neg c41] at H
                                              have c41b0 : (t171 == 12) = false := beq_eq_false_iff_ne.mpr c41
                                              have c41b1 : (t171 != 12) = true := bne_iff_ne.mpr c41
                                              obtain rfl := Option.some.inj H
                                              go_wp2_with (first | ((with_reducible refine gate_callee (f := 9) rfl ?_); refine goesL_ (some 79) rfl rfl Try.func9 (by kernel_rfl) rfl #[.string (t161.extract 0 ((ji26) : Int).toNat)] rfl (by (try simp only [List.map_toArray, List.map_cons, List.map_nil]); first | done | (simp only [hji26]; rfl) | rfl | (simp only [List.length_drop, List.length_take]; rfl)) ?_; (with_reducible refine (cell_TakeNum.calls kj19 (t161.extract 0 ((ji26) : Int).toNat) t169 t170 t171 _ A29.out).mono ?_); rintro e w' ⟨rfl, ⟨nd, rfl⟩⟩; refine ⟨_, rfl, ?_⟩) | ((with_reducible refine gate_callee (f := 11) rfl ?_); refine goesL_ (some 91) rfl rfl Try.func11 (by kernel_rfl) rfl #[.string (t162.extract 0 ((ji31) : Int).toNat)] rfl (by (try simp only [List.map_toArray, List.map_cons, List.map_nil]); first | done | (simp only [hji31]; rfl) | rfl | (simp only [List.length_drop, List.length_take]; rfl)) ?_; (with_reducible refine (cell_TakeText.calls kj19 (t162.extract 0 ((ji31) : Int).toNat) t172 t173 t174 _ A34.out).mono ?_); rintro e w' ⟨rfl, ⟨nd, rfl⟩⟩; refine ⟨_, rfl, ?_⟩))
                                              go_ret
                                              exact ⟨by first | rfl | (simp [errW_none, errW_some] <;> rfl) | (simp only [← hji26, ← hji31]; first | rfl | (simp [errW_none, errW_some] <;> rfl)) | (simp [*, errW_none, errW_some] <;> rfl), by repeat (first | (with_reducible first | exact HB.out | apply below_alloc | apply pw_below_drewN | apply below_drew1) | exact HB.out)⟩
                                          · rw [if_neg c40] at H
                                            have c40b0 : (t167 == (t162.size : Int)) = false := beq_eq_false_iff_ne.mpr c40
                                            have c40b1 : (t167 != (t162.size : Int)) = true := bne_iff_ne.mpr c40
                                            obtain rfl := Option.some.inj H
                                            go_wp2_with (first | ((with_reducible refine gate_callee (f := 9) rfl ?_); refine goesL_ (some 79) rfl rfl Try.func9 (by kernel_rfl) rfl #[.string (t161.extract 0 ((ji26) : Int).toNat)] rfl (by (try simp only [List.map_toArray, List.map_cons, List.map_nil]); first | done | (simp only [hji26]; rfl) | rfl | (simp only [List.length_drop, List.length_take]; rfl)) ?_; (with_reducible refine (cell_TakeNum.calls kj19 (t161.extract 0 ((ji26) : Int).toNat) t169 t170 t171 _ A29.out).mono ?_); rintro e w' ⟨rfl, ⟨nd, rfl⟩⟩; refine ⟨_, rfl, ?_⟩) | ((with_reducible refine gate_callee (f := 11) rfl ?_); refine goesL_ (some 91) rfl rfl Try.func11 (by kernel_rfl) rfl #[.string (t162.extract 0 ((ji31) : Int).toNat)] rfl (by (try simp only [List.map_toArray, List.map_cons, List.map_nil]); first | done | (simp only [hji31]; rfl) | rfl | (simp only [List.length_drop, List.length_take]; rfl)) ?_; (with_reducible refine (cell_TakeText.calls kj19 (t162.extract 0 ((ji31) : Int).toNat) t172 t173 t174 _ A34.out).mono ?_); rintro e w' ⟨rfl, ⟨nd, rfl⟩⟩; refine ⟨_, rfl, ?_⟩))
                                            go_ret
                                            exact ⟨by first | rfl | (simp [errW_none, errW_some] <;> rfl) | (simp only [← hji26, ← hji31]; first | rfl | (simp [errW_none, errW_some] <;> rfl)) | (simp [*, errW_none, errW_some] <;> rfl), by repeat (first | (with_reducible first | exact HB.out | apply below_alloc | apply pw_below_drewN | apply below_drew1) | exact HB.out)⟩
                                        · rw [if_neg c39] at H
                                          have c39b0 : (t166.toList == a2.toList) = false := beq_eq_false_iff_ne.mpr c39
                                          have c39b1 : (t166.toList != a2.toList) = true := bne_iff_ne.mpr c39
                                          obtain rfl := Option.some.inj H
                                          go_wp2_with (first | ((with_reducible refine gate_callee (f := 9) rfl ?_); refine goesL_ (some 79) rfl rfl Try.func9 (by kernel_rfl) rfl #[.string (t161.extract 0 ((ji26) : Int).toNat)] rfl (by (try simp only [List.map_toArray, List.map_cons, List.map_nil]); first | done | (simp only [hji26]; rfl) | rfl | (simp only [List.length_drop, List.length_take]; rfl)) ?_; (with_reducible refine (cell_TakeNum.calls kj19 (t161.extract 0 ((ji26) : Int).toNat) t169 t170 t171 _ A29.out).mono ?_); rintro e w' ⟨rfl, ⟨nd, rfl⟩⟩; refine ⟨_, rfl, ?_⟩) | ((with_reducible refine gate_callee (f := 11) rfl ?_); refine goesL_ (some 91) rfl rfl Try.func11 (by kernel_rfl) rfl #[.string (t162.extract 0 ((ji31) : Int).toNat)] rfl (by (try simp only [List.map_toArray, List.map_cons, List.map_nil]); first | done | (simp only [hji31]; rfl) | rfl | (simp only [List.length_drop, List.length_take]; rfl)) ?_; (with_reducible refine (cell_TakeText.calls kj19 (t162.extract 0 ((ji31) : Int).toNat) t172 t173 t174 _ A34.out).mono ?_); rintro e w' ⟨rfl, ⟨nd, rfl⟩⟩; refine ⟨_, rfl, ?_⟩))
                                          go_ret
                                          exact ⟨by first | rfl | (simp [errW_none, errW_some] <;> rfl) | (simp only [← hji26, ← hji31]; first | rfl | (simp [errW_none, errW_some] <;> rfl)) | (simp [*, errW_none, errW_some] <;> rfl), by repeat (first | (with_reducible first | exact HB.out | apply below_alloc | apply pw_below_drewN | apply below_drew1) | exact HB.out)⟩
                                      · rw [if_neg c38] at H
                                        have c38b0 : (t168 == 0) = false := beq_eq_false_iff_ne.mpr c38
                                        have c38b1 : (t168 != 0) = true := bne_iff_ne.mpr c38
                                        obtain rfl := Option.some.inj H
                                        go_wp2_with (first | ((with_reducible refine gate_callee (f := 9) rfl ?_); refine goesL_ (some 79) rfl rfl Try.func9 (by kernel_rfl) rfl #[.string (t161.extract 0 ((ji26) : Int).toNat)] rfl (by (try simp only [List.map_toArray, List.map_cons, List.map_nil]); first | done | (simp only [hji26]; rfl) | rfl | (simp only [List.length_drop, List.length_take]; rfl)) ?_; (with_reducible refine (cell_TakeNum.calls kj19 (t161.extract 0 ((ji26) : Int).toNat) t169 t170 t171 _ A29.out).mono ?_); rintro e w' ⟨rfl, ⟨nd, rfl⟩⟩; refine ⟨_, rfl, ?_⟩) | ((with_reducible refine gate_callee (f := 11) rfl ?_); refine goesL_ (some 91) rfl rfl Try.func11 (by kernel_rfl) rfl #[.string (t162.extract 0 ((ji31) : Int).toNat)] rfl (by (try simp only [List.map_toArray, List.map_cons, List.map_nil]); first | done | (simp only [hji31]; rfl) | rfl | (simp only [List.length_drop, List.length_take]; rfl)) ?_; (with_reducible refine (cell_TakeText.calls kj19 (t162.extract 0 ((ji31) : Int).toNat) t172 t173 t174 _ A34.out).mono ?_); rintro e w' ⟨rfl, ⟨nd, rfl⟩⟩; refine ⟨_, rfl, ?_⟩))
                                        go_ret
                                        exact ⟨by first | rfl | (simp [errW_none, errW_some] <;> rfl) | (simp only [← hji26, ← hji31]; first | rfl | (simp [errW_none, errW_some] <;> rfl)) | (simp [*, errW_none, errW_some] <;> rfl), by repeat (first | (with_reducible first | exact HB.out | apply below_alloc | apply pw_below_drewN | apply below_drew1) | exact HB.out)⟩
                                    · rw [if_neg c37] at H
                                      have c37b0 : (t164 == (t161.size : Int)) = false := beq_eq_false_iff_ne.mpr c37
                                      have c37b1 : (t164 != (t161.size : Int)) = true := bne_iff_ne.mpr c37
                                      obtain rfl := Option.some.inj H
                                      go_wp2_with (first | ((with_reducible refine gate_callee (f := 9) rfl ?_); refine goesL_ (some 79) rfl rfl Try.func9 (by kernel_rfl) rfl #[.string (t161.extract 0 ((ji26) : Int).toNat)] rfl (by (try simp only [List.map_toArray, List.map_cons, List.map_nil]); first | done | (simp only [hji26]; rfl) | rfl | (simp only [List.length_drop, List.length_take]; rfl)) ?_; (with_reducible refine (cell_TakeNum.calls kj19 (t161.extract 0 ((ji26) : Int).toNat) t169 t170 t171 _ A29.out).mono ?_); rintro e w' ⟨rfl, ⟨nd, rfl⟩⟩; refine ⟨_, rfl, ?_⟩) | ((with_reducible refine gate_callee (f := 11) rfl ?_); refine goesL_ (some 91) rfl rfl Try.func11 (by kernel_rfl) rfl #[.string (t162.extract 0 ((ji31) : Int).toNat)] rfl (by (try simp only [List.map_toArray, List.map_cons, List.map_nil]); first | done | (simp only [hji31]; rfl) | rfl | (simp only [List.length_drop, List.length_take]; rfl)) ?_; (with_reducible refine (cell_TakeText.calls kj19 (t162.extract 0 ((ji31) : Int).toNat) t172 t173 t174 _ A34.out).mono ?_); rintro e w' ⟨rfl, ⟨nd, rfl⟩⟩; refine ⟨_, rfl, ?_⟩))
                                      go_ret
                                      exact ⟨by first | rfl | (simp [errW_none, errW_some] <;> rfl) | (simp only [← hji26, ← hji31]; first | rfl | (simp [errW_none, errW_some] <;> rfl)) | (simp [*, errW_none, errW_some] <;> rfl), by repeat (first | (with_reducible first | exact HB.out | apply below_alloc | apply pw_below_drewN | apply below_drew1) | exact HB.out)⟩
                                  · rw [if_neg c36] at H
                                    have c36b0 : (t163 == a0) = false := beq_eq_false_iff_ne.mpr c36
                                    have c36b1 : (t163 != a0) = true := bne_iff_ne.mpr c36
                                    obtain rfl := Option.some.inj H
                                    go_wp2_with (first | ((with_reducible refine gate_callee (f := 9) rfl ?_); refine goesL_ (some 79) rfl rfl Try.func9 (by kernel_rfl) rfl #[.string (t161.extract 0 ((ji26) : Int).toNat)] rfl (by (try simp only [List.map_toArray, List.map_cons, List.map_nil]); first | done | (simp only [hji26]; rfl) | rfl | (simp only [List.length_drop, List.length_take]; rfl)) ?_; (with_reducible refine (cell_TakeNum.calls kj19 (t161.extract 0 ((ji26) : Int).toNat) t169 t170 t171 _ A29.out).mono ?_); rintro e w' ⟨rfl, ⟨nd, rfl⟩⟩; refine ⟨_, rfl, ?_⟩) | ((with_reducible refine gate_callee (f := 11) rfl ?_); refine goesL_ (some 91) rfl rfl Try.func11 (by kernel_rfl) rfl #[.string (t162.extract 0 ((ji31) : Int).toNat)] rfl (by (try simp only [List.map_toArray, List.map_cons, List.map_nil]); first | done | (simp only [hji31]; rfl) | rfl | (simp only [List.length_drop, List.length_take]; rfl)) ?_; (with_reducible refine (cell_TakeText.calls kj19 (t162.extract 0 ((ji31) : Int).toNat) t172 t173 t174 _ A34.out).mono ?_); rintro e w' ⟨rfl, ⟨nd, rfl⟩⟩; refine ⟨_, rfl, ?_⟩))
                                    go_ret
                                    exact ⟨by first | rfl | (simp [errW_none, errW_some] <;> rfl) | (simp only [← hji26, ← hji31]; first | rfl | (simp [errW_none, errW_some] <;> rfl)) | (simp [*, errW_none, errW_some] <;> rfl), by repeat (first | (with_reducible first | exact HB.out | apply below_alloc | apply pw_below_drewN | apply below_drew1) | exact HB.out)⟩
                                · rw [if_neg c35] at H
                                  have c35b0 : (t165 == 0) = false := beq_eq_false_iff_ne.mpr c35
                                  have c35b1 : (t165 != 0) = true := bne_iff_ne.mpr c35
                                  obtain rfl := Option.some.inj H
                                  go_wp2_with (first | ((with_reducible refine gate_callee (f := 9) rfl ?_); refine goesL_ (some 79) rfl rfl Try.func9 (by kernel_rfl) rfl #[.string (t161.extract 0 ((ji26) : Int).toNat)] rfl (by (try simp only [List.map_toArray, List.map_cons, List.map_nil]); first | done | (simp only [hji26]; rfl) | rfl | (simp only [List.length_drop, List.length_take]; rfl)) ?_; (with_reducible refine (cell_TakeNum.calls kj19 (t161.extract 0 ((ji26) : Int).toNat) t169 t170 t171 _ A29.out).mono ?_); rintro e w' ⟨rfl, ⟨nd, rfl⟩⟩; refine ⟨_, rfl, ?_⟩) | ((with_reducible refine gate_callee (f := 11) rfl ?_); refine goesL_ (some 91) rfl rfl Try.func11 (by kernel_rfl) rfl #[.string (t162.extract 0 ((ji31) : Int).toNat)] rfl (by (try simp only [List.map_toArray, List.map_cons, List.map_nil]); first | done | (simp only [hji31]; rfl) | rfl | (simp only [List.length_drop, List.length_take]; rfl)) ?_; (with_reducible refine (cell_TakeText.calls kj19 (t162.extract 0 ((ji31) : Int).toNat) t172 t173 t174 _ A34.out).mono ?_); rintro e w' ⟨rfl, ⟨nd, rfl⟩⟩; refine ⟨_, rfl, ?_⟩))
                                  go_ret
                                  exact ⟨by first | rfl | (simp [errW_none, errW_some] <;> rfl) | (simp only [← hji26, ← hji31]; first | rfl | (simp [errW_none, errW_some] <;> rfl)) | (simp [*, errW_none, errW_some] <;> rfl), by repeat (first | (with_reducible first | exact HB.out | apply below_alloc | apply pw_below_drewN | apply below_drew1) | exact HB.out)⟩
                              · rw [if_neg c33] at H
                                exact absurd H (by simp)
                            · rw [if_neg c32] at H
                              exact absurd H (by simp)
                        · rw [if_neg c28] at H
                          exact absurd H (by simp)
                      · rw [if_neg c27] at H
                        exact absurd H (by simp)
            · rw [if_neg c18] at H
              exact absurd H (by simp)
          · rw [if_neg c16] at H
            exact absurd H (by simp)
  · replace c7 := Bool.eq_false_iff.mpr c7
    subst c7
    have H1 : (some false) = some r := by rw [if_neg (show ¬ (false = true) by decide)] at H; exact H
    clear H
    have H := H1
    clear H1
    obtain rfl := Option.some.inj H
    go_enter Try.func4, Try.ntmps4
    go_wp2_with (first | ((with_reducible refine gate_callee (f := 8) rfl ?_); refine goesL_ (some 25) rfl rfl Try.func8 (by kernel_rfl) rfl #[] rfl (by (try simp only [List.map_toArray, List.map_cons, List.map_nil]); first | done | rfl | (simp only [List.length_drop, List.length_take]; rfl)) ?_; (with_reducible refine (ravelinlaw3_known.calls k  false _ A6.out).mono ?_); rintro e w46 ⟨rfl, hb⟩; refine ⟨_, rfl, ?_⟩; have n0_ := Aside0.mk (below_step (by repeat (first | (with_reducible first | exact HB.out | apply below_alloc | apply pw_below_drewN | apply below_drew1) | exact HB.out)) hb); clear HB; have HB := n0_; clear n0_; (try clear hb); (try clear hb2); (try clear hk); (try clear hi)))
    go_ret
    exact ⟨by first | rfl | (simp [errW_none, errW_some] <;> rfl) | (simp [*, errW_none, errW_some] <;> rfl), by repeat (first | (with_reducible first | exact HB.out | apply below_alloc | apply pw_below_drewN | apply below_drew1) | exact HB.out)⟩

/-- THE ONE PURE STATEMENT of ravelinlaw3_CellBack: yours. -/
def ravelinlaw3_CellBack.Pure : Prop := ∀ (a0 : Int) (a1 : Int) (a2 : ByteArray) (a3 : ByteArray) (a4 : Int), (Lit.int .i64 a0).wf = true → (Lit.int .i64 a1).wf = true → a2.size ≤ 140737488351232 → a3.size ≤ 140737488351232 → (Lit.int .u8 a4).wf = true → ∃ k, ravelinlaw3_CellBack.f k a0 a1 a2 a3 a4 = some true
theorem ravelinlaw3_CellBack.walk (P : ravelinlaw3_CellBack.Pure) (a0 : Int) (a1 : Int) (a2 : ByteArray) (a3 : ByteArray) (a4 : Int) (w : World) (w0 : (Lit.int .i64 a0).wf = true) (w1 : (Lit.int .i64 a1).wf = true) (w2 : a2.size ≤ 140737488351232) (w3 : a3.size ≤ 140737488351232) (w4 : (Lit.int .u8 a4).wf = true) :
    Calls Try.prog 4 #[.int .i64 a0, .int .i64 a1, .string a2, .string a3, .int .u8 a4] w fun e w' => e = .returned (.bool true) ∧ Below w.heap.size w w' := by
  obtain ⟨k, h⟩ := P a0 a1 a2 a3 a4 w0 w1 w2 w3 w4
  refine (ravelinlaw3_CellBack.calls k a0 a1 a2 a3 a4 true w h).mono ?_
  rintro e w' ⟨rfl, hd⟩
  exact ⟨rfl, hd⟩

end Go.Proofs.Ytialmkppgbplpaa.P
