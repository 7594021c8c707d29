-- Printed by a changed copy of the kit's printer (wip/tools/ext.py); labels and more
import Derived.Test.YtialmkppgbplpaaPx0
import Derived.Test.YtialmkppgbplpaaPx1
import Derived.Test.YtialmkppgbplpaaPx2
import Derived.Test.YtialmkppgbplpaaPx3
import Derived.Test.YtialmkppgbplpaaPx4
namespace Go.Proofs.Ytialmkppgbplpaa.P
open Go.RowKit Go.Proofs.YtialmkppgbplpaaW.PrintWords Go.Proofs.YtialmkppgbplpaaW.PrintLast Go.Proofs.YtialmkppgbplpaaW.PrintMore
attribute [local go_sem] max2_int min2_int max_two min_two max_three min_three max_four min_four   -- for this text's walks alone
set_option linter.unusedVariables false
set_option linter.unusedSimpArgs false

/-! ### ravelinlaw3_CellRows: function 6 -/
mutual
def ravelinlaw3_CellRows.j0 : Nat → List ByteArray → List Int → Bool → Option (Bool)
  | 0, _, _, _ => none
  | k + 1, x0, x1, x27 => if x27 = true then (some true) else (ravelinlaw3_CellRows.l0 k x0 x1 (⟨#[]⟩ : ByteArray) 0)
def ravelinlaw3_CellRows.l0 : Nat → List ByteArray → List Int → ByteArray → Int → Option (Bool)
  | 0, _, _, _, _ => none
  | k + 1, x0, x1, x5, x6 => if x6 < (mx (x0.length : Int) (x1.length : Int)) then (if x6 < (x0.length : Int) then (if 0 ≤ x6 then (if ((rdOf ByteArray.empty x0 x6).size : Int) > 100 then (some true) else ((cell_Text.f k (rdOf ByteArray.empty x0 x6)).bind fun t180 => (if x5.size + t180.size ≤ 9223372036854775807 then (if x6 < (x1.length : Int) then ((cell_Num.f k (wrap64 (rd x1 x6))).bind fun t182 => (if (x5 ++ t180).size + t182.size ≤ 9223372036854775807 then (ravelinlaw3_CellRows.l0 k x0 x1 ((x5 ++ t180) ++ t182) (wrap64 (x6 + 1))) else (none))) else (ravelinlaw3_CellRows.l0 k x0 x1 (x5 ++ t180) (wrap64 (x6 + 1)))) else (none)))) else (none)) else (if x6 < (x1.length : Int) then (if 0 ≤ x6 then ((cell_Num.f k (wrap64 (rd x1 x6))).bind fun t184 => (if x5.size + t184.size ≤ 9223372036854775807 then (ravelinlaw3_CellRows.l0 k x0 x1 (x5 ++ t184) (wrap64 (x6 + 1))) else (none))) else (none)) else (ravelinlaw3_CellRows.l0 k x0 x1 x5 (wrap64 (x6 + 1))))) else (ravelinlaw3_CellRows.l1 k x0 x1 x5 0 0)
def ravelinlaw3_CellRows.l1 : Nat → List ByteArray → List Int → ByteArray → Int → Int → Option (Bool)
  | 0, _, _, _, _, _ => none
  | k + 1, x0, x1, x5, x7, x8 => if x8 < (mx (x0.length : Int) (x1.length : Int)) then (if x8 < (x0.length : Int) then (if 0 ≤ x7 then (if x7 ≤ (x5.size : Int) then ((cell_TakeText.f k (x5.extract (x7 : Int).toNat x5.size)).bind fun bt188 => (if bt188.2.2 = 0 then (if 0 ≤ x8 then (if bt188.1.toList = (rdOf ByteArray.empty x0 x8).toList then (ravelinlaw3_CellRows.j3 k x0 x1 x5 (wrap64 (x7 + bt188.2.1)) x8) else (some false)) else (none)) else (some false))) else (none)) else (none)) else (ravelinlaw3_CellRows.j3 k x0 x1 x5 x7 x8)) else (if 0 ≤ x7 then (if x7 ≤ (x5.size : Int) then ((cell_TakeNum.f k (x5.extract (x7 : Int).toNat x5.size)).bind fun bt185 => (if x7 = (x5.size : Int) then (some (bt185.2.2 == 12)) else (some false))) else (none)) else (none))
def ravelinlaw3_CellRows.j3 : Nat → List ByteArray → List Int → ByteArray → Int → Int → Option (Bool)
  | 0, _, _, _, _, _ => none
  | k + 1, x0, x1, x5, x7, x8 => if x8 < (x1.length : Int) then (if 0 ≤ x7 then (if x7 ≤ (x5.size : Int) then ((cell_TakeNum.f k (x5.extract (x7 : Int).toNat x5.size)).bind fun bt192 => (if bt192.2.2 = 0 then (if 0 ≤ x8 then (if bt192.1 = (wrap64 (rd x1 x8)) then (ravelinlaw3_CellRows.l1 k x0 x1 x5 (wrap64 (x7 + bt192.2.1)) (wrap64 (x8 + 1))) else (some false)) else (none)) else (some false))) else (none)) else (none)) else (ravelinlaw3_CellRows.l1 k x0 x1 x5 x7 (wrap64 (x8 + 1)))
end
def ravelinlaw3_CellRows.f (k : Nat) (l0 : List ByteArray) (l1 : List Int) : Option (Bool) := (ravelinlaw3_known.f k).bind fun t177 => (if t177 = true then (if (l0.length : Int) > 12 then (ravelinlaw3_CellRows.j0 k l0 l1 true) else (ravelinlaw3_CellRows.j0 k l0 l1 (decide ((l1.length : Int) > 12)))) else (some false))
theorem ravelinlaw3_CellRows.mono_l : ∀ k, (∀ y0 y1 y2, LeO (ravelinlaw3_CellRows.j0 k y0 y1 y2) (ravelinlaw3_CellRows.j0 (k + 1) y0 y1 y2)) ∧ (∀ y0 y1 y2 y3, LeO (ravelinlaw3_CellRows.l0 k y0 y1 y2 y3) (ravelinlaw3_CellRows.l0 (k + 1) y0 y1 y2 y3)) ∧ (∀ y0 y1 y2 y3 y4, LeO (ravelinlaw3_CellRows.l1 k y0 y1 y2 y3 y4) (ravelinlaw3_CellRows.l1 (k + 1) y0 y1 y2 y3 y4)) ∧ (∀ y0 y1 y2 y3 y4, LeO (ravelinlaw3_CellRows.j3 k y0 y1 y2 y3 y4) (ravelinlaw3_CellRows.j3 (k + 1) y0 y1 y2 y3 y4))
  | 0 => ⟨fun _ _ _ r h => by simp [ravelinlaw3_CellRows.j0] at h, fun _ _ _ _ r h => by simp [ravelinlaw3_CellRows.l0] at h, fun _ _ _ _ _ r h => by simp [ravelinlaw3_CellRows.l1] at h, fun _ _ _ _ _ r h => by simp [ravelinlaw3_CellRows.j3] at h⟩
  | k + 1 => by
    obtain ⟨ih0, ih1, ih2, ih3⟩ := ravelinlaw3_CellRows.mono_l k
    refine ⟨?_, ?_, ?_, ?_⟩
    · intro y0 y1 y2
      unfold ravelinlaw3_CellRows.j0
      repeat' first
      | (with_reducible exact ih0 _ _ _)
      | (with_reducible exact ih1 _ _ _ _)
      | (with_reducible exact ih2 _ _ _ _ _)
      | (with_reducible exact ih3 _ _ _ _ _)
      | (with_reducible exact cell_Num.mono _ _)
      | (with_reducible exact cell_TakeNum.mono _ _)
      | (with_reducible exact cell_TakeText.mono _ _)
      | (with_reducible exact cell_Text.mono _ _)
      | (with_reducible exact ravelinlaw3_known.mono _)
      | (with_reducible exact LeO.refl _)
      | (with_reducible exact LeO.none _)
      | (with_reducible refine LeO.ite ?_ ?_)
      | (with_reducible refine LeO.bind ?_ (fun _ => ?_))
      | exact ih0 _ _ _
      | exact ih1 _ _ _ _
      | exact ih2 _ _ _ _ _
      | exact ih3 _ _ _ _ _
      | exact cell_Num.mono _ _
      | exact cell_TakeNum.mono _ _
      | exact cell_TakeText.mono _ _
      | exact cell_Text.mono _ _
      | exact ravelinlaw3_known.mono _
      | exact LeO.none _
      | refine LeO.ite ?_ ?_
      | refine LeO.bind ?_ (fun _ => ?_)
    · intro y0 y1 y2 y3
      unfold ravelinlaw3_CellRows.l0
      repeat' first
      | (with_reducible exact ih0 _ _ _)
      | (with_reducible exact ih1 _ _ _ _)
      | (with_reducible exact ih2 _ _ _ _ _)
      | (with_reducible exact ih3 _ _ _ _ _)
      | (with_reducible exact cell_Num.mono _ _)
      | (with_reducible exact cell_TakeNum.mono _ _)
      | (with_reducible exact cell_TakeText.mono _ _)
      | (with_reducible exact cell_Text.mono _ _)
      | (with_reducible exact ravelinlaw3_known.mono _)
      | (with_reducible exact LeO.refl _)
      | (with_reducible exact LeO.none _)
      | (with_reducible refine LeO.ite ?_ ?_)
      | (with_reducible refine LeO.bind ?_ (fun _ => ?_))
      | exact ih0 _ _ _
      | exact ih1 _ _ _ _
      | exact ih2 _ _ _ _ _
      | exact ih3 _ _ _ _ _
      | exact cell_Num.mono _ _
      | exact cell_TakeNum.mono _ _
      | exact cell_TakeText.mono _ _
      | exact cell_Text.mono _ _
      | exact ravelinlaw3_known.mono _
      | exact LeO.none _
      | refine LeO.ite ?_ ?_
      | refine LeO.bind ?_ (fun _ => ?_)
    · intro y0 y1 y2 y3 y4
      unfold ravelinlaw3_CellRows.l1
      repeat' first
      | (with_reducible exact ih0 _ _ _)
      | (with_reducible exact ih1 _ _ _ _)
      | (with_reducible exact ih2 _ _ _ _ _)
      | (with_reducible exact ih3 _ _ _ _ _)
      | (with_reducible exact cell_Num.mono _ _)
      | (with_reducible exact cell_TakeNum.mono _ _)
      | (with_reducible exact cell_TakeText.mono _ _)
      | (with_reducible exact cell_Text.mono _ _)
      | (with_reducible exact ravelinlaw3_known.mono _)
      | (with_reducible exact LeO.refl _)
      | (with_reducible exact LeO.none _)
      | (with_reducible refine LeO.ite ?_ ?_)
      | (with_reducible refine LeO.bind ?_ (fun _ => ?_))
      | exact ih0 _ _ _
      | exact ih1 _ _ _ _
      | exact ih2 _ _ _ _ _
      | exact ih3 _ _ _ _ _
      | exact cell_Num.mono _ _
      | exact cell_TakeNum.mono _ _
      | exact cell_TakeText.mono _ _
      | exact cell_Text.mono _ _
      | exact ravelinlaw3_known.mono _
      | exact LeO.none _
      | refine LeO.ite ?_ ?_
      | refine LeO.bind ?_ (fun _ => ?_)
    · intro y0 y1 y2 y3 y4
      unfold ravelinlaw3_CellRows.j3
      repeat' first
      | (with_reducible exact ih0 _ _ _)
      | (with_reducible exact ih1 _ _ _ _)
      | (with_reducible exact ih2 _ _ _ _ _)
      | (with_reducible exact ih3 _ _ _ _ _)
      | (with_reducible exact cell_Num.mono _ _)
      | (with_reducible exact cell_TakeNum.mono _ _)
      | (with_reducible exact cell_TakeText.mono _ _)
      | (with_reducible exact cell_Text.mono _ _)
      | (with_reducible exact ravelinlaw3_known.mono _)
      | (with_reducible exact LeO.refl _)
      | (with_reducible exact LeO.none _)
      | (with_reducible refine LeO.ite ?_ ?_)
      | (with_reducible refine LeO.bind ?_ (fun _ => ?_))
      | exact ih0 _ _ _
      | exact ih1 _ _ _ _
      | exact ih2 _ _ _ _ _
      | exact ih3 _ _ _ _ _
      | exact cell_Num.mono _ _
      | exact cell_TakeNum.mono _ _
      | exact cell_TakeText.mono _ _
      | exact cell_Text.mono _ _
      | exact ravelinlaw3_known.mono _
      | exact LeO.none _
      | refine LeO.ite ?_ ?_
      | refine LeO.bind ?_ (fun _ => ?_)
theorem ravelinlaw3_CellRows.mono : ∀ a0 a1 k, LeO (ravelinlaw3_CellRows.f k a0 a1) (ravelinlaw3_CellRows.f (k + 1) a0 a1) := by
  intro a0 a1 k
  obtain ⟨ih0, ih1, ih2, ih3⟩ := ravelinlaw3_CellRows.mono_l k
  unfold ravelinlaw3_CellRows.f
  repeat' first
      | (with_reducible exact ih0 _ _ _)
      | (with_reducible exact ih1 _ _ _ _)
      | (with_reducible exact ih2 _ _ _ _ _)
      | (with_reducible exact ih3 _ _ _ _ _)
      | (with_reducible exact cell_Num.mono _ _)
      | (with_reducible exact cell_TakeNum.mono _ _)
      | (with_reducible exact cell_TakeText.mono _ _)
      | (with_reducible exact cell_Text.mono _ _)
      | (with_reducible exact ravelinlaw3_known.mono _)
      | (with_reducible exact LeO.refl _)
      | (with_reducible exact LeO.none _)
      | (with_reducible refine LeO.ite ?_ ?_)
      | (with_reducible refine LeO.bind ?_ (fun _ => ?_))
      | exact ih0 _ _ _
      | exact ih1 _ _ _ _
      | exact ih2 _ _ _ _ _
      | exact ih3 _ _ _ _ _
      | exact cell_Num.mono _ _
      | exact cell_TakeNum.mono _ _
      | exact cell_TakeText.mono _ _
      | exact cell_Text.mono _ _
      | exact ravelinlaw3_known.mono _
      | exact LeO.none _
      | refine LeO.ite ?_ ?_
      | refine LeO.bind ?_ (fun _ => ?_)
set_option maxHeartbeats 8000000 in
set_option maxRecDepth 100000 in
theorem ravelinlaw3_CellRows.calls (k : Nat) (A0 : Option Addr) (c0 : Nat) (l0 : List ByteArray) (A1 : Option Addr) (c1 : Nat) (l1 : List Int) (r : Bool) (w : World) (hr0 : Kd.C Kd.string w A0 l0.length l0) (hc0 : l0.length ≤ c0) (hr1 : Kd.C (Kd.int .u32) w A1 l1.length l1) (hc1 : l1.length ≤ c1) (h : ravelinlaw3_CellRows.f k l0 l1 = some r) (hr_ : r = true) :
    Calls Try.prog 6 #[.slice A0 l0.length c0, .slice A1 l1.length c1] w fun e w' => e = .returned (.bool r) ∧ Below w.heap.size w w' := by
  have HR0 := Aside0.mk hr0
  have HC0 := Aside0.mk hc0
  clear hr0 hc0
  have HR1 := Aside0.mk hr1
  have HC1 := Aside0.mk hc1
  clear hr1 hc1
  have HB := Aside0.mk (Below.refl w.heap.size w)
  have H : ((ravelinlaw3_known.f k).bind fun t177 => (if t177 = true then (if (l0.length : Int) > 12 then (ravelinlaw3_CellRows.j0 k l0 l1 true) else (ravelinlaw3_CellRows.j0 k l0 l1 (decide ((l1.length : Int) > 12)))) else (some false))) = some r := h
  clear h
  have HR_ := Aside0.mk hr_
  clear hr_
  replace H := Option.bind_eq_some_iff.mp H
  obtain ⟨t177, A30, H⟩ := H
  replace H : (if t177 = true then (if (l0.length : Int) > 12 then (ravelinlaw3_CellRows.j0 k l0 l1 true) else (ravelinlaw3_CellRows.j0 k l0 l1 (decide ((l1.length : Int) > 12)))) else (some false)) = some r := H
  have A3 := Aside0.mk A30
  clear A30
  by_cases c4 : t177 = true
  · subst c4
    have H1 : (if (l0.length : Int) > 12 then (ravelinlaw3_CellRows.j0 k l0 l1 true) else (ravelinlaw3_CellRows.j0 k l0 l1 (decide ((l1.length : Int) > 12)))) = some r := by rw [if_pos rfl] at H; exact H
    clear H
    have H := H1
    clear H1
    have HC5 := Aside0.mk H
    clear H
    go_enter Try.func6, Try.ntmps6
    go_upto_region 3 with (first | ((with_reducible refine gate_callee (f := 8) rfl ?_); refine goesL_ (some 18) rfl rfl Try.func8 (by kernel_rfl) rfl #[] rfl (by (try simp only [List.map_toArray, List.map_cons, List.map_nil]); first | done | rfl | (simp only [List.length_drop, List.length_take]; rfl)) ?_; (with_reducible refine (ravelinlaw3_known.calls k  true _ A3.out (by first | rfl | assumption | exact of_decide_eq_true (by assumption))).mono ?_); rintro e w6 ⟨rfl, hb⟩; refine ⟨_, rfl, ?_⟩; have n0_ := Aside0.mk (below_step (by repeat (first | (with_reducible first | exact HB.out | apply below_alloc | apply pw_below_drewN | apply below_drew1) | exact HB.out)) hb); clear HB; have HB := n0_; clear n0_; (try clear hb); (try clear hb2); (try clear hk); (try clear hi)))
    (try simp only [Act.put, List.setIfInBounds_toArray, List.set_cons_zero, List.set_cons_succ])
    go_cut [27] (fun v27 wc => ∃ (kq : Nat) (x27_4 : Bool), v27 = .bool x27_4 ∧ Aside0 (ravelinlaw3_CellRows.j0 kq l0 l1 x27_4 = some r) ∧ Aside0 (kq ≤ k) ∧ Aside0 (Below w.heap.size w wc))
    case first =>
      have H := HC5.out
      clear HC5
      by_cases c7 : (l0.length : Int) > 12
      · rw [if_pos c7] at H
        have c7b0 : decide (12 < (l0.length : Int)) = true := decide_eq_true c7
        have c7b1 : decide (12 < l0.length) = true := decide_eq_true (by omega)
        clear c7
        (first | rw [c7b0] | (simp only [i64_w, i32_w]; rw [c7b0]) | skip)
        have H' := Aside0.mk H
        clear H
        go_wp2
        go_meet
        case rel => exact ⟨_, (true), (by first | rfl | (simp; done) | (simp [*]; done)), H', ⟨by first | omega | exact Nat.le_refl _⟩, ⟨by repeat (first | (with_reducible first | exact HB.out | apply below_alloc | apply pw_below_drewN | apply below_drew1) | exact HB.out)⟩⟩
      · rw [if_neg c7] at H
        have c7b0 : decide (12 < (l0.length : Int)) = false := decide_eq_false c7
        have c7b1 : decide (12 < l0.length) = false := decide_eq_false (by omega)
        clear c7
        (first | rw [c7b0] | (simp only [i64_w, i32_w]; rw [c7b0]) | skip)
        have H' := Aside0.mk H
        clear H
        go_wp2
        go_meet
        case rel => exact ⟨_, (decide ((l1.length : Int) > 12)), (by first | rfl | (simp; done) | (simp [*]; done)), H', ⟨by first | omega | exact Nat.le_refl _⟩, ⟨by repeat (first | (with_reducible first | exact HB.out | apply below_alloc | apply pw_below_drewN | apply below_drew1) | exact HB.out)⟩⟩
    case rest =>
      clear HC5
      try clear c1
      try clear p2
      try clear c4
      try clear c6
      try clear c7
      try clear c7b0
      try clear c7b1
      obtain ⟨kq, x27_4, rfl, HA, HJ4, HB⟩ := hcut
      cases kq with
      | zero => exact absurd HA.out (by simp [ravelinlaw3_CellRows.j0])
      | succ kj4 =>
        have H := HA.out
        clear HA
        simp only [ravelinlaw3_CellRows.j0] at H
        by_cases c8 : x27_4 = true
        · subst c8
          have H1 : (some true) = some r := by rw [if_pos rfl] at H; exact H
          clear H
          have H := H1
          clear H1
          obtain rfl := Option.some.inj H
          go_wp2
          go_ret
          exact ⟨by first | rfl | (simp [errW_none, errW_some] <;> rfl) | (simp [*, errW_none, errW_some] <;> rfl), by repeat (first | (with_reducible first | exact HB.out | apply below_alloc | apply pw_below_drewN | apply below_drew1) | exact HB.out)⟩
        · replace c8 := Bool.eq_false_iff.mpr c8
          subst c8
          have H1 : (ravelinlaw3_CellRows.l0 kj4 l0 l1 (⟨#[]⟩ : ByteArray) 0) = some r := by rw [if_neg (show ¬ (false = true) by decide)] at H; exact H
          clear H
          have H := H1
          clear H1
          have H' := Aside0.mk H
          clear H
          go_wp2
          go_loopg [5, 6] kj4 (fun kq v5 v6 w' => ∃ (x5_2 : ByteArray) (x6_2 : Int), v5 = .string x5_2 ∧ v6 = .int .i64 x6_2 ∧ Aside0 (ravelinlaw3_CellRows.l0 kq l0 l1 x5_2 x6_2 = some r) ∧ Aside0 (kq ≤ kj4) ∧ Aside0 (Below w.heap.size w w'))
          case atStart => exact ⟨((⟨#[]⟩ : ByteArray)), (0), (by first | rfl | (simp; done) | (simp [*]; done)), (by first | rfl | (simp; done) | (simp [*]; done)), H', ⟨Nat.le_refl _⟩, ⟨by repeat (first | (with_reducible first | exact HB.out | apply below_alloc | apply pw_below_drewN | apply below_drew1) | exact HB.out)⟩⟩
          case round =>
            clear H'
            try clear c1
            try clear p2
            try clear c4
            try clear c6
            try clear c7
            try clear c7b0
            try clear c7b1
            try clear c8
            try clear p2
            obtain ⟨x5_2, x6_2, rfl, rfl, HA, HK2, HB⟩ := hrel
            cases gk with
            | zero => exact absurd HA.out (by simp [ravelinlaw3_CellRows.l0])
            | succ k2 =>
              have H := HA.out
              clear HA
              simp only [ravelinlaw3_CellRows.l0] at H
              obtain ⟨ji9, hji9⟩ : ∃ j_ : Int, (mx (l0.length : Int) (l1.length : Int)) = j_ := ⟨_, rfl⟩
              replace H : (if x6_2 < (ji9) then (if x6_2 < (l0.length : Int) then (if 0 ≤ x6_2 then (if ((rdOf ByteArray.empty l0 x6_2).size : Int) > 100 then (some true) else ((cell_Text.f k2 (rdOf ByteArray.empty l0 x6_2)).bind fun t180 => (if x5_2.size + t180.size ≤ 9223372036854775807 then (if x6_2 < (l1.length : Int) then ((cell_Num.f k2 (wrap64 (rd l1 x6_2))).bind fun t182 => (if (x5_2 ++ t180).size + t182.size ≤ 9223372036854775807 then (ravelinlaw3_CellRows.l0 k2 l0 l1 ((x5_2 ++ t180) ++ t182) (wrap64 (x6_2 + 1))) else (none))) else (ravelinlaw3_CellRows.l0 k2 l0 l1 (x5_2 ++ t180) (wrap64 (x6_2 + 1)))) else (none)))) else (none)) else (if x6_2 < (l1.length : Int) then (if 0 ≤ x6_2 then ((cell_Num.f k2 (wrap64 (rd l1 x6_2))).bind fun t184 => (if x5_2.size + t184.size ≤ 9223372036854775807 then (ravelinlaw3_CellRows.l0 k2 l0 l1 (x5_2 ++ t184) (wrap64 (x6_2 + 1))) else (none))) else (none)) else (ravelinlaw3_CellRows.l0 k2 l0 l1 x5_2 (wrap64 (x6_2 + 1))))) else (ravelinlaw3_CellRows.l1 k2 l0 l1 x5_2 0 0)) = some r := by first | (rw [hji9] at H; exact H) | (simp only [hji9] at H ⊢; exact H)
              have hji9_ : (if (l0.length : Int) < (l1.length : Int) then (l1.length : Int) else (l0.length : Int)) = ji9 := hji9
              (try (have hji9_n := hji9_; simp only [Int.ofNat_lt] at hji9_n))
              by_cases c10 : x6_2 < (ji9)
              · rw [if_pos c10] at H
                have c10b0 : decide (x6_2 < (ji9)) = true := decide_eq_true c10
                clear c10
                by_cases c11 : x6_2 < (l0.length : Int)
                · rw [if_pos c11] at H
                  have c11b0 : decide (x6_2 < (l0.length : Int)) = true := decide_eq_true c11
                  clear c11
                  by_cases c12 : 0 ≤ x6_2
                  · rw [if_pos c12] at H
                    have c12b0 : decide (0 ≤ x6_2) = true := decide_eq_true c12
                    clear c12
                    by_cases c13 : ((rdOf ByteArray.empty l0 x6_2).size : Int) > 100
                    · rw [if_pos c13] at H
                      have c13b0 : decide (100 < ((rdOf ByteArray.empty l0 x6_2).size : Int)) = true := decide_eq_true c13
                      have c13b1 : decide (100 < (rdOf ByteArray.empty l0 x6_2).size) = true := decide_eq_true (by omega)
                      clear c13
                      obtain rfl := Option.some.inj H
                      have p178 : 0 ≤ (x6_2 : Int) := of_decide_eq_true (by first | (with_reducible assumption) | assumption)
                      have q178 : x6_2 < (l0.length : Int) := of_decide_eq_true (by first | (with_reducible assumption) | assumption)
                      obtain ⟨ad178, e178, hx178_0⟩ := Kd.at_string HR0.out x6_2 p178 q178
                      cases e178
                      replace hx178_0 := (HB.out.cell (World.block_lt_of_cell? w _ hx178_0)).trans hx178_0
                      replace p178 := eq_true p178
                      replace q178 := eq_true q178
                      go_wp2
                      go_ret
                      exact ⟨by first | rfl | (simp [errW_none, errW_some] <;> rfl) | (simp only [← hji9]; first | rfl | (simp [errW_none, errW_some] <;> rfl)) | (simp [*, errW_none, errW_some] <;> rfl), by repeat (first | (with_reducible first | exact HB.out | apply below_alloc | apply pw_below_drewN | apply below_drew1) | exact HB.out)⟩
                    · rw [if_neg c13] at H
                      have c13b0 : decide (100 < ((rdOf ByteArray.empty l0 x6_2).size : Int)) = false := decide_eq_false c13
                      have c13b1 : decide (100 < (rdOf ByteArray.empty l0 x6_2).size) = false := decide_eq_false (by omega)
                      clear c13
                      replace H := Option.bind_eq_some_iff.mp H
                      obtain ⟨t180, A140, H⟩ := H
                      replace H : (if x5_2.size + t180.size ≤ 9223372036854775807 then (if x6_2 < (l1.length : Int) then ((cell_Num.f k2 (wrap64 (rd l1 x6_2))).bind fun t182 => (if (x5_2 ++ t180).size + t182.size ≤ 9223372036854775807 then (ravelinlaw3_CellRows.l0 k2 l0 l1 ((x5_2 ++ t180) ++ t182) (wrap64 (x6_2 + 1))) else (none))) else (ravelinlaw3_CellRows.l0 k2 l0 l1 (x5_2 ++ t180) (wrap64 (x6_2 + 1)))) else (none)) = some r := H
                      have A14 := Aside0.mk A140
                      clear A140
                      by_cases c15 : x5_2.size + t180.size ≤ 9223372036854775807
                      · rw [if_pos c15] at H
                        have c15b0 := eq_true c15
                        have c15b1 : decide (x5_2.size + t180.size ≤ 9223372036854775807) = true := decide_eq_true c15
                        try have c15b2 : (9223372036854775807 < x5_2.size + t180.size) = False := eq_false (Nat.not_lt.2 c15)
                        by_cases c16 : x6_2 < (l1.length : Int)
                        · rw [if_pos c16] at H
                          have c16b0 : decide (x6_2 < (l1.length : Int)) = true := decide_eq_true c16
                          clear c16
                          replace H := Option.bind_eq_some_iff.mp H
                          obtain ⟨t182, A170, H⟩ := H
                          replace H : (if (x5_2 ++ t180).size + t182.size ≤ 9223372036854775807 then (ravelinlaw3_CellRows.l0 k2 l0 l1 ((x5_2 ++ t180) ++ t182) (wrap64 (x6_2 + 1))) else (none)) = some r := H
                          have A17 := Aside0.mk A170
                          clear A170
                          by_cases c18 : (x5_2 ++ t180).size + t182.size ≤ 9223372036854775807
                          · rw [if_pos c18] at H
                            have c18b0 := eq_true c18
                            have c18b1 : decide ((x5_2 ++ t180).size + t182.size ≤ 9223372036854775807) = true := decide_eq_true c18
                            (try (have c18b1s := c18b1; simp only [ByteArray.size_append] at c18b1s))
                            try have c18b2 : (9223372036854775807 < (x5_2 ++ t180).size + t182.size) = False := eq_false (Nat.not_lt.2 c18)
                            (try (have c18b2s := c18b2; simp only [ByteArray.size_append] at c18b2s))
                            have H' := Aside0.mk H
                            clear H
                            have p178 : 0 ≤ (x6_2 : Int) := of_decide_eq_true (by first | (with_reducible assumption) | assumption)
                            have q178 : x6_2 < (l0.length : Int) := of_decide_eq_true (by first | (with_reducible assumption) | assumption)
                            obtain ⟨ad178, e178, hx178_0⟩ := Kd.at_string HR0.out x6_2 p178 q178
                            cases e178
                            replace hx178_0 := (HB.out.cell (World.block_lt_of_cell? w _ hx178_0)).trans hx178_0
                            replace p178 := eq_true p178
                            replace q178 := eq_true q178
                            have p179 : 0 ≤ (x6_2 : Int) := of_decide_eq_true (by first | (with_reducible assumption) | assumption)
                            have q179 : x6_2 < (l0.length : Int) := of_decide_eq_true (by first | (with_reducible assumption) | assumption)
                            obtain ⟨ad179, e179, hx179_0⟩ := Kd.at_string HR0.out x6_2 p179 q179
                            obtain rfl : ad178 = ad179 := (by injection e179)
                            replace hx179_0 := (HB.out.cell (World.block_lt_of_cell? w _ hx179_0)).trans hx179_0
                            replace p179 := eq_true p179
                            replace q179 := eq_true q179
                            go_wp2_with (first | ((with_reducible refine gate_callee (f := 15) rfl ?_); refine goesL_ (some 52) rfl rfl Try.func15 (by kernel_rfl) rfl #[.string (rdOf ByteArray.empty l0 x6_2)] rfl (by (try simp only [List.map_toArray, List.map_cons, List.map_nil]); first | done | rfl | (simp only [List.length_drop, List.length_take]; rfl)) ?_; (with_reducible refine (cell_Text.calls k2 (rdOf ByteArray.empty l0 x6_2) t180 _ A14.out).mono ?_); rintro e w19 ⟨rfl, hb⟩; refine ⟨_, rfl, ?_⟩; have n0_ := Aside0.mk (below_step (by repeat (first | (with_reducible first | exact HB.out | apply below_alloc | apply pw_below_drewN | apply below_drew1) | exact HB.out)) hb); clear HB; have HB := n0_; clear n0_; (try clear hb); (try clear hb2); (try clear hk); (try clear hi); have p181 : 0 ≤ (x6_2 : Int) := of_decide_eq_true (by first | (with_reducible assumption) | assumption); have q181 : x6_2 < (l1.length : Int) := of_decide_eq_true (by first | (with_reducible assumption) | assumption); obtain ⟨ad181, e181, hx181_0⟩ := Kd.at_int HR1.out x6_2 p181 q181; cases e181; replace hx181_0 := (HB.out.cell (World.block_lt_of_cell? w _ hx181_0)).trans hx181_0; replace p181 := eq_true p181; replace q181 := eq_true q181) | ((with_reducible refine gate_callee (f := 13) rfl ?_); refine goesL_ (some 64) rfl rfl Try.func13 (by kernel_rfl) rfl #[.int .i64 (wrap64 (rd l1 x6_2))] rfl (by (try simp only [List.map_toArray, List.map_cons, List.map_nil]); first | done | rfl | (simp only [List.length_drop, List.length_take]; rfl)) ?_; (with_reducible refine (cell_Num.calls k2 (wrap64 (rd l1 x6_2)) t182 _ A17.out).mono ?_); rintro e w20 ⟨rfl, hb⟩; refine ⟨_, rfl, ?_⟩; have n0_ := Aside0.mk (below_step (by repeat (first | (with_reducible first | exact HB.out | apply below_alloc | apply pw_below_drewN | apply below_drew1) | exact HB.out)) hb); clear HB; have HB := n0_; clear n0_; (try clear hb); (try clear hb2); (try clear hk); (try clear hi)))
                            go_roundg k2
                            case measure => have := HJ4.out; have := HK2.out; omega
                            case rel => exact ⟨((x5_2 ++ t180) ++ t182), (wrap64 (x6_2 + 1)), (by first | rfl | (simp; done) | (simp [*]; done)), (by first | rfl | (simp; done) | (simp [*]; done)), H', ⟨by have := HJ4.out; have := HK2.out; omega⟩, ⟨by repeat (first | (with_reducible first | exact HB.out | apply below_alloc | apply pw_below_drewN | apply below_drew1) | exact HB.out)⟩⟩
                          · rw [if_neg c18] at H
                            exact absurd H (by simp)
                        · rw [if_neg c16] at H
                          have c16b0 : decide (x6_2 < (l1.length : Int)) = false := decide_eq_false c16
                          clear c16
                          have H' := Aside0.mk H
                          clear H
                          have p178 : 0 ≤ (x6_2 : Int) := of_decide_eq_true (by first | (with_reducible assumption) | assumption)
                          have q178 : x6_2 < (l0.length : Int) := of_decide_eq_true (by first | (with_reducible assumption) | assumption)
                          obtain ⟨ad178, e178, hx178_0⟩ := Kd.at_string HR0.out x6_2 p178 q178
                          cases e178
                          replace hx178_0 := (HB.out.cell (World.block_lt_of_cell? w _ hx178_0)).trans hx178_0
                          replace p178 := eq_true p178
                          replace q178 := eq_true q178
                          have p179 : 0 ≤ (x6_2 : Int) := of_decide_eq_true (by first | (with_reducible assumption) | assumption)
                          have q179 : x6_2 < (l0.length : Int) := of_decide_eq_true (by first | (with_reducible assumption) | assumption)
                          obtain ⟨ad179, e179, hx179_0⟩ := Kd.at_string HR0.out x6_2 p179 q179
                          obtain rfl : ad178 = ad179 := (by injection e179)
                          replace hx179_0 := (HB.out.cell (World.block_lt_of_cell? w _ hx179_0)).trans hx179_0
                          replace p179 := eq_true p179
                          replace q179 := eq_true q179
                          go_wp2_with (first | ((with_reducible refine gate_callee (f := 15) rfl ?_); refine goesL_ (some 52) rfl rfl Try.func15 (by kernel_rfl) rfl #[.string (rdOf ByteArray.empty l0 x6_2)] rfl (by (try simp only [List.map_toArray, List.map_cons, List.map_nil]); first | done | rfl | (simp only [List.length_drop, List.length_take]; rfl)) ?_; (with_reducible refine (cell_Text.calls k2 (rdOf ByteArray.empty l0 x6_2) t180 _ A14.out).mono ?_); rintro e w21 ⟨rfl, hb⟩; refine ⟨_, rfl, ?_⟩; have n0_ := Aside0.mk (below_step (by repeat (first | (with_reducible first | exact HB.out | apply below_alloc | apply pw_below_drewN | apply below_drew1) | exact HB.out)) hb); clear HB; have HB := n0_; clear n0_; (try clear hb); (try clear hb2); (try clear hk); (try clear hi)))
                          go_roundg k2
                          case measure => have := HJ4.out; have := HK2.out; omega
                          case rel => exact ⟨(x5_2 ++ t180), (wrap64 (x6_2 + 1)), (by first | rfl | (simp; done) | (simp [*]; done)), (by first | rfl | (simp; done) | (simp [*]; done)), H', ⟨by have := HJ4.out; have := HK2.out; omega⟩, ⟨by repeat (first | (with_reducible first | exact HB.out | apply below_alloc | apply pw_below_drewN | apply below_drew1) | exact HB.out)⟩⟩
                      · rw [if_neg c15] at H
                        exact absurd H (by simp)
                  · rw [if_neg c12] at H
                    exact absurd H (by simp)
                · rw [if_neg c11] at H
                  have c11b0 : decide (x6_2 < (l0.length : Int)) = false := decide_eq_false c11
                  clear c11
                  by_cases c22 : x6_2 < (l1.length : Int)
                  · rw [if_pos c22] at H
                    have c22b0 : decide (x6_2 < (l1.length : Int)) = true := decide_eq_true c22
                    clear c22
                    by_cases c23 : 0 ≤ x6_2
                    · rw [if_pos c23] at H
                      have c23b0 : decide (0 ≤ x6_2) = true := decide_eq_true c23
                      clear c23
                      replace H := Option.bind_eq_some_iff.mp H
                      obtain ⟨t184, A240, H⟩ := H
                      replace H : (if x5_2.size + t184.size ≤ 9223372036854775807 then (ravelinlaw3_CellRows.l0 k2 l0 l1 (x5_2 ++ t184) (wrap64 (x6_2 + 1))) else (none)) = some r := H
                      have A24 := Aside0.mk A240
                      clear A240
                      by_cases c25 : x5_2.size + t184.size ≤ 9223372036854775807
                      · rw [if_pos c25] at H
                        have c25b0 := eq_true c25
                        have c25b1 : decide (x5_2.size + t184.size ≤ 9223372036854775807) = true := decide_eq_true c25
                        try have c25b2 : (9223372036854775807 < x5_2.size + t184.size) = False := eq_false (Nat.not_lt.2 c25)
                        have H' := Aside0.mk H
                        clear H
                        have p183 : 0 ≤ (x6_2 : Int) := of_decide_eq_true (by first | (with_reducible assumption) | assumption)
                        have q183 : x6_2 < (l1.length : Int) := of_decide_eq_true (by first | (with_reducible assumption) | assumption)
                        obtain ⟨ad183, e183, hx183_0⟩ := Kd.at_int HR1.out x6_2 p183 q183
                        cases e183
                        replace hx183_0 := (HB.out.cell (World.block_lt_of_cell? w _ hx183_0)).trans hx183_0
                        replace p183 := eq_true p183
                        replace q183 := eq_true q183
                        go_wp2_with (first | ((with_reducible refine gate_callee (f := 13) rfl ?_); refine goesL_ (some 64) rfl rfl Try.func13 (by kernel_rfl) rfl #[.int .i64 (wrap64 (rd l1 x6_2))] rfl (by (try simp only [List.map_toArray, List.map_cons, List.map_nil]); first | done | rfl | (simp only [List.length_drop, List.length_take]; rfl)) ?_; (with_reducible refine (cell_Num.calls k2 (wrap64 (rd l1 x6_2)) t184 _ A24.out).mono ?_); rintro e w26 ⟨rfl, hb⟩; refine ⟨_, rfl, ?_⟩; have n0_ := Aside0.mk (below_step (by repeat (first | (with_reducible first | exact HB.out | apply below_alloc | apply pw_below_drewN | apply below_drew1) | exact HB.out)) hb); clear HB; have HB := n0_; clear n0_; (try clear hb); (try clear hb2); (try clear hk); (try clear hi)))
                        go_roundg k2
                        case measure => have := HJ4.out; have := HK2.out; omega
                        case rel => exact ⟨(x5_2 ++ t184), (wrap64 (x6_2 + 1)), (by first | rfl | (simp; done) | (simp [*]; done)), (by first | rfl | (simp; done) | (simp [*]; done)), H', ⟨by have := HJ4.out; have := HK2.out; omega⟩, ⟨by repeat (first | (with_reducible first | exact HB.out | apply below_alloc | apply pw_below_drewN | apply below_drew1) | exact HB.out)⟩⟩
                      · rw [if_neg c25] at H
                        exact absurd H (by simp)
                    · rw [if_neg c23] at H
                      exact absurd H (by simp)
                  · rw [if_neg c22] at H
                    have c22b0 : decide (x6_2 < (l1.length : Int)) = false := decide_eq_false c22
                    clear c22
                    have H' := Aside0.mk H
                    clear H
                    go_wp2
                    go_roundg k2
                    case measure => have := HJ4.out; have := HK2.out; omega
                    case rel => exact ⟨(x5_2), (wrap64 (x6_2 + 1)), (by first | rfl | (simp; done) | (simp [*]; done)), (by first | rfl | (simp; done) | (simp [*]; done)), H', ⟨by have := HJ4.out; have := HK2.out; omega⟩, ⟨by repeat (first | (with_reducible first | exact HB.out | apply below_alloc | apply pw_below_drewN | apply below_drew1) | exact HB.out)⟩⟩
              · rw [if_neg c10] at H
                have c10b0 : decide (x6_2 < (ji9)) = false := decide_eq_false c10
                clear c10
                have H' := Aside0.mk H
                clear H
                go_wp2
                go_loopg [7, 8] k2 (fun kq v7 v8 w' => ∃ (x7_3 : Int) (x8_3 : Int), v7 = .int .i64 x7_3 ∧ v8 = .int .i64 x8_3 ∧ Aside0 (ravelinlaw3_CellRows.l1 kq l0 l1 x5_2 x7_3 x8_3 = some r) ∧ Aside0 (kq ≤ k2) ∧ Aside0 (Below w.heap.size w w'))
                case atStart => exact ⟨(0), (0), (by first | rfl | (simp; done) | (simp [*]; done)), (by first | rfl | (simp; done) | (simp [*]; done)), H', ⟨Nat.le_refl _⟩, ⟨by repeat (first | (with_reducible first | exact HB.out | apply below_alloc | apply pw_below_drewN | apply below_drew1) | exact HB.out)⟩⟩
                case round =>
                  clear H'
                  try clear c1
                  try clear p1
                  try clear q1
                  try clear hx1
                  try clear c2
                  try clear p2
                  try clear c4
                  try clear c6
                  try clear p6
                  try clear c7
                  try clear c7b0
                  try clear c7b1
                  try clear c8
                  try clear c10
                  try clear c10b0
                  try clear c11
                  try clear c11b0
                  try clear c12
                  try clear c12b0
                  try clear c13
                  try clear c13b0
                  try clear c13b1
                  try clear c15
                  try clear c15b0
                  try clear c15b1
                  try clear c15b2
                  try clear c16
                  try clear c16b0
                  try clear p17
                  try clear q17
                  try clear hx17
                  try clear c18
                  try clear c18b0
                  try clear c18b1
                  try clear c18b2
                  try clear p18
                  try clear q18
                  try clear hx18
                  try clear c22
                  try clear c22b0
                  try clear c23
                  try clear c23b0
                  try clear c25
                  try clear c25b0
                  try clear c25b1
                  try clear c25b2
                  try clear hx178_0
                  try clear hx179_0
                  try clear hx181_0
                  try clear hx183_0
                  try clear p178
                  try clear p179
                  try clear p181
                  try clear p183
                  try clear p2
                  try clear q178
                  try clear q179
                  try clear q181
                  try clear q183
                  obtain ⟨x7_3, x8_3, rfl, rfl, HA, HK3, HB⟩ := hrel
                  cases gk with
                  | zero => exact absurd HA.out (by simp [ravelinlaw3_CellRows.l1])
                  | succ k3 =>
                    have H := HA.out
                    clear HA
                    simp only [ravelinlaw3_CellRows.l1] at H
                    replace H : (if x8_3 < (ji9) then (if x8_3 < (l0.length : Int) then (if 0 ≤ x7_3 then (if x7_3 ≤ (x5_2.size : Int) then ((cell_TakeText.f k3 (x5_2.extract (x7_3 : Int).toNat x5_2.size)).bind fun bt188 => (if bt188.2.2 = 0 then (if 0 ≤ x8_3 then (if bt188.1.toList = (rdOf ByteArray.empty l0 x8_3).toList then (ravelinlaw3_CellRows.j3 k3 l0 l1 x5_2 (wrap64 (x7_3 + bt188.2.1)) x8_3) else (some false)) else (none)) else (some false))) else (none)) else (none)) else (ravelinlaw3_CellRows.j3 k3 l0 l1 x5_2 x7_3 x8_3)) else (if 0 ≤ x7_3 then (if x7_3 ≤ (x5_2.size : Int) then ((cell_TakeNum.f k3 (x5_2.extract (x7_3 : Int).toNat x5_2.size)).bind fun bt185 => (if x7_3 = (x5_2.size : Int) then (some (bt185.2.2 == 12)) else (some false))) else (none)) else (none))) = some r := by first | (rw [hji9] at H; exact H) | (simp only [hji9] at H ⊢; exact H)
                    by_cases c28 : x8_3 < (ji9)
                    · rw [if_pos c28] at H
                      have c28b0 : decide (x8_3 < (ji9)) = true := decide_eq_true c28
                      clear c28
                      have HC29 := Aside0.mk H
                      clear H
                      go_upto_if 78 with (fail)
                      go_cut [7] (fun v7 wc => ∃ (kq : Nat) (x7_28 : Int), v7 = .int .i64 x7_28 ∧ Aside0 (ravelinlaw3_CellRows.j3 kq l0 l1 x5_2 x7_28 x8_3 = some r) ∧ Aside0 (kq ≤ k3) ∧ Aside0 (Below w.heap.size w wc))
                      case first =>
                        have H := HC29.out
                        clear HC29
                        by_cases c30 : x8_3 < (l0.length : Int)
                        · rw [if_pos c30] at H
                          have c30b0 : decide (x8_3 < (l0.length : Int)) = true := decide_eq_true c30
                          clear c30
                          (first | rw [c30b0] | (simp only [i64_w, i32_w]; rw [c30b0]) | skip)
                          by_cases c31 : 0 ≤ x7_3
                          · rw [if_pos c31] at H
                            have c31b0 := eq_true c31
                            have c31b1 : decide (0 ≤ x7_3) = true := decide_eq_true c31
                            clear c31
                            by_cases c32 : x7_3 ≤ (x5_2.size : Int)
                            · rw [if_pos c32] at H
                              have c32b0 := eq_true c32
                              have c32b1 : decide (x7_3 ≤ (x5_2.size : Int)) = true := decide_eq_true c32
                              clear c32
                              replace H := Option.bind_eq_some_iff.mp H
                              obtain ⟨⟨t188, t189, t190⟩, A330, H⟩ := H
                              replace H : (if t190 = 0 then (if 0 ≤ x8_3 then (if t188.toList = (rdOf ByteArray.empty l0 x8_3).toList then (ravelinlaw3_CellRows.j3 k3 l0 l1 x5_2 (wrap64 (x7_3 + t189)) x8_3) else (some false)) else (none)) else (some false)) = some r := H
                              have A33 := Aside0.mk A330
                              clear A330
                              by_cases c34 : t190 = 0
                              · rw [if_pos c34] at H
                                have c34b0 : (t190 == 0) = true := beq_iff_eq.mpr c34
                                have c34b1 : (t190 != 0) = false := bne_eq_false_iff_eq.mpr c34
                                clear c34
                                by_cases c35 : 0 ≤ x8_3
                                · rw [if_pos c35] at H
                                  have c35b0 : decide (0 ≤ x8_3) = true := decide_eq_true c35
                                  clear c35
                                  by_cases c36 : t188.toList = (rdOf ByteArray.empty l0 x8_3).toList
                                  · rw [if_pos c36] at H
                                    have c36b0 : (t188.toList == (rdOf ByteArray.empty l0 x8_3).toList) = true := beq_iff_eq.mpr c36
                                    have c36b1 : (t188.toList != (rdOf ByteArray.empty l0 x8_3).toList) = false := bne_eq_false_iff_eq.mpr c36
                                    clear c36
                                    have H' := Aside0.mk H
                                    clear H
                                    go_wp2_with (first | ((with_reducible refine gate_callee (f := 11) rfl ?_); refine goesL_ (some 83) rfl rfl Try.func11 (by kernel_rfl) rfl #[.string (x5_2.extract (x7_3 : Int).toNat x5_2.size)] rfl (by (try simp only [List.map_toArray, List.map_cons, List.map_nil]); first | done | rfl | (simp only [List.length_drop, List.length_take]; rfl)) ?_; (with_reducible refine (cell_TakeText.calls k3 (x5_2.extract (x7_3 : Int).toNat x5_2.size) t188 t189 t190 _ A33.out).mono ?_); rintro e w' ⟨rfl, ⟨nd, rfl⟩⟩; refine ⟨_, rfl, ?_⟩; have p191 : 0 ≤ (x8_3 : Int) := of_decide_eq_true (by first | (with_reducible assumption) | assumption); have q191 : x8_3 < (l0.length : Int) := of_decide_eq_true (by first | (with_reducible assumption) | assumption); obtain ⟨ad191, e191, hx191_0⟩ := Kd.at_string HR0.out x8_3 p191 q191; cases e191; replace hx191_0 := (HB.out.cell (World.block_lt_of_cell? w _ hx191_0)).trans hx191_0; replace p191 := eq_true p191; replace q191 := eq_true q191))
                                    go_meet
                                    case rel => exact ⟨_, (wrap64 (x7_3 + t189)), (by first | rfl | (simp; done) | (simp [*]; done)), H', ⟨by have := HJ4.out; have := HK2.out; have := HK3.out; first | omega | exact Nat.le_refl _⟩, ⟨by repeat (first | (with_reducible first | exact HB.out | apply below_alloc | apply pw_below_drewN | apply below_drew1) | exact HB.out)⟩⟩
                                  · rw [if_neg c36] at H
                                    have c36b0 : (t188.toList == (rdOf ByteArray.empty l0 x8_3).toList) = false := beq_eq_false_iff_ne.mpr c36
                                    have c36b1 : (t188.toList != (rdOf ByteArray.empty l0 x8_3).toList) = true := bne_iff_ne.mpr c36
                                    exact absurd ((Option.some.inj H).trans HR_.out) (by decide)
                                · rw [if_neg c35] at H
                                  exact absurd H (by simp)
                              · rw [if_neg c34] at H
                                have c34b0 : (t190 == 0) = false := beq_eq_false_iff_ne.mpr c34
                                have c34b1 : (t190 != 0) = true := bne_iff_ne.mpr c34
                                exact absurd ((Option.some.inj H).trans HR_.out) (by decide)
                            · rw [if_neg c32] at H
                              exact absurd H (by simp)
                          · rw [if_neg c31] at H
                            exact absurd H (by simp)
                        · rw [if_neg c30] at H
                          have c30b0 : decide (x8_3 < (l0.length : Int)) = false := decide_eq_false c30
                          clear c30
                          (first | rw [c30b0] | (simp only [i64_w, i32_w]; rw [c30b0]) | skip)
                          have H' := Aside0.mk H
                          clear H
                          go_wp2
                          go_meet
                          case rel => exact ⟨_, (x7_3), (by first | rfl | (simp; done) | (simp [*]; done)), H', ⟨by have := HJ4.out; have := HK2.out; have := HK3.out; first | omega | exact Nat.le_refl _⟩, ⟨by repeat (first | (with_reducible first | exact HB.out | apply below_alloc | apply pw_below_drewN | apply below_drew1) | exact HB.out)⟩⟩
                      case rest =>
                        clear HC29
                        try clear c1
                        try clear p1
                        try clear q1
                        try clear hx1
                        try clear c2
                        try clear p2
                        try clear c3
                        try clear c4
                        try clear c6
                        try clear p6
                        try clear c7
                        try clear c7b0
                        try clear c7b1
                        try clear c8
                        try clear c10
                        try clear c10b0
                        try clear c11
                        try clear c11b0
                        try clear c12
                        try clear c12b0
                        try clear c13
                        try clear c13b0
                        try clear c13b1
                        try clear c15
                        try clear c15b0
                        try clear c15b1
                        try clear c15b2
                        try clear c16
                        try clear c16b0
                        try clear p17
                        try clear q17
                        try clear hx17
                        try clear c18
                        try clear c18b0
                        try clear c18b1
                        try clear c18b2
                        try clear p18
                        try clear q18
                        try clear hx18
                        try clear p19
                        try clear q19
                        try clear hx19
                        try clear c22
                        try clear c22b0
                        try clear c23
                        try clear c23b0
                        try clear c25
                        try clear c25b0
                        try clear c25b1
                        try clear c25b2
                        try clear c28
                        try clear c28b0
                        try clear c30
                        try clear c30b0
                        try clear c31
                        try clear c31b0
                        try clear c31b1
                        try clear c32
                        try clear c32b0
                        try clear c32b1
                        try clear c34
                        try clear c34b0
                        try clear c34b1
                        try clear c35
                        try clear c35b0
                        try clear c36
                        try clear c36b0
                        try clear c36b1
                        try clear hx178_0
                        try clear hx179_0
                        try clear hx181_0
                        try clear hx183_0
                        try clear hx191_0
                        try clear p1
                        try clear p17
                        try clear p178
                        try clear p179
                        try clear p18
                        try clear p181
                        try clear p183
                        try clear p191
                        try clear p2
                        try clear p6
                        try clear q1
                        try clear q17
                        try clear q178
                        try clear q179
                        try clear q18
                        try clear q181
                        try clear q183
                        try clear q191
                        obtain ⟨kq, x7_28, rfl, HA, HJ28, HB⟩ := hcut
                        cases kq with
                        | zero => exact absurd HA.out (by simp [ravelinlaw3_CellRows.j3])
                        | succ kj28 =>
                          have H := HA.out
                          clear HA
                          simp only [ravelinlaw3_CellRows.j3] at H
                          by_cases c37 : x8_3 < (l1.length : Int)
                          · rw [if_pos c37] at H
                            have c37b0 : decide (x8_3 < (l1.length : Int)) = true := decide_eq_true c37
                            clear c37
                            by_cases c38 : 0 ≤ x7_28
                            · rw [if_pos c38] at H
                              have c38b0 := eq_true c38
                              have c38b1 : decide (0 ≤ x7_28) = true := decide_eq_true c38
                              clear c38
                              by_cases c39 : x7_28 ≤ (x5_2.size : Int)
                              · rw [if_pos c39] at H
                                have c39b0 := eq_true c39
                                have c39b1 : decide (x7_28 ≤ (x5_2.size : Int)) = true := decide_eq_true c39
                                clear c39
                                replace H := Option.bind_eq_some_iff.mp H
                                obtain ⟨⟨t192, t193, t194⟩, A400, H⟩ := H
                                replace H : (if t194 = 0 then (if 0 ≤ x8_3 then (if t192 = (wrap64 (rd l1 x8_3)) then (ravelinlaw3_CellRows.l1 kj28 l0 l1 x5_2 (wrap64 (x7_28 + t193)) (wrap64 (x8_3 + 1))) else (some false)) else (none)) else (some false)) = some r := H
                                have A40 := Aside0.mk A400
                                clear A400
                                by_cases c41 : t194 = 0
                                · rw [if_pos c41] at H
                                  have c41b0 : (t194 == 0) = true := beq_iff_eq.mpr c41
                                  have c41b1 : (t194 != 0) = false := bne_eq_false_iff_eq.mpr c41
                                  clear c41
                                  by_cases c42 : 0 ≤ x8_3
                                  · rw [if_pos c42] at H
                                    have c42b0 : decide (0 ≤ x8_3) = true := decide_eq_true c42
                                    clear c42
                                    by_cases c43 : t192 = (wrap64 (rd l1 x8_3))
                                    · rw [if_pos c43] at H
                                      have c43b0 : (t192 == (wrap64 (rd l1 x8_3))) = true := beq_iff_eq.mpr c43
                                      have c43b1 : (t192 != (wrap64 (rd l1 x8_3))) = false := bne_eq_false_iff_eq.mpr c43
                                      clear c43
                                      have H' := Aside0.mk H
                                      clear H
                                      go_wp2_with (first | ((with_reducible refine gate_callee (f := 9) rfl ?_); refine goesL_ (some 108) rfl rfl Try.func9 (by kernel_rfl) rfl #[.string (x5_2.extract (x7_28 : Int).toNat x5_2.size)] rfl (by (try simp only [List.map_toArray, List.map_cons, List.map_nil]); first | done | rfl | (simp only [List.length_drop, List.length_take]; rfl)) ?_; (with_reducible refine (cell_TakeNum.calls kj28 (x5_2.extract (x7_28 : Int).toNat x5_2.size) t192 t193 t194 _ A40.out).mono ?_); rintro e w' ⟨rfl, ⟨nd, rfl⟩⟩; refine ⟨_, rfl, ?_⟩; have p195 : 0 ≤ (x8_3 : Int) := of_decide_eq_true (by first | (with_reducible assumption) | assumption); have q195 : x8_3 < (l1.length : Int) := of_decide_eq_true (by first | (with_reducible assumption) | assumption); obtain ⟨ad195, e195, hx195_0⟩ := Kd.at_int HR1.out x8_3 p195 q195; cases e195; replace hx195_0 := (HB.out.cell (World.block_lt_of_cell? w _ hx195_0)).trans hx195_0; replace p195 := eq_true p195; replace q195 := eq_true q195))
                                      go_roundg kj28
                                      case measure => have := HJ4.out; have := HK2.out; have := HK3.out; have := HJ28.out; omega
                                      case rel => exact ⟨(wrap64 (x7_28 + t193)), (wrap64 (x8_3 + 1)), (by first | rfl | (simp; done) | (simp [*]; done)), (by first | rfl | (simp; done) | (simp [*]; done)), H', ⟨by have := HJ4.out; have := HK2.out; have := HK3.out; have := HJ28.out; omega⟩, ⟨by repeat (first | (with_reducible first | exact HB.out | apply below_alloc | apply pw_below_drewN | apply below_drew1) | exact HB.out)⟩⟩
                                    · rw [if_neg c43] at H
                                      have c43b0 : (t192 == (wrap64 (rd l1 x8_3))) = false := beq_eq_false_iff_ne.mpr c43
                                      have c43b1 : (t192 != (wrap64 (rd l1 x8_3))) = true := bne_iff_ne.mpr c43
                                      exact absurd ((Option.some.inj H).trans HR_.out) (by decide)
                                  · rw [if_neg c42] at H
                                    exact absurd H (by simp)
                                · rw [if_neg c41] at H
                                  have c41b0 : (t194 == 0) = false := beq_eq_false_iff_ne.mpr c41
                                  have c41b1 : (t194 != 0) = true := bne_iff_ne.mpr c41
                                  exact absurd ((Option.some.inj H).trans HR_.out) (by decide)
                              · rw [if_neg c39] at H
                                exact absurd H (by simp)
                            · rw [if_neg c38] at H
                              exact absurd H (by simp)
                          · rw [if_neg c37] at H
                            have c37b0 : decide (x8_3 < (l1.length : Int)) = false := decide_eq_false c37
                            clear c37
                            have H' := Aside0.mk H
                            clear H
                            go_wp2
                            go_roundg kj28
                            case measure => have := HJ4.out; have := HK2.out; have := HK3.out; have := HJ28.out; omega
                            case rel => exact ⟨(x7_28), (wrap64 (x8_3 + 1)), (by first | rfl | (simp; done) | (simp [*]; done)), (by first | rfl | (simp; done) | (simp [*]; done)), H', ⟨by have := HJ4.out; have := HK2.out; have := HK3.out; have := HJ28.out; omega⟩, ⟨by repeat (first | (with_reducible first | exact HB.out | apply below_alloc | apply pw_below_drewN | apply below_drew1) | exact HB.out)⟩⟩
                    · rw [if_neg c28] at H
                      have c28b0 : decide (x8_3 < (ji9)) = false := decide_eq_false c28
                      clear c28
                      by_cases c44 : 0 ≤ x7_3
                      · rw [if_pos c44] at H
                        have c44b0 := eq_true c44
                        have c44b1 : decide (0 ≤ x7_3) = true := decide_eq_true c44
                        clear c44
                        by_cases c45 : x7_3 ≤ (x5_2.size : Int)
                        · rw [if_pos c45] at H
                          have c45b0 := eq_true c45
                          have c45b1 : decide (x7_3 ≤ (x5_2.size : Int)) = true := decide_eq_true c45
                          clear c45
                          replace H := Option.bind_eq_some_iff.mp H
                          obtain ⟨⟨t185, t186, t187⟩, A460, H⟩ := H
                          replace H : (if x7_3 = (x5_2.size : Int) then (some (t187 == 12)) else (some false)) = some r := H
                          have A46 := Aside0.mk A460
                          clear A460
                          by_cases c47 : x7_3 = (x5_2.size : Int)
                          · rw [if_pos c47] at H
                            have c47b0 : (x7_3 == (x5_2.size : Int)) = true := beq_iff_eq.mpr c47
                            have c47b1 : (x7_3 != (x5_2.size : Int)) = false := bne_eq_false_iff_eq.mpr c47
                            clear c47
                            obtain rfl := Option.some.inj H
                            go_wp2_with (first | ((with_reducible refine gate_callee (f := 9) rfl ?_); refine goesL_ (some 130) rfl rfl Try.func9 (by kernel_rfl) rfl #[.string (x5_2.extract (x7_3 : Int).toNat x5_2.size)] rfl (by (try simp only [List.map_toArray, List.map_cons, List.map_nil]); first | done | rfl | (simp only [List.length_drop, List.length_take]; rfl)) ?_; (with_reducible refine (cell_TakeNum.calls k3 (x5_2.extract (x7_3 : Int).toNat x5_2.size) t185 t186 t187 _ A46.out).mono ?_); rintro e w' ⟨rfl, ⟨nd, rfl⟩⟩; refine ⟨_, rfl, ?_⟩))
                            go_ret
                            exact ⟨by first | rfl | (simp [errW_none, errW_some] <;> rfl) | (simp only [← hji9, ← hji9]; first | rfl | (simp [errW_none, errW_some] <;> rfl)) | (simp [*, errW_none, errW_some] <;> rfl), by repeat (first | (with_reducible first | exact HB.out | apply below_alloc | apply pw_below_drewN | apply below_drew1) | exact HB.out)⟩
                          · rw [if_neg c47] at H
                            have c47b0 : (x7_3 == (x5_2.size : Int)) = false := beq_eq_false_iff_ne.mpr c47
                            have c47b1 : (x7_3 != (x5_2.size : Int)) = true := bne_iff_ne.mpr c47
                            exact absurd ((Option.some.inj H).trans HR_.out) (by decide)
                        · rw [if_neg c45] at H
                          exact absurd H (by simp)
                      · rw [if_neg c44] at H
                        exact absurd H (by simp)
  · replace c4 := Bool.eq_false_iff.mpr c4
    subst c4
    have H1 : (some false) = some r := by rw [if_neg (show ¬ (false = true) by decide)] at H; exact H
    clear H
    have H := H1
    clear H1
    exact absurd ((Option.some.inj H).trans HR_.out) (by decide)
def ravelinlaw3_CellRows.Pure : Prop := ∀ (l0 : List ByteArray) (l1 : List Int), l0.length ≤ 9223372036854775807 → (∀ y_ ∈ l0, y_.size ≤ 9223372036854775807) → l1.length ≤ 9223372036854775807 → (∀ y_ ∈ l1, (Lit.int .u32 y_).wf = true) → ∃ k, ravelinlaw3_CellRows.f k l0 l1 = some true

end Go.Proofs.Ytialmkppgbplpaa.P
