-- Printed by a changed copy of the kit's printer (wip/tools/ext.py); labels and more
import Derived.Test.YthohfmfgijckhaaM0
import Derived.Test.YthohfmfgijckhaaM8
import Derived.Test.YthohfmfgijckhaaM9
import Derived.Test.YthohfmfgijckhaaM10
namespace Go.Proofs.Ythohfmfgijckhaa.P
open Go.RowKit Go.Proofs.YthohfmfgijckhaaW.PrintWords Go.Proofs.YthohfmfgijckhaaW.PrintLast Go.Proofs.YthohfmfgijckhaaW.PrintMore
attribute [local go_sem] max2_int min2_int max_two min_two max_three min_three max_four min_four   -- for this text's walks alone
set_option linter.unusedVariables false
set_option linter.unusedSimpArgs false

/-! ### ravelinref6_ReadBlock: function 12 -/
mutual
def ravelinref6_ReadBlock.l0 : Nat → ByteArray → ByteArray → List (S45) → ByteArray → Int → Option ((List (S45)) × Int)
  | 0, _, _, _, _, _ => none
  | k + 1, x0, x4, x7, x8, x9 => if x9 < (x4.size : Int) then (if 0 ≤ x9 then (if x9 ≤ (x4.size : Int) then ((ravelinref3_TakeNum.f k (x4.extract (x9 : Int).toNat x4.size)).bind fun bt291 => (if bt291.2.2 = 0 then (ravelinref6_ReadBlock.j1 k x0 x4 x7 x8 x9 bt291.1 bt291.2.1 (decide (bt291.1 > (x8.size : Int)))) else (ravelinref6_ReadBlock.j1 k x0 x4 x7 x8 x9 bt291.1 bt291.2.1 true))) else (none)) else (none)) else ((ravelinref6_Block.f k x7).bind fun bt289 => (if bt289.2 = 0 then (if bt289.1.toList = x0.toList then (some (x7, 0)) else (some (([] : List (S45)), 10))) else (some (([] : List (S45)), 10))))
def ravelinref6_ReadBlock.j1 : Nat → ByteArray → ByteArray → List (S45) → ByteArray → Int → Int → Int → Bool → Option ((List (S45)) × Int)
  | 0, _, _, _, _, _, _, _, _ => none
  | k + 1, x0, x4, x7, x8, x9, x10, x11, x53 => if x53 = true then (some (([] : List (S45)), 10)) else (if 0 ≤ (wrap64 (x9 + x11)) then (if (wrap64 (x9 + x11)) ≤ (x4.size : Int) then ((ravelinref3_TakeText.f k (x4.extract ((wrap64 (x9 + x11)) : Int).toNat x4.size)).bind fun bt294 => (if bt294.2.2 = 0 then (if 0 ≤ x10 then (if x10 ≤ (x8.size : Int) then (if (x8.extract 0 (x10 : Int).toNat).size + bt294.1.size ≤ 9223372036854775807 then (if 0 ≤ (wrap64 ((wrap64 (x9 + x11)) + bt294.2.1)) then (if (wrap64 ((wrap64 (x9 + x11)) + bt294.2.1)) ≤ (x4.size : Int) then ((ravelinref6_tail.f k ((x8.extract 0 (x10 : Int).toNat) ++ bt294.1) (x4.extract ((wrap64 ((wrap64 (x9 + x11)) + bt294.2.1)) : Int).toNat x4.size)).bind fun bt297 => (if bt297.2.2.2.2.2 = 0 then (if x7.length < 2932031007402 then (ravelinref6_ReadBlock.l0 k x0 x4 (x7 ++ [(⟨bt297.1, bt297.2.1, bt297.2.2.1, bt297.2.2.2.1⟩ : S45)]) bt297.1 (wrap64 ((wrap64 ((wrap64 (x9 + x11)) + bt294.2.1)) + bt297.2.2.2.2.1))) else (none)) else (some (([] : List (S45)), 10)))) else (none)) else (none)) else (none)) else (none)) else (none)) else (some (([] : List (S45)), 10)))) else (none)) else (none))
end
def ravelinref6_ReadBlock.f (k : Nat) (a0 : ByteArray) : Option ((List (S45)) × Int) := (ravelinref3_Open.f k a0).bind fun bt286 => (if bt286.2.2 = 0 then (if bt286.2.1 = (a0.size : Int) then (ravelinref6_ReadBlock.l0 k a0 bt286.1 ([] : List (S45)) (⟨#[]⟩ : ByteArray) 0) else (some (([] : List (S45)), 13))) else (some (([] : List (S45)), bt286.2.2)))
theorem ravelinref6_ReadBlock.mono_l : ∀ k, (∀ y0 y1 y2 y3 y4, LeO (ravelinref6_ReadBlock.l0 k y0 y1 y2 y3 y4) (ravelinref6_ReadBlock.l0 (k + 1) y0 y1 y2 y3 y4)) ∧ (∀ y0 y1 y2 y3 y4 y5 y6 y7, LeO (ravelinref6_ReadBlock.j1 k y0 y1 y2 y3 y4 y5 y6 y7) (ravelinref6_ReadBlock.j1 (k + 1) y0 y1 y2 y3 y4 y5 y6 y7))
  | 0 => ⟨fun _ _ _ _ _ r h => by simp [ravelinref6_ReadBlock.l0] at h, fun _ _ _ _ _ _ _ _ r h => by simp [ravelinref6_ReadBlock.j1] at h⟩
  | k + 1 => by
    obtain ⟨ih0, ih1⟩ := ravelinref6_ReadBlock.mono_l k
    refine ⟨?_, ?_⟩
    · intro y0 y1 y2 y3 y4
      unfold ravelinref6_ReadBlock.l0
      repeat' first
      | (with_reducible exact ih0 _ _ _ _ _)
      | (with_reducible exact ih1 _ _ _ _ _ _ _ _)
      | (with_reducible exact ravelinref3_Open.mono _ _)
      | (with_reducible exact ravelinref3_TakeNum.mono _ _)
      | (with_reducible exact ravelinref3_TakeText.mono _ _)
      | (with_reducible exact ravelinref6_Block.mono _ _)
      | (with_reducible exact ravelinref6_tail.mono _ _ _)
      | (with_reducible exact LeO.refl _)
      | (with_reducible exact LeO.none _)
      | (with_reducible refine LeO.ite ?_ ?_)
      | (with_reducible refine LeO.bind ?_ (fun _ => ?_))
      | exact ih0 _ _ _ _ _
      | exact ih1 _ _ _ _ _ _ _ _
      | exact ravelinref3_Open.mono _ _
      | exact ravelinref3_TakeNum.mono _ _
      | exact ravelinref3_TakeText.mono _ _
      | exact ravelinref6_Block.mono _ _
      | exact ravelinref6_tail.mono _ _ _
      | exact LeO.none _
      | refine LeO.ite ?_ ?_
      | refine LeO.bind ?_ (fun _ => ?_)
    · intro y0 y1 y2 y3 y4 y5 y6 y7
      unfold ravelinref6_ReadBlock.j1
      repeat' first
      | (with_reducible exact ih0 _ _ _ _ _)
      | (with_reducible exact ih1 _ _ _ _ _ _ _ _)
      | (with_reducible exact ravelinref3_Open.mono _ _)
      | (with_reducible exact ravelinref3_TakeNum.mono _ _)
      | (with_reducible exact ravelinref3_TakeText.mono _ _)
      | (with_reducible exact ravelinref6_Block.mono _ _)
      | (with_reducible exact ravelinref6_tail.mono _ _ _)
      | (with_reducible exact LeO.refl _)
      | (with_reducible exact LeO.none _)
      | (with_reducible refine LeO.ite ?_ ?_)
      | (with_reducible refine LeO.bind ?_ (fun _ => ?_))
      | exact ih0 _ _ _ _ _
      | exact ih1 _ _ _ _ _ _ _ _
      | exact ravelinref3_Open.mono _ _
      | exact ravelinref3_TakeNum.mono _ _
      | exact ravelinref3_TakeText.mono _ _
      | exact ravelinref6_Block.mono _ _
      | exact ravelinref6_tail.mono _ _ _
      | exact LeO.none _
      | refine LeO.ite ?_ ?_
      | refine LeO.bind ?_ (fun _ => ?_)
theorem ravelinref6_ReadBlock.mono : ∀ a0 k, LeO (ravelinref6_ReadBlock.f k a0) (ravelinref6_ReadBlock.f (k + 1) a0) := by
  intro a0 k
  obtain ⟨ih0, ih1⟩ := ravelinref6_ReadBlock.mono_l k
  unfold ravelinref6_ReadBlock.f
  repeat' first
      | (with_reducible exact ih0 _ _ _ _ _)
      | (with_reducible exact ih1 _ _ _ _ _ _ _ _)
      | (with_reducible exact ravelinref3_Open.mono _ _)
      | (with_reducible exact ravelinref3_TakeNum.mono _ _)
      | (with_reducible exact ravelinref3_TakeText.mono _ _)
      | (with_reducible exact ravelinref6_Block.mono _ _)
      | (with_reducible exact ravelinref6_tail.mono _ _ _)
      | (with_reducible exact LeO.refl _)
      | (with_reducible exact LeO.none _)
      | (with_reducible refine LeO.ite ?_ ?_)
      | (with_reducible refine LeO.bind ?_ (fun _ => ?_))
      | exact ih0 _ _ _ _ _
      | exact ih1 _ _ _ _ _ _ _ _
      | exact ravelinref3_Open.mono _ _
      | exact ravelinref3_TakeNum.mono _ _
      | exact ravelinref3_TakeText.mono _ _
      | exact ravelinref6_Block.mono _ _
      | exact ravelinref6_tail.mono _ _ _
      | exact LeO.none _
      | refine LeO.ite ?_ ?_
      | refine LeO.bind ?_ (fun _ => ?_)
def ravelinref6_ReadBlock.T16 : Bool × List (List Nat × List Nat) := (true, [([], []), ([], []), ([0, 1], [0, 1]), ([], []), ([2, 3], [2, 3]), ([], []), ([], []), ([], []), ([6, 7], [6, 7]), ([], []), ([8, 9], [8, 9]), ([5, 10], [5, 10]), ([4, 11], [4, 11]), ([12], [12]), ([13], [13]), ([13], [13]), ([13], [13]), ([], []), ([17, 14, 12, 0, 1, 2, 3, 4, 5, 6, 7, 8, 9, 10, 11, 12, 13, 14, 17], [14, 17]), ([15, 18, 0, 1, 2, 3, 4, 5, 6, 7, 8, 9, 10, 11, 12, 13, 14, 15, 17, 18], [15]), ([16, 19, 0, 1, 2, 3, 4, 5, 6, 7, 8, 9, 10, 11, 12, 13, 14, 15, 16, 17, 18, 19], [16])])
def ravelinref6_ReadBlock.B16 : List Nat := [0, 0, 3, 0, 15, 0, 0, 0, 192, 0, 960, 2016, 4095, 8191, 16383, 16383, 16383, 0, 163839, 458751, 1048575]
theorem ravelinref6_ReadBlock.tab16 : rtab .any (opsOf Try.f12 16) = ravelinref6_ReadBlock.T16 := by kernel_rfl
theorem ravelinref6_ReadBlock.bits16 : waitsOk ravelinref6_ReadBlock.T16.2 ravelinref6_ReadBlock.B16 = true := by kernel_rfl
set_option maxHeartbeats 8000000 in
set_option maxRecDepth 100000 in
theorem ravelinref6_ReadBlock.calls (k : Nat) (a0 : ByteArray) (r1 : List (S45)) (r2 : Int) (w : World) (h : ravelinref6_ReadBlock.f k a0 = some (r1, r2)) :
    Calls Try.prog 12 #[.string a0] w fun e w' => ∃ v0_ : Value, e = .returned (.tuple #[v0_, .int .i64 r2]) ∧ Kd.R k45 45 w' w.heap.size (fun _ => True) v0_ r1 ∧ Below w.heap.size w w' := by
  have hu45 := Try.underlying45
  have HB := Aside0.mk (Below.refl w.heap.size w)
  have H : ((ravelinref3_Open.f k a0).bind fun bt286 => (if bt286.2.2 = 0 then (if bt286.2.1 = (a0.size : Int) then (ravelinref6_ReadBlock.l0 k a0 bt286.1 ([] : List (S45)) (⟨#[]⟩ : ByteArray) 0) else (some (([] : List (S45)), 13))) else (some (([] : List (S45)), bt286.2.2)))) = some (r1, r2) := h
  clear h
  replace H := Option.bind_eq_some_iff.mp H
  obtain ⟨⟨t286, t287, t288⟩, A20, H⟩ := H
  replace H : (if t288 = 0 then (if t287 = (a0.size : Int) then (ravelinref6_ReadBlock.l0 k a0 t286 ([] : List (S45)) (⟨#[]⟩ : ByteArray) 0) else (some (([] : List (S45)), 13))) else (some (([] : List (S45)), t288))) = some (r1, r2) := H
  have A2 := Aside0.mk A20
  clear A20
  by_cases c3 : t288 = 0
  · rw [if_pos c3] at H
    have c3b0 : (t288 == 0) = true := beq_iff_eq.mpr c3
    have c3b1 : (t288 != 0) = false := bne_eq_false_iff_eq.mpr c3
    clear c3
    by_cases c4 : t287 = (a0.size : Int)
    · rw [if_pos c4] at H
      have c4b0 : (t287 == (a0.size : Int)) = true := beq_iff_eq.mpr c4
      have c4b1 : (t287 != (a0.size : Int)) = false := bne_eq_false_iff_eq.mpr c4
      clear c4
      have H' := Aside0.mk H
      clear H
      go_enter Try.func12, Try.ntmps12
      go_wp2_with (first | ((with_reducible refine gate_callee (f := 16) rfl ?_); refine goesL_ (some 23) rfl rfl Try.func16 (by kernel_rfl) rfl #[.string a0] rfl (by (try simp only [List.map_toArray, List.map_cons, List.map_nil]); first | done | rfl | (simp only [List.length_drop, List.length_take]; rfl)) ?_; (with_reducible refine (ravelinref3_Open.calls k a0 t286 t287 t288 _ A2.out).mono ?_); rintro e w5 ⟨rfl, hb⟩; refine ⟨_, rfl, ?_⟩; have n0_ := Aside0.mk (below_step (by repeat (first | (with_reducible first | exact HB.out | apply below_alloc | apply pw_below_drewN | apply below_drew1) | exact HB.out)) hb); clear HB; have HB := n0_; clear n0_; (try clear hb); (try clear hb2); (try clear hk); (try clear hi)))
      go_loopg [7, 8, 9] k (fun kq v7 v8 v9 w' => ∃ (x7_1 : List (S45)) (x8_1 : ByteArray) (x9_1 : Int), v8 = .string x8_1 ∧ v9 = .int .i64 x9_1 ∧ Aside0 (ravelinref6_ReadBlock.l0 kq a0 t286 x7_1 x8_1 x9_1 = some (r1, r2)) ∧ Aside0 (kq ≤ k) ∧ Aside0 (Kd.R k45 45 w' w.heap.size (fun _ => True) v7 x7_1) ∧ Aside0 (Below w.heap.size w w'))
      case atStart => exact ⟨(([] : List (S45))), ((⟨#[]⟩ : ByteArray)), (0), (by first | rfl | (simp; done) | (simp [*]; done)), (by first | rfl | (simp; done) | (simp [*]; done)), H', ⟨Nat.le_refl _⟩, ⟨by first | exact Kd.R_nil _ _ _ _ _ | exact Kd.N_nil _ _ _ _ _ | exact Kd.V_nil _ _ _ _ _ | exact Kd.Q_nil _ _ _ _ _ | exact Kd.S_nil _ _ _ _ _⟩, ⟨by repeat (first | (with_reducible first | exact HB.out | apply below_alloc | apply pw_below_drewN | apply below_drew1) | exact HB.out)⟩⟩
      case round =>
        clear H'
        try clear c1
        try clear p2
        try clear c3
        try clear c3b0
        try clear c3b1
        try clear c4
        try clear c4b0
        try clear c4b1
        obtain ⟨x7_1, x8_1, x9_1, rfl, rfl, HA, HK1, HO_7, HB⟩ := hrel
        cases gk with
        | zero => exact absurd HA.out (by simp [ravelinref6_ReadBlock.l0])
        | succ k1 =>
          have H := HA.out
          clear HA
          simp only [ravelinref6_ReadBlock.l0] at H
          by_cases c6 : x9_1 < (t286.size : Int)
          · rw [if_pos c6] at H
            have c6b0 : decide (x9_1 < (t286.size : Int)) = true := decide_eq_true c6
            clear c6
            by_cases c7 : 0 ≤ x9_1
            · rw [if_pos c7] at H
              have c7b0 := eq_true c7
              have c7b1 : decide (0 ≤ x9_1) = true := decide_eq_true c7
              clear c7
              by_cases c8 : x9_1 ≤ (t286.size : Int)
              · rw [if_pos c8] at H
                have c8b0 := eq_true c8
                have c8b1 : decide (x9_1 ≤ (t286.size : Int)) = true := decide_eq_true c8
                clear c8
                replace H := Option.bind_eq_some_iff.mp H
                obtain ⟨⟨t291, t292, t293⟩, A90, H⟩ := H
                replace H : (if t293 = 0 then (ravelinref6_ReadBlock.j1 k1 a0 t286 x7_1 x8_1 x9_1 t291 t292 (decide (t291 > (x8_1.size : Int)))) else (ravelinref6_ReadBlock.j1 k1 a0 t286 x7_1 x8_1 x9_1 t291 t292 true)) = some (r1, r2) := H
                have A9 := Aside0.mk A90
                clear A90
                have HC10 := Aside0.mk H
                clear H
                go_upto_region 11 with (first | ((with_reducible refine gate_callee (f := 29) rfl ?_); refine goesL_ (some 42) rfl rfl Try.func29 (by kernel_rfl) rfl #[.string (t286.extract (x9_1 : Int).toNat t286.size)] rfl (by (try simp only [List.map_toArray, List.map_cons, List.map_nil]); first | done | rfl | (simp only [List.length_drop, List.length_take]; rfl)) ?_; (with_reducible refine (ravelinref3_TakeNum.calls k1 (t286.extract (x9_1 : Int).toNat t286.size) t291 t292 t293 _ A9.out).mono ?_); rintro e w' ⟨rfl, ⟨nd, rfl⟩⟩; refine ⟨_, rfl, ?_⟩))
                (try simp only [Act.put, List.setIfInBounds_toArray, List.set_cons_zero, List.set_cons_succ])
                go_cut [53] (fun v53 wc => ∃ (kq : Nat) (x53_9 : Bool), v53 = .bool x53_9 ∧ Aside0 (ravelinref6_ReadBlock.j1 kq a0 t286 x7_1 x8_1 x9_1 t291 t292 x53_9 = some (r1, r2)) ∧ Aside0 (kq ≤ k1) ∧ Aside0 (Kd.R k45 45 wc w.heap.size (fun _ => True) u7 x7_1) ∧ Aside0 (Below w.heap.size w wc))
                case first =>
                  have H := HC10.out
                  clear HC10
                  by_cases c11 : t293 = 0
                  · rw [if_pos c11] at H
                    have c11b0 : (t293 == 0) = true := beq_iff_eq.mpr c11
                    have c11b1 : (t293 != 0) = false := bne_eq_false_iff_eq.mpr c11
                    clear c11
                    (first | rw [c11b0] | (simp only [i64_w, i32_w]; rw [c11b0]) | skip)
                    have H' := Aside0.mk H
                    clear H
                    go_wp2
                    go_meet
                    case rel => exact ⟨_, (decide (t291 > (x8_1.size : Int))), (by first | rfl | (simp; done) | (simp [*]; done)), H', ⟨by have := HK1.out; first | omega | exact Nat.le_refl _⟩, ⟨by (with_reducible repeat (first | apply Kd.R_alloc | apply Kd.R_drewN | apply Kd.R_drew)); exact HO_7.out⟩, ⟨by repeat (first | (with_reducible first | exact HB.out | apply below_alloc | apply pw_below_drewN | apply below_drew1) | exact HB.out)⟩⟩
                  · rw [if_neg c11] at H
                    have c11b0 : (t293 == 0) = false := beq_eq_false_iff_ne.mpr c11
                    have c11b1 : (t293 != 0) = true := bne_iff_ne.mpr c11
                    (first | rw [c11b0] | (simp only [i64_w, i32_w]; rw [c11b0]) | skip)
                    have H' := Aside0.mk H
                    clear H
                    go_wp2
                    go_meet
                    case rel => exact ⟨_, (true), (by first | rfl | (simp; done) | (simp [*]; done)), H', ⟨by have := HK1.out; first | omega | exact Nat.le_refl _⟩, ⟨by (with_reducible repeat (first | apply Kd.R_alloc | apply Kd.R_drewN | apply Kd.R_drew)); exact HO_7.out⟩, ⟨by repeat (first | (with_reducible first | exact HB.out | apply below_alloc | apply pw_below_drewN | apply below_drew1) | exact HB.out)⟩⟩
                case rest =>
                  clear HC10
                  try clear c1
                  try clear c2
                  try clear p2
                  try clear c3
                  try clear c3b0
                  try clear c3b1
                  try clear c4
                  try clear c4b0
                  try clear c4b1
                  try clear c6
                  try clear c6b0
                  try clear c7
                  try clear c7b0
                  try clear c7b1
                  try clear c8
                  try clear c8b0
                  try clear c8b1
                  try clear c11
                  try clear c11b0
                  try clear c11b1
                  try clear p2
                  obtain ⟨kq, x53_9, rfl, HA, HJ9, HO_7, HB⟩ := hcut
                  cases kq with
                  | zero => exact absurd HA.out (by simp [ravelinref6_ReadBlock.j1])
                  | succ kj9 =>
                    have H := HA.out
                    clear HA
                    simp only [ravelinref6_ReadBlock.j1] at H
                    by_cases c12 : x53_9 = true
                    · subst c12
                      have H1 : (some (([] : List (S45)), 10)) = some (r1, r2) := by rw [if_pos rfl] at H; exact H
                      clear H
                      have H := H1
                      clear H1
                      simp only [Option.some.injEq, Prod.mk.injEq] at H
                      obtain ⟨rfl, rfl⟩ := H
                      go_wp2
                      go_ret2
                      exact ⟨_, by first | rfl | (simp [errW_none, errW_some] <;> rfl) | (simp [*, errW_none, errW_some] <;> rfl), by first | exact Kd.R_nil _ _ _ _ _ | exact Kd.N_nil _ _ _ _ _ | exact Kd.V_nil _ _ _ _ _ | exact Kd.Q_nil _ _ _ _ _ | exact Kd.S_nil _ _ _ _ _, by repeat (first | (with_reducible first | exact HB.out | apply below_alloc | apply pw_below_drewN | apply below_drew1) | exact HB.out)⟩
                    · replace c12 := Bool.eq_false_iff.mpr c12
                      subst c12
                      have H1 : (if 0 ≤ (wrap64 (x9_1 + t292)) then (if (wrap64 (x9_1 + t292)) ≤ (t286.size : Int) then ((ravelinref3_TakeText.f kj9 (t286.extract ((wrap64 (x9_1 + t292)) : Int).toNat t286.size)).bind fun bt294 => (if bt294.2.2 = 0 then (if 0 ≤ t291 then (if t291 ≤ (x8_1.size : Int) then (if (x8_1.extract 0 (t291 : Int).toNat).size + bt294.1.size ≤ 9223372036854775807 then (if 0 ≤ (wrap64 ((wrap64 (x9_1 + t292)) + bt294.2.1)) then (if (wrap64 ((wrap64 (x9_1 + t292)) + bt294.2.1)) ≤ (t286.size : Int) then ((ravelinref6_tail.f kj9 ((x8_1.extract 0 (t291 : Int).toNat) ++ bt294.1) (t286.extract ((wrap64 ((wrap64 (x9_1 + t292)) + bt294.2.1)) : Int).toNat t286.size)).bind fun bt297 => (if bt297.2.2.2.2.2 = 0 then (if x7_1.length < 2932031007402 then (ravelinref6_ReadBlock.l0 kj9 a0 t286 (x7_1 ++ [(⟨bt297.1, bt297.2.1, bt297.2.2.1, bt297.2.2.2.1⟩ : S45)]) bt297.1 (wrap64 ((wrap64 ((wrap64 (x9_1 + t292)) + bt294.2.1)) + bt297.2.2.2.2.1))) else (none)) else (some (([] : List (S45)), 10)))) else (none)) else (none)) else (none)) else (none)) else (none)) else (some (([] : List (S45)), 10)))) else (none)) else (none)) = some (r1, r2) := by rw [if_neg (show ¬ (false = true) by decide)] at H; exact H
                      clear H
                      have H := H1
                      clear H1
                      obtain ⟨ji13, hji13⟩ : ∃ j_ : Int, (wrap64 (x9_1 + t292)) = j_ := ⟨_, rfl⟩
                      replace H : (if 0 ≤ (ji13) then (if (ji13) ≤ (t286.size : Int) then ((ravelinref3_TakeText.f kj9 (t286.extract ((ji13) : Int).toNat t286.size)).bind fun bt294 => (if bt294.2.2 = 0 then (if 0 ≤ t291 then (if t291 ≤ (x8_1.size : Int) then (if (x8_1.extract 0 (t291 : Int).toNat).size + bt294.1.size ≤ 9223372036854775807 then (if 0 ≤ (wrap64 ((ji13) + bt294.2.1)) then (if (wrap64 ((ji13) + bt294.2.1)) ≤ (t286.size : Int) then ((ravelinref6_tail.f kj9 ((x8_1.extract 0 (t291 : Int).toNat) ++ bt294.1) (t286.extract ((wrap64 ((ji13) + bt294.2.1)) : Int).toNat t286.size)).bind fun bt297 => (if bt297.2.2.2.2.2 = 0 then (if x7_1.length < 2932031007402 then (ravelinref6_ReadBlock.l0 kj9 a0 t286 (x7_1 ++ [(⟨bt297.1, bt297.2.1, bt297.2.2.1, bt297.2.2.2.1⟩ : S45)]) bt297.1 (wrap64 ((wrap64 ((ji13) + bt294.2.1)) + bt297.2.2.2.2.1))) else (none)) else (some (([] : List (S45)), 10)))) else (none)) else (none)) else (none)) else (none)) else (none)) else (some (([] : List (S45)), 10)))) else (none)) else (none)) = some (r1, r2) := by first | (rw [hji13] at H; exact H) | (simp only [hji13] at H ⊢; exact H)
                      have hji13w : (IntKind.i64.wrap (x9_1 + t292)) = ji13 := (i64_w _).trans hji13
                      by_cases c14 : 0 ≤ (ji13)
                      · rw [if_pos c14] at H
                        have c14b0 := eq_true c14
                        have c14b1 : decide (0 ≤ (ji13)) = true := decide_eq_true c14
                        clear c14
                        by_cases c15 : (ji13) ≤ (t286.size : Int)
                        · rw [if_pos c15] at H
                          have c15b0 := eq_true c15
                          have c15b1 : decide ((ji13) ≤ (t286.size : Int)) = true := decide_eq_true c15
                          clear c15
                          replace H := Option.bind_eq_some_iff.mp H
                          obtain ⟨⟨t294, t295, t296⟩, A160, H⟩ := H
                          replace H : (if t296 = 0 then (if 0 ≤ t291 then (if t291 ≤ (x8_1.size : Int) then (if (x8_1.extract 0 (t291 : Int).toNat).size + t294.size ≤ 9223372036854775807 then (if 0 ≤ (wrap64 ((ji13) + t295)) then (if (wrap64 ((ji13) + t295)) ≤ (t286.size : Int) then ((ravelinref6_tail.f kj9 ((x8_1.extract 0 (t291 : Int).toNat) ++ t294) (t286.extract ((wrap64 ((ji13) + t295)) : Int).toNat t286.size)).bind fun bt297 => (if bt297.2.2.2.2.2 = 0 then (if x7_1.length < 2932031007402 then (ravelinref6_ReadBlock.l0 kj9 a0 t286 (x7_1 ++ [(⟨bt297.1, bt297.2.1, bt297.2.2.1, bt297.2.2.2.1⟩ : S45)]) bt297.1 (wrap64 ((wrap64 ((ji13) + t295)) + bt297.2.2.2.2.1))) else (none)) else (some (([] : List (S45)), 10)))) else (none)) else (none)) else (none)) else (none)) else (none)) else (some (([] : List (S45)), 10))) = some (r1, r2) := H
                          have A16 := Aside0.mk A160
                          clear A160
                          by_cases c17 : t296 = 0
                          · rw [if_pos c17] at H
                            have c17b0 : (t296 == 0) = true := beq_iff_eq.mpr c17
                            have c17b1 : (t296 != 0) = false := bne_eq_false_iff_eq.mpr c17
                            clear c17
                            by_cases c18 : 0 ≤ t291
                            · rw [if_pos c18] at H
                              have c18b0 := eq_true c18
                              have c18b1 : decide (0 ≤ t291) = true := decide_eq_true c18
                              clear c18
                              by_cases c19 : t291 ≤ (x8_1.size : Int)
                              · rw [if_pos c19] at H
                                have c19b0 := eq_true c19
                                have c19b1 : decide (t291 ≤ (x8_1.size : Int)) = true := decide_eq_true c19
                                clear c19
                                by_cases c20 : (x8_1.extract 0 (t291 : Int).toNat).size + t294.size ≤ 9223372036854775807
                                · rw [if_pos c20] at H
                                  have c20b0 := eq_true c20
                                  have c20b1 : decide ((x8_1.extract 0 (t291 : Int).toNat).size + t294.size ≤ 9223372036854775807) = true := decide_eq_true c20
                                  (try (have e_ : (x8_1.extract 0 (t291 : Int).toNat).size = (t291 : Int).toNat := (by have h_ := of_decide_eq_true c19b1; rw [ByteArray.size_extract]; omega); have c20b1e := c20b1; rw [e_] at c20b1e; clear e_))
                                  try have c20b2 : (9223372036854775807 < (x8_1.extract 0 (t291 : Int).toNat).size + t294.size) = False := eq_false (Nat.not_lt.2 c20)
                                  (try (have e_ : (x8_1.extract 0 (t291 : Int).toNat).size = (t291 : Int).toNat := (by have h_ := of_decide_eq_true c19b1; rw [ByteArray.size_extract]; omega); have c20b2e := c20b2; rw [e_] at c20b2e; clear e_))
                                  obtain ⟨ji21, hji21⟩ : ∃ j_ : Int, (wrap64 ((ji13) + t295)) = j_ := ⟨_, rfl⟩
                                  replace H : (if 0 ≤ (ji21) then (if (ji21) ≤ (t286.size : Int) then ((ravelinref6_tail.f kj9 ((x8_1.extract 0 (t291 : Int).toNat) ++ t294) (t286.extract ((ji21) : Int).toNat t286.size)).bind fun bt297 => (if bt297.2.2.2.2.2 = 0 then (if x7_1.length < 2932031007402 then (ravelinref6_ReadBlock.l0 kj9 a0 t286 (x7_1 ++ [(⟨bt297.1, bt297.2.1, bt297.2.2.1, bt297.2.2.2.1⟩ : S45)]) bt297.1 (wrap64 ((ji21) + bt297.2.2.2.2.1))) else (none)) else (some (([] : List (S45)), 10)))) else (none)) else (none)) = some (r1, r2) := by first | (rw [hji21] at H; exact H) | (simp only [hji21] at H ⊢; exact H)
                                  (try rw [hji21] at A16)
                                  have hji21w : (IntKind.i64.wrap ((ji13) + t295)) = ji21 := (i64_w _).trans hji21
                                  by_cases c22 : 0 ≤ (ji21)
                                  · rw [if_pos c22] at H
                                    have c22b0 := eq_true c22
                                    have c22b1 : decide (0 ≤ (ji21)) = true := decide_eq_true c22
                                    clear c22
                                    by_cases c23 : (ji21) ≤ (t286.size : Int)
                                    · rw [if_pos c23] at H
                                      have c23b0 := eq_true c23
                                      have c23b1 : decide ((ji21) ≤ (t286.size : Int)) = true := decide_eq_true c23
                                      clear c23
                                      replace H := Option.bind_eq_some_iff.mp H
                                      obtain ⟨⟨t297, t298, t299, t300, t301, t302⟩, A240, H⟩ := H
                                      replace H : (if t302 = 0 then (if x7_1.length < 2932031007402 then (ravelinref6_ReadBlock.l0 kj9 a0 t286 (x7_1 ++ [(⟨t297, t298, t299, t300⟩ : S45)]) t297 (wrap64 ((ji21) + t301))) else (none)) else (some (([] : List (S45)), 10))) = some (r1, r2) := H
                                      have A24 := Aside0.mk A240
                                      clear A240
                                      by_cases c25 : t302 = 0
                                      · rw [if_pos c25] at H
                                        have c25b0 : (t302 == 0) = true := beq_iff_eq.mpr c25
                                        have c25b1 : (t302 != 0) = false := bne_eq_false_iff_eq.mpr c25
                                        clear c25
                                        by_cases c26 : x7_1.length < 2932031007402
                                        · rw [if_pos c26] at H
                                          have LMc26 := Aside0.mk c26
                                          clear c26
                                          obtain ⟨y304, hy304⟩ : ∃ y_ : List (S45), y_ = (x7_1 ++ [(⟨t297, t298, t299, t300⟩ : S45)]) := ⟨_, rfl⟩
                                          replace H : (ravelinref6_ReadBlock.l0 kj9 a0 t286 y304 t297 (wrap64 ((ji21) + t301))) = some (r1, r2) := by first | (rw [hy304]; with_reducible exact H) | (have H2_ := (Option.bind_some _ _).symm.trans H; rw [hy304]; with_reducible exact H2_) | (have H2_ := (Option.bind_some _ _).symm.trans H; with_reducible exact H2_) | with_reducible exact H | (rw [hy304]; exact H) | exact H
                                          have Ny304 := Aside0.mk hy304
                                          clear hy304
                                          have H' := Aside0.mk H
                                          clear H
                                          try go_wp2_with (first | ((with_reducible refine gate_callee (f := 30) rfl ?_); refine goesL_ (some 60) rfl rfl Try.func30 (by kernel_rfl) rfl #[.string (t286.extract ((ji13) : Int).toNat t286.size)] rfl (by (try simp only [List.map_toArray, List.map_cons, List.map_nil]); first | done | (simp only [hji13]; rfl) | rfl | (simp only [List.length_drop, List.length_take]; rfl)) ?_; (with_reducible refine (ravelinref3_TakeText.calls kj9 (t286.extract ((ji13) : Int).toNat t286.size) t294 t295 t296 _ A16.out).mono ?_); rintro e w' ⟨rfl, ⟨nd, rfl⟩⟩; refine ⟨_, rfl, ?_⟩; (try (rw [drewN_self wc]; generalize hq_ : World.drewN wc _ = wc; have n0_ : Aside0 (Kd.R k45 45 wc w.heap.size (fun _ => True) u7 x7_1) := ⟨by rw [← hq_]; exact (by (with_reducible repeat (first | apply Kd.R_alloc | apply Kd.R_drewN | apply Kd.R_drew)); exact HO_7.out)⟩; have n1_ : Aside0 (Below w.heap.size w wc) := ⟨by rw [← hq_]; exact (by repeat (first | (with_reducible first | exact HB.out | apply below_alloc | apply pw_below_drewN | apply below_drew1) | exact HB.out))⟩; clear HO_7 HB hq_; have HO_7 := n0_; have HB := n1_; clear n0_ n1_))))
                                          have n0_ := Aside0.mk (Kd.R_drew HO_7.out)
                                          have n1_ := Aside0.mk (below_drew1 HB.out)
                                          clear HO_7
                                          clear HB
                                          have HO_7 := n0_
                                          have HB := n1_
                                          clear n0_ n1_
                                          refine start_ (n := 21) (S := fun w' => True) (ds := []) #[false, false, false, false, false, false, false, false, false, false, false, false, false, false, false, false, false, false, false, false, false] (by kernel_rfl) rfl rfl trivial (fun hHeld => ?_); refine with_tabW ravelinref6_ReadBlock.tab16 ravelinref6_ReadBlock.bits16 (fun HT_ HW_ => ?_)
                                          generalize wc.drew = w27 at HO_7 HB hHeld ⊢
                                          refine pure_ (i := 0) (N := some 67) (v := ?_) (a' := ?_) #[true, false, false, false, false, false, false, false, false, false, false, false, false, false, false, false, false, false, false, false, false] rfl rfl (any_of HT_.out (by kernel_rfl)) (fun _ _ _ h => h) (Or.inl ⟨by rfl, ?_⟩) ?_ ?_
                                          rotate_left
                                          · intro w'
                                            go_simp
                                            with_reducible rfl
                                          rotate_left
                                          · simp only [Act.put, List.setIfInBounds_toArray, List.set_cons_zero, List.set_cons_succ, i64_w, i32_w]
                                            rfl
                                          refine pure_ (i := 1) (N := some 68) (v := ?_) (a' := ?_) #[true, true, false, false, false, false, false, false, false, false, false, false, false, false, false, false, false, false, false, false, false] rfl rfl (any_of HT_.out (by kernel_rfl)) (fun _ _ _ h => h) (Or.inl ⟨by rfl, ?_⟩) ?_ ?_
                                          rotate_left
                                          · intro w'
                                            go_simp
                                            with_reducible rfl
                                          rotate_left
                                          · simp only [Act.put, List.setIfInBounds_toArray, List.set_cons_zero, List.set_cons_succ, i64_w, i32_w]
                                            rfl
                                          refine pure_ (i := 2) (N := some 69) (v := ?_) (a' := ?_) #[true, true, true, false, false, false, false, false, false, false, false, false, false, false, false, false, false, false, false, false, false] rfl rfl (any_of HT_.out (by kernel_rfl)) (fun _ _ _ h => h) (Or.inl ⟨by rfl, ?_⟩) ?_ ?_
                                          rotate_left
                                          · intro w'
                                            go_simp
                                            with_reducible rfl
                                          rotate_left
                                          · simp only [Act.put, List.setIfInBounds_toArray, List.set_cons_zero, List.set_cons_succ, i64_w, i32_w]
                                            rfl
                                          refine pure_ (i := 3) (N := some 70) (v := ?_) (a' := ?_) #[true, true, true, true, false, false, false, false, false, false, false, false, false, false, false, false, false, false, false, false, false] rfl rfl (any_of HT_.out (by kernel_rfl)) (fun _ _ _ h => h) (Or.inl ⟨by rfl, ?_⟩) ?_ ?_
                                          rotate_left
                                          · intro w'
                                            go_simp
                                            with_reducible rfl
                                          rotate_left
                                          · simp only [Act.put, List.setIfInBounds_toArray, List.set_cons_zero, List.set_cons_succ, i64_w, i32_w]
                                            rfl
                                          refine pure_ (i := 4) (N := some 71) (v := ?_) (a' := ?_) #[true, true, true, true, true, false, false, false, false, false, false, false, false, false, false, false, false, false, false, false, false] rfl rfl (any_of HT_.out (by kernel_rfl)) (fun _ _ _ h => h) (Or.inl ⟨by rfl, ?_⟩) ?_ ?_
                                          rotate_left
                                          · intro w'
                                            go_simp
                                            with_reducible rfl
                                          rotate_left
                                          · simp only [Act.put, List.setIfInBounds_toArray, List.set_cons_zero, List.set_cons_succ, i64_w, i32_w]
                                            rfl
                                          refine pure_ (i := 5) (N := some 72) (v := ?_) (a' := ?_) #[true, true, true, true, true, true, false, false, false, false, false, false, false, false, false, false, false, false, false, false, false] rfl rfl (any_of HT_.out (by kernel_rfl)) (fun _ _ _ h => h) (Or.inl ⟨by rfl, ?_⟩) ?_ ?_
                                          rotate_left
                                          · intro w'
                                            go_simp
                                            with_reducible rfl
                                          rotate_left
                                          · simp only [Act.put, List.setIfInBounds_toArray, List.set_cons_zero, List.set_cons_succ, i64_w, i32_w]
                                            rfl
                                          refine pure_ (i := 6) (N := some 73) (v := ?_) (a' := ?_) #[true, true, true, true, true, true, true, false, false, false, false, false, false, false, false, false, false, false, false, false, false] rfl rfl (any_of HT_.out (by kernel_rfl)) (fun _ _ _ h => h) (Or.inl ⟨by rfl, ?_⟩) ?_ ?_
                                          rotate_left
                                          · intro w'
                                            go_simp
                                            with_reducible rfl
                                          rotate_left
                                          · simp only [Act.put, List.setIfInBounds_toArray, List.set_cons_zero, List.set_cons_succ, i64_w, i32_w]
                                            rfl
                                          refine pure_ (i := 7) (N := some 74) (v := ?_) (a' := ?_) #[true, true, true, true, true, true, true, true, false, false, false, false, false, false, false, false, false, false, false, false, false] rfl rfl (any_of HT_.out (by kernel_rfl)) (fun _ _ _ h => h) (Or.inl ⟨by rfl, ?_⟩) ?_ ?_
                                          rotate_left
                                          · intro w'
                                            go_simp
                                            with_reducible rfl
                                          rotate_left
                                          · simp only [Act.put, List.setIfInBounds_toArray, List.set_cons_zero, List.set_cons_succ, i64_w, i32_w]
                                            rfl
                                          refine pure_ (i := 8) (N := some 75) (v := ?_) (a' := ?_) #[true, true, true, true, true, true, true, true, true, false, false, false, false, false, false, false, false, false, false, false, false] rfl rfl (any_of HT_.out (by kernel_rfl)) (fun _ _ _ h => h) (Or.inl ⟨by rfl, ?_⟩) ?_ ?_
                                          rotate_left
                                          · intro w'
                                            go_simp
                                            with_reducible rfl
                                          rotate_left
                                          · simp only [Act.put, List.setIfInBounds_toArray, List.set_cons_zero, List.set_cons_succ, i64_w, i32_w]
                                            rfl
                                          refine pure_ (i := 9) (N := some 76) (v := ?_) (a' := ?_) #[true, true, true, true, true, true, true, true, true, true, false, false, false, false, false, false, false, false, false, false, false] rfl rfl (any_of HT_.out (by kernel_rfl)) (fun _ _ _ h => h) (Or.inl ⟨by rfl, ?_⟩) ?_ ?_
                                          rotate_left
                                          · intro w'
                                            go_simp
                                            with_reducible rfl
                                          rotate_left
                                          · simp only [Act.put, List.setIfInBounds_toArray, List.set_cons_zero, List.set_cons_succ, i64_w, i32_w]
                                            rfl
                                          refine pure_ (i := 10) (N := some 77) (v := ?_) (a' := ?_) #[true, true, true, true, true, true, true, true, true, true, true, false, false, false, false, false, false, false, false, false, false] rfl rfl (any_of HT_.out (by kernel_rfl)) (fun _ _ _ h => h) (Or.inl ⟨by rfl, ?_⟩) ?_ ?_
                                          rotate_left
                                          · intro w'
                                            go_simp
                                            with_reducible rfl
                                          rotate_left
                                          · simp only [Act.put, List.setIfInBounds_toArray, List.set_cons_zero, List.set_cons_succ, i64_w, i32_w]
                                            rfl
                                          refine pure_ (i := 11) (N := some 78) (v := ?_) (a' := ?_) #[true, true, true, true, true, true, true, true, true, true, true, true, false, false, false, false, false, false, false, false, false] rfl rfl (any_of HT_.out (by kernel_rfl)) (fun _ _ _ h => h) (Or.inl ⟨by rfl, ?_⟩) ?_ ?_
                                          rotate_left
                                          · intro w'
                                            go_simp
                                            with_reducible rfl
                                          rotate_left
                                          · simp only [Act.put, List.setIfInBounds_toArray, List.set_cons_zero, List.set_cons_succ, i64_w, i32_w]
                                            rfl
                                          refine join_ (σ := Nat) 3 #[true, true, true, true, true, true, true, true, true, true, true, true, true, true, true, true, true, true, false, false, false] (fun s_ => [(79, .tuple #[.agg #[.string t297, .int .i64 t298, .bool t299, .string t300], .int .i64 t301, .int .i64 t302]), (16, .pointer (some ⟨s_, 0, none⟩)), (66, .tuple #[.agg #[.string t297, .int .i64 t298, .bool t299, .string t300], .int .i64 t301, .int .i64 t302]), (80, .agg #[.string t297, .int .i64 t298, .bool t299, .string t300]), (81, .int .i64 t301), (82, .int .i64 t302)]) (fun s_ w' => (Kd.R k45 45 w' w.heap.size (fun k_ => k_ ≠ s_) u7 x7_1) ∧ (w'.heap[s_]? = some (.cells #[.string (⟨#[]⟩ : ByteArray), .int .i64 0, .bool false, .string (⟨#[]⟩ : ByteArray)] 45 (0, 0))) ∧ (w.heap.size ≤ s_) ∧ (w.heap.size ≤ s_) ∧ (Below w.heap.size w w')) ?_ ?_
                                          rotate_left
                                          · intro hCont
                                            refine two_ (i := 12) (j := 17) (Ni := some 79) (Nj := some 16) #[true, true, true, true, true, true, true, true, true, true, true, true, true, false, false, false, false, false, false, false, false] #[true, true, true, true, true, true, true, true, true, true, true, true, false, false, false, false, false, true, false, false, false] rfl rfl rfl rfl (two_of HT_.out (by kernel_rfl)) (by decide) (by decide) (fun K hK => ?_) (fun K hK => ?_)
                                            · skip
                                              refine goes_ Try.func31 (by kernel_rfl) rfl #[.string ((x8_1.extract 0 (t291 : Int).toNat) ++ t294), .string (t286.extract ((ji21) : Int).toNat t286.size)] (by rfl) rfl rfl (by (try simp only [List.map_toArray, List.map_cons, List.map_nil]); first | done | (simp only [hji21]; rfl) | rfl | (simp only [List.length_drop, List.length_take]; rfl)) ?_
                                              with_reducible refine (ravelinref6_tail.calls kj9 ((x8_1.extract 0 (t291 : Int).toNat) ++ t294) (t286.extract ((ji21) : Int).toNat t286.size) t297 t298 t299 t300 t301 t302 _ A24.out).mono ?_
                                              rintro e w28 ⟨rfl, hb⟩
                                              refine ⟨_, rfl, ?_⟩
                                              have n0_ := Aside0.mk (Kd.R_below (by (with_reducible repeat (first | apply Kd.R_alloc | apply Kd.R_drewN | apply Kd.R_drew)); exact HO_7.out) hb)
                                              have n1_ := Aside0.mk (below_step (by repeat (first | (with_reducible first | exact HB.out | apply below_alloc | apply pw_below_drewN | apply below_drew1) | exact HB.out)) hb)
                                              clear HO_7
                                              clear HB
                                              have HO_7 := n0_
                                              have HB := n1_
                                              clear n0_ n1_
                                              (try clear hb)
                                              (try clear hb2)
                                              (try clear hk)
                                              (try clear hi)
                                              refine hK.out _ _ trivial (fun hHeld => ?_)
                                              clear hK K
                                              refine norm_ (a' := ?_) ?_ ?_
                                              rotate_left
                                              · show Act.put _ (some 79) _ = _
                                                simp only [Act.put, List.setIfInBounds_toArray, List.set_cons_zero, List.set_cons_succ, i64_w, i32_w]
                                                rfl
                                              refine pure_ (i := 13) (N := some 66) (v := ?_) (a' := ?_) #[true, true, true, true, true, true, true, true, true, true, true, true, true, true, false, false, false, false, false, false, false] rfl rfl (any_of HT_.out (by kernel_rfl)) (fun _ _ _ h => h) (Or.inl ⟨by rfl, ?_⟩) ?_ ?_
                                              rotate_left
                                              · intro w'
                                                go_simp
                                                with_reducible rfl
                                              rotate_left
                                              · simp only [Act.put, List.setIfInBounds_toArray, List.set_cons_zero, List.set_cons_succ, i64_w, i32_w]
                                                rfl
                                              refine pure_ (i := 14) (N := some 80) (v := ?_) (a' := ?_) #[true, true, true, true, true, true, true, true, true, true, true, true, true, true, true, false, false, false, false, false, false] rfl rfl (any_of HT_.out (by kernel_rfl)) (fun _ _ _ h => h) (Or.inl ⟨by rfl, ?_⟩) ?_ ?_
                                              rotate_left
                                              · intro w'
                                                go_simp
                                                with_reducible rfl
                                              rotate_left
                                              · simp only [Act.put, List.setIfInBounds_toArray, List.set_cons_zero, List.set_cons_succ, i64_w, i32_w]
                                                rfl
                                              refine pure_ (i := 15) (N := some 81) (v := ?_) (a' := ?_) #[true, true, true, true, true, true, true, true, true, true, true, true, true, true, true, true, false, false, false, false, false] rfl rfl (any_of HT_.out (by kernel_rfl)) (fun _ _ _ h => h) (Or.inl ⟨by rfl, ?_⟩) ?_ ?_
                                              rotate_left
                                              · intro w'
                                                go_simp
                                                with_reducible rfl
                                              rotate_left
                                              · simp only [Act.put, List.setIfInBounds_toArray, List.set_cons_zero, List.set_cons_succ, i64_w, i32_w]
                                                rfl
                                              refine pure_ (i := 16) (N := some 82) (v := ?_) (a' := ?_) #[true, true, true, true, true, true, true, true, true, true, true, true, true, true, true, true, true, false, false, false, false] rfl rfl (any_of HT_.out (by kernel_rfl)) (fun _ _ _ h => h) (Or.inl ⟨by rfl, ?_⟩) ?_ ?_
                                              rotate_left
                                              · intro w'
                                                go_simp
                                                with_reducible rfl
                                              rotate_left
                                              · simp only [Act.put, List.setIfInBounds_toArray, List.set_cons_zero, List.set_cons_succ, i64_w, i32_w]
                                                rfl
                                              refine one_ (i := 17) (N := some 16) #[true, true, true, true, true, true, true, true, true, true, true, true, true, true, true, true, true, true, false, false, false] rfl rfl (one_of HT_.out (by kernel_rfl)) (by decide) (fun K hK => ?_)
                                              refine box_step ?hg (N := 16) ?hd (cs := #[.string (⟨#[]⟩ : ByteArray), .int .i64 0, .bool false, .string (⟨#[]⟩ : ByteArray)]) (t := 45) ?hr ?_; (case hd => rfl); (case hg => rfl); (case hr => first | (go_simp; done) | (go_simp; rfl))
                                              intro gb303 hg w29 hbox hb
                                              have n0_ := Aside0.mk (Kd.R_below (Kd.R_elderB (by (with_reducible repeat (first | apply Kd.R_alloc | apply Kd.R_drewN | apply Kd.R_drew)); exact HO_7.out) gb303 (Nat.le_of_eq hg.symm)) hb)
                                              have n1_ := Aside0.mk (below_step (by repeat (first | (with_reducible first | exact HB.out | apply below_alloc | apply pw_below_drewN | apply below_drew1) | exact HB.out)) hb)
                                              have n2_ := Aside0.mk (hbox)
                                              have n3_ := Aside0.mk ((by rw [hg]; exact (below_size (by repeat (first | (with_reducible first | exact HB.out | apply below_alloc | apply pw_below_drewN | apply below_drew1) | exact HB.out))) : w.heap.size ≤ gb303))
                                              have n4_ := Aside0.mk ((by rw [hg]; exact (below_size (by repeat (first | (with_reducible first | exact HB.out | apply below_alloc | apply pw_below_drewN | apply below_drew1) | exact HB.out))) : w.heap.size ≤ gb303))
                                              clear HO_7
                                              clear HB
                                              have HO_7 := n0_
                                              have HB := n1_
                                              have BK303 := n2_
                                              have GW303 := n3_
                                              have GE303 := n4_
                                              clear n0_ n1_ n2_ n3_ n4_
                                              clear hb hbox hg
                                              refine hK.out _ _ trivial (fun hHeld => ?_)
                                              clear hK K
                                              refine norm_ (a' := ?_) ?_ ?_
                                              rotate_left
                                              · show Act.put _ (some 16) _ = _
                                                simp only [Act.put, List.setIfInBounds_toArray, List.set_cons_zero, List.set_cons_succ, i64_w, i32_w]
                                                rfl
                                              exact norm_ (by simp only [putAll, Act.put, List.setIfInBounds_toArray, List.set_cons_zero, List.set_cons_succ]) (hCont (gb303) _ ⟨(by (with_reducible repeat (first | apply Kd.R_alloc | apply Kd.R_drewN | apply Kd.R_drew)); exact Kd.R_mono HO_7.out (fun _ hk => hk.2)), (by (with_reducible repeat (first | refine blk_drewN ?_ _ | refine blk_drew ?_ | refine blk_alloc ?_ _)); exact BK303.out), GW303.out, GE303.out, (by repeat (first | (with_reducible first | exact HB.out | apply below_alloc | apply pw_below_drewN | apply below_drew1 | refine below_set ?_ GE303.out) | exact HB.out))⟩)
                                            · skip
                                              refine box_step ?hg (N := 16) ?hd (cs := #[.string (⟨#[]⟩ : ByteArray), .int .i64 0, .bool false, .string (⟨#[]⟩ : ByteArray)]) (t := 45) ?hr ?_; (case hd => rfl); (case hg => rfl); (case hr => first | (go_simp; done) | (go_simp; rfl))
                                              intro gb303 hg w28 hbox hb
                                              have n0_ := Aside0.mk (Kd.R_below (Kd.R_elderB (by (with_reducible repeat (first | apply Kd.R_alloc | apply Kd.R_drewN | apply Kd.R_drew)); exact HO_7.out) gb303 (Nat.le_of_eq hg.symm)) hb)
                                              have n1_ := Aside0.mk (below_step (by repeat (first | (with_reducible first | exact HB.out | apply below_alloc | apply pw_below_drewN | apply below_drew1) | exact HB.out)) hb)
                                              have n2_ := Aside0.mk (hbox)
                                              have n3_ := Aside0.mk ((by rw [hg]; exact (below_size (by repeat (first | (with_reducible first | exact HB.out | apply below_alloc | apply pw_below_drewN | apply below_drew1) | exact HB.out))) : w.heap.size ≤ gb303))
                                              have n4_ := Aside0.mk ((by rw [hg]; exact (below_size (by repeat (first | (with_reducible first | exact HB.out | apply below_alloc | apply pw_below_drewN | apply below_drew1) | exact HB.out))) : w.heap.size ≤ gb303))
                                              clear HO_7
                                              clear HB
                                              have HO_7 := n0_
                                              have HB := n1_
                                              have BK303 := n2_
                                              have GW303 := n3_
                                              have GE303 := n4_
                                              clear n0_ n1_ n2_ n3_ n4_
                                              clear hb hbox hg
                                              refine hK.out _ _ trivial (fun hHeld => ?_)
                                              clear hK K
                                              refine norm_ (a' := ?_) ?_ ?_
                                              rotate_left
                                              · show Act.put _ (some 16) _ = _
                                                simp only [Act.put, List.setIfInBounds_toArray, List.set_cons_zero, List.set_cons_succ, i64_w, i32_w]
                                                rfl
                                              refine one_ (i := 12) (N := some 79) #[true, true, true, true, true, true, true, true, true, true, true, true, true, false, false, false, false, true, false, false, false] rfl rfl (one_of HT_.out (by kernel_rfl)) (by decide) (fun K hK => ?_)
                                              refine goes_ Try.func31 (by kernel_rfl) rfl #[.string ((x8_1.extract 0 (t291 : Int).toNat) ++ t294), .string (t286.extract ((ji21) : Int).toNat t286.size)] (by rfl) rfl rfl (by (try simp only [List.map_toArray, List.map_cons, List.map_nil]); first | done | (simp only [hji21]; rfl) | rfl | (simp only [List.length_drop, List.length_take]; rfl)) ?_
                                              with_reducible refine (ravelinref6_tail.calls kj9 ((x8_1.extract 0 (t291 : Int).toNat) ++ t294) (t286.extract ((ji21) : Int).toNat t286.size) t297 t298 t299 t300 t301 t302 _ A24.out).mono ?_
                                              rintro e w29 ⟨rfl, hb⟩
                                              refine ⟨_, rfl, ?_⟩
                                              have n0_ := Aside0.mk (Kd.R_below (by (with_reducible repeat (first | apply Kd.R_alloc | apply Kd.R_drewN | apply Kd.R_drew)); exact HO_7.out) hb)
                                              have n1_ := Aside0.mk (blk_below (g := gb303) (o := .cells #[.string (⟨#[]⟩ : ByteArray), .int .i64 0, .bool false, .string (⟨#[]⟩ : ByteArray)] 45 (0, 0)) (by (with_reducible repeat (first | refine blk_drewN ?_ _ | refine blk_drew ?_ | refine blk_alloc ?_ _)); exact BK303.out) hb)
                                              have n2_ := Aside0.mk (below_step (by repeat (first | (with_reducible first | exact HB.out | apply below_alloc | apply pw_below_drewN | apply below_drew1 | refine below_set ?_ GE303.out) | exact HB.out)) hb)
                                              clear HO_7
                                              clear BK303
                                              clear HB
                                              have HO_7 := n0_
                                              have BK303 := n1_
                                              have HB := n2_
                                              clear n0_ n1_ n2_
                                              (try clear hb)
                                              (try clear hb2)
                                              (try clear hk)
                                              (try clear hi)
                                              refine hK.out _ _ trivial (fun hHeld => ?_)
                                              clear hK K
                                              refine norm_ (a' := ?_) ?_ ?_
                                              rotate_left
                                              · show Act.put _ (some 79) _ = _
                                                simp only [Act.put, List.setIfInBounds_toArray, List.set_cons_zero, List.set_cons_succ, i64_w, i32_w]
                                                rfl
                                              refine pure_ (i := 13) (N := some 66) (v := ?_) (a' := ?_) #[true, true, true, true, true, true, true, true, true, true, true, true, true, true, false, false, false, true, false, false, false] rfl rfl (any_of HT_.out (by kernel_rfl)) (fun _ _ _ h => h) (Or.inl ⟨by rfl, ?_⟩) ?_ ?_
                                              rotate_left
                                              · intro w'
                                                go_simp
                                                with_reducible rfl
                                              rotate_left
                                              · simp only [Act.put, List.setIfInBounds_toArray, List.set_cons_zero, List.set_cons_succ, i64_w, i32_w]
                                                rfl
                                              refine pure_ (i := 14) (N := some 80) (v := ?_) (a' := ?_) #[true, true, true, true, true, true, true, true, true, true, true, true, true, true, true, false, false, true, false, false, false] rfl rfl (any_of HT_.out (by kernel_rfl)) (fun _ _ _ h => h) (Or.inl ⟨by rfl, ?_⟩) ?_ ?_
                                              rotate_left
                                              · intro w'
                                                go_simp
                                                with_reducible rfl
                                              rotate_left
                                              · simp only [Act.put, List.setIfInBounds_toArray, List.set_cons_zero, List.set_cons_succ, i64_w, i32_w]
                                                rfl
                                              refine pure_ (i := 15) (N := some 81) (v := ?_) (a' := ?_) #[true, true, true, true, true, true, true, true, true, true, true, true, true, true, true, true, false, true, false, false, false] rfl rfl (any_of HT_.out (by kernel_rfl)) (fun _ _ _ h => h) (Or.inl ⟨by rfl, ?_⟩) ?_ ?_
                                              rotate_left
                                              · intro w'
                                                go_simp
                                                with_reducible rfl
                                              rotate_left
                                              · simp only [Act.put, List.setIfInBounds_toArray, List.set_cons_zero, List.set_cons_succ, i64_w, i32_w]
                                                rfl
                                              refine pure_ (i := 16) (N := some 82) (v := ?_) (a' := ?_) #[true, true, true, true, true, true, true, true, true, true, true, true, true, true, true, true, true, true, false, false, false] rfl rfl (any_of HT_.out (by kernel_rfl)) (fun _ _ _ h => h) (Or.inl ⟨by rfl, ?_⟩) ?_ ?_
                                              rotate_left
                                              · intro w'
                                                go_simp
                                                with_reducible rfl
                                              rotate_left
                                              · simp only [Act.put, List.setIfInBounds_toArray, List.set_cons_zero, List.set_cons_succ, i64_w, i32_w]
                                                rfl
                                              exact norm_ (by simp only [putAll, Act.put, List.setIfInBounds_toArray, List.set_cons_zero, List.set_cons_succ]) (hCont (gb303) _ ⟨(by (with_reducible repeat (first | apply Kd.R_alloc | apply Kd.R_drewN | apply Kd.R_drew)); exact Kd.R_mono HO_7.out (fun _ hk => hk.2)), (by (with_reducible repeat (first | refine blk_drewN ?_ _ | refine blk_drew ?_ | refine blk_alloc ?_ _)); exact BK303.out), GW303.out, GE303.out, (by repeat (first | (with_reducible first | exact HB.out | apply below_alloc | apply pw_below_drewN | apply below_drew1 | refine below_set ?_ GE303.out) | exact HB.out))⟩)
                                          rintro gb303 w30 ⟨h0_, h1_, h2_, h3_, h4_⟩
                                          have n0_ : Aside0 (Kd.R k45 45 w30 w.heap.size (fun k_ => k_ ≠ gb303) u7 x7_1) := ⟨h0_⟩
                                          have n1_ : Aside0 (w30.heap[gb303]? = some (.cells #[.string (⟨#[]⟩ : ByteArray), .int .i64 0, .bool false, .string (⟨#[]⟩ : ByteArray)] 45 (0, 0))) := ⟨h1_⟩
                                          have n2_ : Aside0 (w.heap.size ≤ gb303) := ⟨h2_⟩
                                          have n3_ : Aside0 (w.heap.size ≤ gb303) := ⟨h3_⟩
                                          have n4_ : Aside0 (Below w.heap.size w w30) := ⟨h4_⟩
                                          clear HO_7
                                          clear HB
                                          clear h0_ h1_ h2_ h3_ h4_
                                          have HO_7 := n0_
                                          have BK303 := n1_
                                          have GW303 := n2_
                                          have GE303 := n3_
                                          have HB := n4_
                                          clear n0_ n1_ n2_ n3_ n4_
                                          have hHeld := trivial
                                          refine norm_ (a' := ?_) ?_ ?_
                                          rotate_left
                                          · simp only [putAll, Act.put, List.setIfInBounds_toArray, List.set_cons_zero, List.set_cons_succ]
                                            rfl
                                          refine one_ (i := 18) (N := none) #[true, true, true, true, true, true, true, true, true, true, true, true, true, true, true, true, true, true, true, false, false] rfl rfl (one_of HT_.out (by kernel_rfl)) (by decide) (fun K hK => ?_)
                                          have hs31 : w30.cell? ⟨gb303, 0, none⟩ = some (.string (⟨#[]⟩ : ByteArray)) := (blk_cell BK303.out 0).trans rfl
                                          have hfs31 := blk_frozen BK303.out 0
                                          have hs32 : w30.cell? ⟨gb303, 1, none⟩ = some (.int .i64 0) := (blk_cell BK303.out 1).trans rfl
                                          have hfs32 := blk_frozen BK303.out 1
                                          have hs33 : w30.cell? ⟨gb303, 2, none⟩ = some (.bool false) := (blk_cell BK303.out 2).trans rfl
                                          have hfs33 := blk_frozen BK303.out 2
                                          have hs34 : w30.cell? ⟨gb303, 3, none⟩ = some (.string (⟨#[]⟩ : ByteArray)) := (blk_cell BK303.out 3).trans rfl
                                          have hfs34 := blk_frozen BK303.out 3
                                          refine skip_ (w1 := ?_) (by rfl) rfl ?_ ?_
                                          rotate_left
                                          · go_simp
                                            rfl
                                          refine hK.out _ _ trivial (fun hHeld => ?_)
                                          clear hK K
                                          refine pure_ (i := 19) (N := some 17) (v := ?_) (a' := ?_) #[true, true, true, true, true, true, true, true, true, true, true, true, true, true, true, true, true, true, true, true, false] rfl rfl (any_of HT_.out (by kernel_rfl)) (fun _ _ _ h => h) (Or.inl ⟨by rfl, ?_⟩) ?_ ?_
                                          rotate_left
                                          · intro w'
                                            go_simp
                                            with_reducible rfl
                                          rotate_left
                                          · simp only [Act.put, List.setIfInBounds_toArray, List.set_cons_zero, List.set_cons_succ, i64_w, i32_w]
                                            rfl
                                          refine pure_ (i := 20) (N := some 18) (v := ?_) (a' := ?_) #[true, true, true, true, true, true, true, true, true, true, true, true, true, true, true, true, true, true, true, true, true] rfl rfl (any_of HT_.out (by kernel_rfl)) (fun _ _ _ h => h) (Or.inl ⟨by rfl, ?_⟩) ?_ ?_
                                          rotate_left
                                          · intro w'
                                            go_simp
                                            with_reducible rfl
                                          rotate_left
                                          · simp only [Act.put, List.setIfInBounds_toArray, List.set_cons_zero, List.set_cons_succ, i64_w, i32_w]
                                            rfl
                                          refine done_ (done_of HT_.out (by kernel_rfl)) ?_
                                          have hcz35_0 : w30.cell? ⟨gb303, 0, none⟩ = some (.string (⟨#[]⟩ : ByteArray)) := (blk_cell BK303.out 0).trans rfl
                                          have hcz35_1 : w30.cell? ⟨gb303, 1, none⟩ = some (.int .i64 0) := (blk_cell BK303.out 1).trans rfl
                                          have hcz35_2 : w30.cell? ⟨gb303, 2, none⟩ = some (.bool false) := (blk_cell BK303.out 2).trans rfl
                                          have hcz35_3 : w30.cell? ⟨gb303, 3, none⟩ = some (.string (⟨#[]⟩ : ByteArray)) := (blk_cell BK303.out 3).trans rfl
                                          have hfz35_0 := blk_frozen BK303.out 0
                                          have hfz35_1 := blk_frozen BK303.out 1
                                          have hfz35_2 := blk_frozen BK303.out 2
                                          have hfz35_3 := blk_frozen BK303.out 3
                                          try go_wp2_with (first | ((with_reducible refine gate_builtin (b := .append) (xs := #[.tmp 85, .tmp 87]) rfl ?_); (try (refine gate_guard (by rfl) ?_; dsimp only)); at_builtin; refine Kd.R_append k45 (w0 := w) w.heap.size rfl (.tmp 85) (.tmp 87) 22 45 (.agg #[(.string ⟨#[]⟩), (.int .i64 0), (.bool false), (.string ⟨#[]⟩)]) 48 rfl Try.underlying22 info45 rfl (by decide) (by omega) u7 x7_1 (⟨t297, t298, t299, t300⟩ : S45) [.string t297, .int .i64 t298, .bool t299, .string t300] (fun k_ => k_ ≠ gb303) (fun _ => False) rfl (by first | (go_simp; done) | (go_simp; rfl)) ?aP (fun _ hk => hk.elim) ?aF ?aO ?aB ?aS ?aL ?_; (case aP => exact k45_mkM _ _ _ (⟨t297, t298, t299, t300⟩ : S45)); (case aB => exact (by repeat (first | (with_reducible first | exact HB.out | apply below_alloc | apply pw_below_drewN | apply below_drew1 | refine below_set ?_ GE303.out) | exact HB.out))); (case aF => exact (fun k_ hk => Kd.freshB (g := gb303) (o := .cells #[.string t297, .int .i64 t298, .bool t299, .string t300] 45 (0, 0)) (by (with_reducible repeat (first | refine blk_drewN ?_ _ | refine blk_drew ?_ | refine blk_alloc ?_ _)); refine blk_put (cs := #[.string t297, .int .i64 t298, .bool t299, .string (⟨#[]⟩ : ByteArray)]) ?_ 3 _ rfl; (with_reducible repeat (first | refine blk_drewN ?_ _ | refine blk_drew ?_ | refine blk_alloc ?_ _)); refine blk_put (cs := #[.string t297, .int .i64 t298, .bool false, .string (⟨#[]⟩ : ByteArray)]) ?_ 2 _ rfl; (with_reducible repeat (first | refine blk_drewN ?_ _ | refine blk_drew ?_ | refine blk_alloc ?_ _)); refine blk_put (cs := #[.string t297, .int .i64 0, .bool false, .string (⟨#[]⟩ : ByteArray)]) ?_ 1 _ rfl; (with_reducible repeat (first | refine blk_drewN ?_ _ | refine blk_drew ?_ | refine blk_alloc ?_ _)); refine blk_put (cs := #[.string (⟨#[]⟩ : ByteArray), .int .i64 0, .bool false, .string (⟨#[]⟩ : ByteArray)]) ?_ 0 _ rfl; (with_reducible repeat (first | refine blk_drewN ?_ _ | refine blk_drew ?_ | refine blk_alloc ?_ _)); exact BK303.out) k_ hk)); (case aO => exact (by (with_reducible repeat (first | apply Kd.R_alloc | apply Kd.R_drewN | apply Kd.R_drew)); exact Kd.R_mono (Kd.R_far (p := ⟨gb303, 3, none⟩) (Kd.R_far (p := ⟨gb303, 2, none⟩) (Kd.R_far (p := ⟨gb303, 1, none⟩) (Kd.R_far (p := ⟨gb303, 0, none⟩) (Kd.R_mono HO_7.out (fun k_ hk => (⟨hk, hk⟩ : _ ∧ k_ ≠ gb303))) (fun _ hk => hk.2) (.string t297)) (fun _ hk => hk.2) (.int .i64 t298)) (fun _ hk => hk.2) (.bool t299)) (fun _ hk => hk.2) (.string t300)) (fun _ hk => hk.1))); (case aS => exact (below_size (by repeat (first | (with_reducible first | exact HB.out | apply below_alloc | apply pw_below_drewN | apply below_drew1 | refine below_set ?_ GE303.out) | exact HB.out)))); (case aL => have := LMc26.out; omega); intro v305 w36 ho hb hg hat; rw [← Ny304.out] at ho; have n0_ := Aside0.mk (blk_grown (g := gb303) (o := .cells #[.string t297, .int .i64 t298, .bool t299, .string t300] 45 (0, 0)) (by (with_reducible repeat (first | refine blk_drewN ?_ _ | refine blk_drew ?_ | refine blk_alloc ?_ _)); refine blk_put (cs := #[.string t297, .int .i64 t298, .bool t299, .string (⟨#[]⟩ : ByteArray)]) ?_ 3 _ rfl; (with_reducible repeat (first | refine blk_drewN ?_ _ | refine blk_drew ?_ | refine blk_alloc ?_ _)); refine blk_put (cs := #[.string t297, .int .i64 t298, .bool false, .string (⟨#[]⟩ : ByteArray)]) ?_ 2 _ rfl; (with_reducible repeat (first | refine blk_drewN ?_ _ | refine blk_drew ?_ | refine blk_alloc ?_ _)); refine blk_put (cs := #[.string t297, .int .i64 0, .bool false, .string (⟨#[]⟩ : ByteArray)]) ?_ 1 _ rfl; (with_reducible repeat (first | refine blk_drewN ?_ _ | refine blk_drew ?_ | refine blk_alloc ?_ _)); refine blk_put (cs := #[.string (⟨#[]⟩ : ByteArray), .int .i64 0, .bool false, .string (⟨#[]⟩ : ByteArray)]) ?_ 0 _ rfl; (with_reducible repeat (first | refine blk_drewN ?_ _ | refine blk_drew ?_ | refine blk_alloc ?_ _)); exact BK303.out) hg (Kd.R_away HO_7.out (fun _ hk => hk))); have n1_ := Aside0.mk (hb); have n2_ := Aside0.mk (ho); clear BK303; clear HB; clear HO_7; have BK303 := n0_; have HB := n1_; have HO306 := n2_; clear n0_ n1_ n2_; clear ho hb hg hat; have hcz37_0 : w36.cell? ⟨gb303, 0, none⟩ = some (.string t297) := (blk_cell BK303.out 0).trans rfl; have hcz37_1 : w36.cell? ⟨gb303, 1, none⟩ = some (.int .i64 t298) := (blk_cell BK303.out 1).trans rfl; have hcz37_2 : w36.cell? ⟨gb303, 2, none⟩ = some (.bool t299) := (blk_cell BK303.out 2).trans rfl; have hcz37_3 : w36.cell? ⟨gb303, 3, none⟩ = some (.string t300) := (blk_cell BK303.out 3).trans rfl; have hfz37_0 := blk_frozen BK303.out 0; have hfz37_1 := blk_frozen BK303.out 1; have hfz37_2 := blk_frozen BK303.out 2; have hfz37_3 := blk_frozen BK303.out 3))
                                          go_roundg kj9
                                          case measure => have := HK1.out; have := HJ9.out; omega
                                          case rel => exact ⟨(y304), (t297), (wrap64 ((ji21) + t301)), (by first | rfl | (simp; done) | (simp [*]; done)), (by first | rfl | (simp; done) | (simp only [← hji21] <;> (first | rfl | simp)) | (simp [*]; done)), H', ⟨by have := HK1.out; have := HJ9.out; omega⟩, ⟨by (with_reducible repeat (first | apply Kd.R_alloc | apply Kd.R_drewN | apply Kd.R_drew)); exact Kd.R_mono HO306.out (fun _ hk => trivial)⟩, ⟨by repeat (first | (with_reducible first | exact HB.out | apply below_alloc | apply pw_below_drewN | apply below_drew1 | refine below_set ?_ GE303.out) | exact HB.out)⟩⟩
                                        · rw [if_neg c26] at H
                                          exact absurd H (by simp)
                                      · rw [if_neg c25] at H
                                        have c25b0 : (t302 == 0) = false := beq_eq_false_iff_ne.mpr c25
                                        have c25b1 : (t302 != 0) = true := bne_iff_ne.mpr c25
                                        simp only [Option.some.injEq, Prod.mk.injEq] at H
                                        obtain ⟨rfl, rfl⟩ := H
                                        try go_wp2_with (first | ((with_reducible refine gate_callee (f := 30) rfl ?_); refine goesL_ (some 60) rfl rfl Try.func30 (by kernel_rfl) rfl #[.string (t286.extract ((ji13) : Int).toNat t286.size)] rfl (by (try simp only [List.map_toArray, List.map_cons, List.map_nil]); first | done | (simp only [hji13]; rfl) | rfl | (simp only [List.length_drop, List.length_take]; rfl)) ?_; (with_reducible refine (ravelinref3_TakeText.calls kj9 (t286.extract ((ji13) : Int).toNat t286.size) t294 t295 t296 _ A16.out).mono ?_); rintro e w' ⟨rfl, ⟨nd, rfl⟩⟩; refine ⟨_, rfl, ?_⟩; (try (rw [drewN_self wc]; generalize hq_ : World.drewN wc _ = wc; have n0_ : Aside0 (Kd.R k45 45 wc w.heap.size (fun _ => True) u7 x7_1) := ⟨by rw [← hq_]; exact (by (with_reducible repeat (first | apply Kd.R_alloc | apply Kd.R_drewN | apply Kd.R_drew)); exact HO_7.out)⟩; have n1_ : Aside0 (Below w.heap.size w wc) := ⟨by rw [← hq_]; exact (by repeat (first | (with_reducible first | exact HB.out | apply below_alloc | apply pw_below_drewN | apply below_drew1) | exact HB.out))⟩; clear HO_7 HB hq_; have HO_7 := n0_; have HB := n1_; clear n0_ n1_))))
                                        have n0_ := Aside0.mk (Kd.R_drew HO_7.out)
                                        have n1_ := Aside0.mk (below_drew1 HB.out)
                                        clear HO_7
                                        clear HB
                                        have HO_7 := n0_
                                        have HB := n1_
                                        clear n0_ n1_
                                        refine start_ (n := 21) (S := fun w' => True) (ds := []) #[false, false, false, false, false, false, false, false, false, false, false, false, false, false, false, false, false, false, false, false, false] (by kernel_rfl) rfl rfl trivial (fun hHeld => ?_); refine with_tabW ravelinref6_ReadBlock.tab16 ravelinref6_ReadBlock.bits16 (fun HT_ HW_ => ?_)
                                        generalize wc.drew = w38 at HO_7 HB hHeld ⊢
                                        refine pure_ (i := 0) (N := some 67) (v := ?_) (a' := ?_) #[true, false, false, false, false, false, false, false, false, false, false, false, false, false, false, false, false, false, false, false, false] rfl rfl (any_of HT_.out (by kernel_rfl)) (fun _ _ _ h => h) (Or.inl ⟨by rfl, ?_⟩) ?_ ?_
                                        rotate_left
                                        · intro w'
                                          go_simp
                                          with_reducible rfl
                                        rotate_left
                                        · simp only [Act.put, List.setIfInBounds_toArray, List.set_cons_zero, List.set_cons_succ, i64_w, i32_w]
                                          rfl
                                        refine pure_ (i := 1) (N := some 68) (v := ?_) (a' := ?_) #[true, true, false, false, false, false, false, false, false, false, false, false, false, false, false, false, false, false, false, false, false] rfl rfl (any_of HT_.out (by kernel_rfl)) (fun _ _ _ h => h) (Or.inl ⟨by rfl, ?_⟩) ?_ ?_
                                        rotate_left
                                        · intro w'
                                          go_simp
                                          with_reducible rfl
                                        rotate_left
                                        · simp only [Act.put, List.setIfInBounds_toArray, List.set_cons_zero, List.set_cons_succ, i64_w, i32_w]
                                          rfl
                                        refine pure_ (i := 2) (N := some 69) (v := ?_) (a' := ?_) #[true, true, true, false, false, false, false, false, false, false, false, false, false, false, false, false, false, false, false, false, false] rfl rfl (any_of HT_.out (by kernel_rfl)) (fun _ _ _ h => h) (Or.inl ⟨by rfl, ?_⟩) ?_ ?_
                                        rotate_left
                                        · intro w'
                                          go_simp
                                          with_reducible rfl
                                        rotate_left
                                        · simp only [Act.put, List.setIfInBounds_toArray, List.set_cons_zero, List.set_cons_succ, i64_w, i32_w]
                                          rfl
                                        refine pure_ (i := 3) (N := some 70) (v := ?_) (a' := ?_) #[true, true, true, true, false, false, false, false, false, false, false, false, false, false, false, false, false, false, false, false, false] rfl rfl (any_of HT_.out (by kernel_rfl)) (fun _ _ _ h => h) (Or.inl ⟨by rfl, ?_⟩) ?_ ?_
                                        rotate_left
                                        · intro w'
                                          go_simp
                                          with_reducible rfl
                                        rotate_left
                                        · simp only [Act.put, List.setIfInBounds_toArray, List.set_cons_zero, List.set_cons_succ, i64_w, i32_w]
                                          rfl
                                        refine pure_ (i := 4) (N := some 71) (v := ?_) (a' := ?_) #[true, true, true, true, true, false, false, false, false, false, false, false, false, false, false, false, false, false, false, false, false] rfl rfl (any_of HT_.out (by kernel_rfl)) (fun _ _ _ h => h) (Or.inl ⟨by rfl, ?_⟩) ?_ ?_
                                        rotate_left
                                        · intro w'
                                          go_simp
                                          with_reducible rfl
                                        rotate_left
                                        · simp only [Act.put, List.setIfInBounds_toArray, List.set_cons_zero, List.set_cons_succ, i64_w, i32_w]
                                          rfl
                                        refine pure_ (i := 5) (N := some 72) (v := ?_) (a' := ?_) #[true, true, true, true, true, true, false, false, false, false, false, false, false, false, false, false, false, false, false, false, false] rfl rfl (any_of HT_.out (by kernel_rfl)) (fun _ _ _ h => h) (Or.inl ⟨by rfl, ?_⟩) ?_ ?_
                                        rotate_left
                                        · intro w'
                                          go_simp
                                          with_reducible rfl
                                        rotate_left
                                        · simp only [Act.put, List.setIfInBounds_toArray, List.set_cons_zero, List.set_cons_succ, i64_w, i32_w]
                                          rfl
                                        refine pure_ (i := 6) (N := some 73) (v := ?_) (a' := ?_) #[true, true, true, true, true, true, true, false, false, false, false, false, false, false, false, false, false, false, false, false, false] rfl rfl (any_of HT_.out (by kernel_rfl)) (fun _ _ _ h => h) (Or.inl ⟨by rfl, ?_⟩) ?_ ?_
                                        rotate_left
                                        · intro w'
                                          go_simp
                                          with_reducible rfl
                                        rotate_left
                                        · simp only [Act.put, List.setIfInBounds_toArray, List.set_cons_zero, List.set_cons_succ, i64_w, i32_w]
                                          rfl
                                        refine pure_ (i := 7) (N := some 74) (v := ?_) (a' := ?_) #[true, true, true, true, true, true, true, true, false, false, false, false, false, false, false, false, false, false, false, false, false] rfl rfl (any_of HT_.out (by kernel_rfl)) (fun _ _ _ h => h) (Or.inl ⟨by rfl, ?_⟩) ?_ ?_
                                        rotate_left
                                        · intro w'
                                          go_simp
                                          with_reducible rfl
                                        rotate_left
                                        · simp only [Act.put, List.setIfInBounds_toArray, List.set_cons_zero, List.set_cons_succ, i64_w, i32_w]
                                          rfl
                                        refine pure_ (i := 8) (N := some 75) (v := ?_) (a' := ?_) #[true, true, true, true, true, true, true, true, true, false, false, false, false, false, false, false, false, false, false, false, false] rfl rfl (any_of HT_.out (by kernel_rfl)) (fun _ _ _ h => h) (Or.inl ⟨by rfl, ?_⟩) ?_ ?_
                                        rotate_left
                                        · intro w'
                                          go_simp
                                          with_reducible rfl
                                        rotate_left
                                        · simp only [Act.put, List.setIfInBounds_toArray, List.set_cons_zero, List.set_cons_succ, i64_w, i32_w]
                                          rfl
                                        refine pure_ (i := 9) (N := some 76) (v := ?_) (a' := ?_) #[true, true, true, true, true, true, true, true, true, true, false, false, false, false, false, false, false, false, false, false, false] rfl rfl (any_of HT_.out (by kernel_rfl)) (fun _ _ _ h => h) (Or.inl ⟨by rfl, ?_⟩) ?_ ?_
                                        rotate_left
                                        · intro w'
                                          go_simp
                                          with_reducible rfl
                                        rotate_left
                                        · simp only [Act.put, List.setIfInBounds_toArray, List.set_cons_zero, List.set_cons_succ, i64_w, i32_w]
                                          rfl
                                        refine pure_ (i := 10) (N := some 77) (v := ?_) (a' := ?_) #[true, true, true, true, true, true, true, true, true, true, true, false, false, false, false, false, false, false, false, false, false] rfl rfl (any_of HT_.out (by kernel_rfl)) (fun _ _ _ h => h) (Or.inl ⟨by rfl, ?_⟩) ?_ ?_
                                        rotate_left
                                        · intro w'
                                          go_simp
                                          with_reducible rfl
                                        rotate_left
                                        · simp only [Act.put, List.setIfInBounds_toArray, List.set_cons_zero, List.set_cons_succ, i64_w, i32_w]
                                          rfl
                                        refine pure_ (i := 11) (N := some 78) (v := ?_) (a' := ?_) #[true, true, true, true, true, true, true, true, true, true, true, true, false, false, false, false, false, false, false, false, false] rfl rfl (any_of HT_.out (by kernel_rfl)) (fun _ _ _ h => h) (Or.inl ⟨by rfl, ?_⟩) ?_ ?_
                                        rotate_left
                                        · intro w'
                                          go_simp
                                          with_reducible rfl
                                        rotate_left
                                        · simp only [Act.put, List.setIfInBounds_toArray, List.set_cons_zero, List.set_cons_succ, i64_w, i32_w]
                                          rfl
                                        refine join_ (σ := Nat) 3 #[true, true, true, true, true, true, true, true, true, true, true, true, true, true, true, true, true, true, false, false, false] (fun s_ => [(79, .tuple #[.agg #[.string t297, .int .i64 t298, .bool t299, .string t300], .int .i64 t301, .int .i64 t302]), (16, .pointer (some ⟨s_, 0, none⟩)), (66, .tuple #[.agg #[.string t297, .int .i64 t298, .bool t299, .string t300], .int .i64 t301, .int .i64 t302]), (80, .agg #[.string t297, .int .i64 t298, .bool t299, .string t300]), (81, .int .i64 t301), (82, .int .i64 t302)]) (fun s_ w' => (Kd.R k45 45 w' w.heap.size (fun k_ => k_ ≠ s_) u7 x7_1) ∧ (w'.heap[s_]? = some (.cells #[.string (⟨#[]⟩ : ByteArray), .int .i64 0, .bool false, .string (⟨#[]⟩ : ByteArray)] 45 (0, 0))) ∧ (w.heap.size ≤ s_) ∧ (w.heap.size ≤ s_) ∧ (Below w.heap.size w w')) ?_ ?_
                                        rotate_left
                                        · intro hCont
                                          refine two_ (i := 12) (j := 17) (Ni := some 79) (Nj := some 16) #[true, true, true, true, true, true, true, true, true, true, true, true, true, false, false, false, false, false, false, false, false] #[true, true, true, true, true, true, true, true, true, true, true, true, false, false, false, false, false, true, false, false, false] rfl rfl rfl rfl (two_of HT_.out (by kernel_rfl)) (by decide) (by decide) (fun K hK => ?_) (fun K hK => ?_)
                                          · skip
                                            refine goes_ Try.func31 (by kernel_rfl) rfl #[.string ((x8_1.extract 0 (t291 : Int).toNat) ++ t294), .string (t286.extract ((ji21) : Int).toNat t286.size)] (by rfl) rfl rfl (by (try simp only [List.map_toArray, List.map_cons, List.map_nil]); first | done | (simp only [hji21]; rfl) | rfl | (simp only [List.length_drop, List.length_take]; rfl)) ?_
                                            with_reducible refine (ravelinref6_tail.calls kj9 ((x8_1.extract 0 (t291 : Int).toNat) ++ t294) (t286.extract ((ji21) : Int).toNat t286.size) t297 t298 t299 t300 t301 t302 _ A24.out).mono ?_
                                            rintro e w39 ⟨rfl, hb⟩
                                            refine ⟨_, rfl, ?_⟩
                                            have n0_ := Aside0.mk (Kd.R_below (by (with_reducible repeat (first | apply Kd.R_alloc | apply Kd.R_drewN | apply Kd.R_drew)); exact HO_7.out) hb)
                                            have n1_ := Aside0.mk (below_step (by repeat (first | (with_reducible first | exact HB.out | apply below_alloc | apply pw_below_drewN | apply below_drew1) | exact HB.out)) hb)
                                            clear HO_7
                                            clear HB
                                            have HO_7 := n0_
                                            have HB := n1_
                                            clear n0_ n1_
                                            (try clear hb)
                                            (try clear hb2)
                                            (try clear hk)
                                            (try clear hi)
                                            refine hK.out _ _ trivial (fun hHeld => ?_)
                                            clear hK K
                                            refine norm_ (a' := ?_) ?_ ?_
                                            rotate_left
                                            · show Act.put _ (some 79) _ = _
                                              simp only [Act.put, List.setIfInBounds_toArray, List.set_cons_zero, List.set_cons_succ, i64_w, i32_w]
                                              rfl
                                            refine pure_ (i := 13) (N := some 66) (v := ?_) (a' := ?_) #[true, true, true, true, true, true, true, true, true, true, true, true, true, true, false, false, false, false, false, false, false] rfl rfl (any_of HT_.out (by kernel_rfl)) (fun _ _ _ h => h) (Or.inl ⟨by rfl, ?_⟩) ?_ ?_
                                            rotate_left
                                            · intro w'
                                              go_simp
                                              with_reducible rfl
                                            rotate_left
                                            · simp only [Act.put, List.setIfInBounds_toArray, List.set_cons_zero, List.set_cons_succ, i64_w, i32_w]
                                              rfl
                                            refine pure_ (i := 14) (N := some 80) (v := ?_) (a' := ?_) #[true, true, true, true, true, true, true, true, true, true, true, true, true, true, true, false, false, false, false, false, false] rfl rfl (any_of HT_.out (by kernel_rfl)) (fun _ _ _ h => h) (Or.inl ⟨by rfl, ?_⟩) ?_ ?_
                                            rotate_left
                                            · intro w'
                                              go_simp
                                              with_reducible rfl
                                            rotate_left
                                            · simp only [Act.put, List.setIfInBounds_toArray, List.set_cons_zero, List.set_cons_succ, i64_w, i32_w]
                                              rfl
                                            refine pure_ (i := 15) (N := some 81) (v := ?_) (a' := ?_) #[true, true, true, true, true, true, true, true, true, true, true, true, true, true, true, true, false, false, false, false, false] rfl rfl (any_of HT_.out (by kernel_rfl)) (fun _ _ _ h => h) (Or.inl ⟨by rfl, ?_⟩) ?_ ?_
                                            rotate_left
                                            · intro w'
                                              go_simp
                                              with_reducible rfl
                                            rotate_left
                                            · simp only [Act.put, List.setIfInBounds_toArray, List.set_cons_zero, List.set_cons_succ, i64_w, i32_w]
                                              rfl
                                            refine pure_ (i := 16) (N := some 82) (v := ?_) (a' := ?_) #[true, true, true, true, true, true, true, true, true, true, true, true, true, true, true, true, true, false, false, false, false] rfl rfl (any_of HT_.out (by kernel_rfl)) (fun _ _ _ h => h) (Or.inl ⟨by rfl, ?_⟩) ?_ ?_
                                            rotate_left
                                            · intro w'
                                              go_simp
                                              with_reducible rfl
                                            rotate_left
                                            · simp only [Act.put, List.setIfInBounds_toArray, List.set_cons_zero, List.set_cons_succ, i64_w, i32_w]
                                              rfl
                                            refine one_ (i := 17) (N := some 16) #[true, true, true, true, true, true, true, true, true, true, true, true, true, true, true, true, true, true, false, false, false] rfl rfl (one_of HT_.out (by kernel_rfl)) (by decide) (fun K hK => ?_)
                                            refine box_step ?hg (N := 16) ?hd (cs := #[.string (⟨#[]⟩ : ByteArray), .int .i64 0, .bool false, .string (⟨#[]⟩ : ByteArray)]) (t := 45) ?hr ?_; (case hd => rfl); (case hg => rfl); (case hr => first | (go_simp; done) | (go_simp; rfl))
                                            intro gb303 hg w40 hbox hb
                                            have n0_ := Aside0.mk (Kd.R_below (Kd.R_elderB (by (with_reducible repeat (first | apply Kd.R_alloc | apply Kd.R_drewN | apply Kd.R_drew)); exact HO_7.out) gb303 (Nat.le_of_eq hg.symm)) hb)
                                            have n1_ := Aside0.mk (below_step (by repeat (first | (with_reducible first | exact HB.out | apply below_alloc | apply pw_below_drewN | apply below_drew1) | exact HB.out)) hb)
                                            have n2_ := Aside0.mk (hbox)
                                            have n3_ := Aside0.mk ((by rw [hg]; exact (below_size (by repeat (first | (with_reducible first | exact HB.out | apply below_alloc | apply pw_below_drewN | apply below_drew1) | exact HB.out))) : w.heap.size ≤ gb303))
                                            have n4_ := Aside0.mk ((by rw [hg]; exact (below_size (by repeat (first | (with_reducible first | exact HB.out | apply below_alloc | apply pw_below_drewN | apply below_drew1) | exact HB.out))) : w.heap.size ≤ gb303))
                                            clear HO_7
                                            clear HB
                                            have HO_7 := n0_
                                            have HB := n1_
                                            have BK303 := n2_
                                            have GW303 := n3_
                                            have GE303 := n4_
                                            clear n0_ n1_ n2_ n3_ n4_
                                            clear hb hbox hg
                                            refine hK.out _ _ trivial (fun hHeld => ?_)
                                            clear hK K
                                            refine norm_ (a' := ?_) ?_ ?_
                                            rotate_left
                                            · show Act.put _ (some 16) _ = _
                                              simp only [Act.put, List.setIfInBounds_toArray, List.set_cons_zero, List.set_cons_succ, i64_w, i32_w]
                                              rfl
                                            exact norm_ (by simp only [putAll, Act.put, List.setIfInBounds_toArray, List.set_cons_zero, List.set_cons_succ]) (hCont (gb303) _ ⟨(by (with_reducible repeat (first | apply Kd.R_alloc | apply Kd.R_drewN | apply Kd.R_drew)); exact Kd.R_mono HO_7.out (fun _ hk => hk.2)), (by (with_reducible repeat (first | refine blk_drewN ?_ _ | refine blk_drew ?_ | refine blk_alloc ?_ _)); exact BK303.out), GW303.out, GE303.out, (by repeat (first | (with_reducible first | exact HB.out | apply below_alloc | apply pw_below_drewN | apply below_drew1 | refine below_set ?_ GE303.out) | exact HB.out))⟩)
                                          · skip
                                            refine box_step ?hg (N := 16) ?hd (cs := #[.string (⟨#[]⟩ : ByteArray), .int .i64 0, .bool false, .string (⟨#[]⟩ : ByteArray)]) (t := 45) ?hr ?_; (case hd => rfl); (case hg => rfl); (case hr => first | (go_simp; done) | (go_simp; rfl))
                                            intro gb303 hg w39 hbox hb
                                            have n0_ := Aside0.mk (Kd.R_below (Kd.R_elderB (by (with_reducible repeat (first | apply Kd.R_alloc | apply Kd.R_drewN | apply Kd.R_drew)); exact HO_7.out) gb303 (Nat.le_of_eq hg.symm)) hb)
                                            have n1_ := Aside0.mk (below_step (by repeat (first | (with_reducible first | exact HB.out | apply below_alloc | apply pw_below_drewN | apply below_drew1) | exact HB.out)) hb)
                                            have n2_ := Aside0.mk (hbox)
                                            have n3_ := Aside0.mk ((by rw [hg]; exact (below_size (by repeat (first | (with_reducible first | exact HB.out | apply below_alloc | apply pw_below_drewN | apply below_drew1) | exact HB.out))) : w.heap.size ≤ gb303))
                                            have n4_ := Aside0.mk ((by rw [hg]; exact (below_size (by repeat (first | (with_reducible first | exact HB.out | apply below_alloc | apply pw_below_drewN | apply below_drew1) | exact HB.out))) : w.heap.size ≤ gb303))
                                            clear HO_7
                                            clear HB
                                            have HO_7 := n0_
                                            have HB := n1_
                                            have BK303 := n2_
                                            have GW303 := n3_
                                            have GE303 := n4_
                                            clear n0_ n1_ n2_ n3_ n4_
                                            clear hb hbox hg
                                            refine hK.out _ _ trivial (fun hHeld => ?_)
                                            clear hK K
                                            refine norm_ (a' := ?_) ?_ ?_
                                            rotate_left
                                            · show Act.put _ (some 16) _ = _
                                              simp only [Act.put, List.setIfInBounds_toArray, List.set_cons_zero, List.set_cons_succ, i64_w, i32_w]
                                              rfl
                                            refine one_ (i := 12) (N := some 79) #[true, true, true, true, true, true, true, true, true, true, true, true, true, false, false, false, false, true, false, false, false] rfl rfl (one_of HT_.out (by kernel_rfl)) (by decide) (fun K hK => ?_)
                                            refine goes_ Try.func31 (by kernel_rfl) rfl #[.string ((x8_1.extract 0 (t291 : Int).toNat) ++ t294), .string (t286.extract ((ji21) : Int).toNat t286.size)] (by rfl) rfl rfl (by (try simp only [List.map_toArray, List.map_cons, List.map_nil]); first | done | (simp only [hji21]; rfl) | rfl | (simp only [List.length_drop, List.length_take]; rfl)) ?_
                                            with_reducible refine (ravelinref6_tail.calls kj9 ((x8_1.extract 0 (t291 : Int).toNat) ++ t294) (t286.extract ((ji21) : Int).toNat t286.size) t297 t298 t299 t300 t301 t302 _ A24.out).mono ?_
                                            rintro e w40 ⟨rfl, hb⟩
                                            refine ⟨_, rfl, ?_⟩
                                            have n0_ := Aside0.mk (Kd.R_below (by (with_reducible repeat (first | apply Kd.R_alloc | apply Kd.R_drewN | apply Kd.R_drew)); exact HO_7.out) hb)
                                            have n1_ := Aside0.mk (blk_below (g := gb303) (o := .cells #[.string (⟨#[]⟩ : ByteArray), .int .i64 0, .bool false, .string (⟨#[]⟩ : ByteArray)] 45 (0, 0)) (by (with_reducible repeat (first | refine blk_drewN ?_ _ | refine blk_drew ?_ | refine blk_alloc ?_ _)); exact BK303.out) hb)
                                            have n2_ := Aside0.mk (below_step (by repeat (first | (with_reducible first | exact HB.out | apply below_alloc | apply pw_below_drewN | apply below_drew1 | refine below_set ?_ GE303.out) | exact HB.out)) hb)
                                            clear HO_7
                                            clear BK303
                                            clear HB
                                            have HO_7 := n0_
                                            have BK303 := n1_
                                            have HB := n2_
                                            clear n0_ n1_ n2_
                                            (try clear hb)
                                            (try clear hb2)
                                            (try clear hk)
                                            (try clear hi)
                                            refine hK.out _ _ trivial (fun hHeld => ?_)
                                            clear hK K
                                            refine norm_ (a' := ?_) ?_ ?_
                                            rotate_left
                                            · show Act.put _ (some 79) _ = _
                                              simp only [Act.put, List.setIfInBounds_toArray, List.set_cons_zero, List.set_cons_succ, i64_w, i32_w]
                                              rfl
                                            refine pure_ (i := 13) (N := some 66) (v := ?_) (a' := ?_) #[true, true, true, true, true, true, true, true, true, true, true, true, true, true, false, false, false, true, false, false, false] rfl rfl (any_of HT_.out (by kernel_rfl)) (fun _ _ _ h => h) (Or.inl ⟨by rfl, ?_⟩) ?_ ?_
                                            rotate_left
                                            · intro w'
                                              go_simp
                                              with_reducible rfl
                                            rotate_left
                                            · simp only [Act.put, List.setIfInBounds_toArray, List.set_cons_zero, List.set_cons_succ, i64_w, i32_w]
                                              rfl
                                            refine pure_ (i := 14) (N := some 80) (v := ?_) (a' := ?_) #[true, true, true, true, true, true, true, true, true, true, true, true, true, true, true, false, false, true, false, false, false] rfl rfl (any_of HT_.out (by kernel_rfl)) (fun _ _ _ h => h) (Or.inl ⟨by rfl, ?_⟩) ?_ ?_
                                            rotate_left
                                            · intro w'
                                              go_simp
                                              with_reducible rfl
                                            rotate_left
                                            · simp only [Act.put, List.setIfInBounds_toArray, List.set_cons_zero, List.set_cons_succ, i64_w, i32_w]
                                              rfl
                                            refine pure_ (i := 15) (N := some 81) (v := ?_) (a' := ?_) #[true, true, true, true, true, true, true, true, true, true, true, true, true, true, true, true, false, true, false, false, false] rfl rfl (any_of HT_.out (by kernel_rfl)) (fun _ _ _ h => h) (Or.inl ⟨by rfl, ?_⟩) ?_ ?_
                                            rotate_left
                                            · intro w'
                                              go_simp
                                              with_reducible rfl
                                            rotate_left
                                            · simp only [Act.put, List.setIfInBounds_toArray, List.set_cons_zero, List.set_cons_succ, i64_w, i32_w]
                                              rfl
                                            refine pure_ (i := 16) (N := some 82) (v := ?_) (a' := ?_) #[true, true, true, true, true, true, true, true, true, true, true, true, true, true, true, true, true, true, false, false, false] rfl rfl (any_of HT_.out (by kernel_rfl)) (fun _ _ _ h => h) (Or.inl ⟨by rfl, ?_⟩) ?_ ?_
                                            rotate_left
                                            · intro w'
                                              go_simp
                                              with_reducible rfl
                                            rotate_left
                                            · simp only [Act.put, List.setIfInBounds_toArray, List.set_cons_zero, List.set_cons_succ, i64_w, i32_w]
                                              rfl
                                            exact norm_ (by simp only [putAll, Act.put, List.setIfInBounds_toArray, List.set_cons_zero, List.set_cons_succ]) (hCont (gb303) _ ⟨(by (with_reducible repeat (first | apply Kd.R_alloc | apply Kd.R_drewN | apply Kd.R_drew)); exact Kd.R_mono HO_7.out (fun _ hk => hk.2)), (by (with_reducible repeat (first | refine blk_drewN ?_ _ | refine blk_drew ?_ | refine blk_alloc ?_ _)); exact BK303.out), GW303.out, GE303.out, (by repeat (first | (with_reducible first | exact HB.out | apply below_alloc | apply pw_below_drewN | apply below_drew1 | refine below_set ?_ GE303.out) | exact HB.out))⟩)
                                        rintro gb303 w41 ⟨h0_, h1_, h2_, h3_, h4_⟩
                                        have n0_ : Aside0 (Kd.R k45 45 w41 w.heap.size (fun k_ => k_ ≠ gb303) u7 x7_1) := ⟨h0_⟩
                                        have n1_ : Aside0 (w41.heap[gb303]? = some (.cells #[.string (⟨#[]⟩ : ByteArray), .int .i64 0, .bool false, .string (⟨#[]⟩ : ByteArray)] 45 (0, 0))) := ⟨h1_⟩
                                        have n2_ : Aside0 (w.heap.size ≤ gb303) := ⟨h2_⟩
                                        have n3_ : Aside0 (w.heap.size ≤ gb303) := ⟨h3_⟩
                                        have n4_ : Aside0 (Below w.heap.size w w41) := ⟨h4_⟩
                                        clear HO_7
                                        clear HB
                                        clear h0_ h1_ h2_ h3_ h4_
                                        have HO_7 := n0_
                                        have BK303 := n1_
                                        have GW303 := n2_
                                        have GE303 := n3_
                                        have HB := n4_
                                        clear n0_ n1_ n2_ n3_ n4_
                                        have hHeld := trivial
                                        refine norm_ (a' := ?_) ?_ ?_
                                        rotate_left
                                        · simp only [putAll, Act.put, List.setIfInBounds_toArray, List.set_cons_zero, List.set_cons_succ]
                                          rfl
                                        refine one_ (i := 18) (N := none) #[true, true, true, true, true, true, true, true, true, true, true, true, true, true, true, true, true, true, true, false, false] rfl rfl (one_of HT_.out (by kernel_rfl)) (by decide) (fun K hK => ?_)
                                        have hs42 : w41.cell? ⟨gb303, 0, none⟩ = some (.string (⟨#[]⟩ : ByteArray)) := (blk_cell BK303.out 0).trans rfl
                                        have hfs42 := blk_frozen BK303.out 0
                                        have hs43 : w41.cell? ⟨gb303, 1, none⟩ = some (.int .i64 0) := (blk_cell BK303.out 1).trans rfl
                                        have hfs43 := blk_frozen BK303.out 1
                                        have hs44 : w41.cell? ⟨gb303, 2, none⟩ = some (.bool false) := (blk_cell BK303.out 2).trans rfl
                                        have hfs44 := blk_frozen BK303.out 2
                                        have hs45 : w41.cell? ⟨gb303, 3, none⟩ = some (.string (⟨#[]⟩ : ByteArray)) := (blk_cell BK303.out 3).trans rfl
                                        have hfs45 := blk_frozen BK303.out 3
                                        refine skip_ (w1 := ?_) (by rfl) rfl ?_ ?_
                                        rotate_left
                                        · go_simp
                                          rfl
                                        refine hK.out _ _ trivial (fun hHeld => ?_)
                                        clear hK K
                                        refine pure_ (i := 19) (N := some 17) (v := ?_) (a' := ?_) #[true, true, true, true, true, true, true, true, true, true, true, true, true, true, true, true, true, true, true, true, false] rfl rfl (any_of HT_.out (by kernel_rfl)) (fun _ _ _ h => h) (Or.inl ⟨by rfl, ?_⟩) ?_ ?_
                                        rotate_left
                                        · intro w'
                                          go_simp
                                          with_reducible rfl
                                        rotate_left
                                        · simp only [Act.put, List.setIfInBounds_toArray, List.set_cons_zero, List.set_cons_succ, i64_w, i32_w]
                                          rfl
                                        refine pure_ (i := 20) (N := some 18) (v := ?_) (a' := ?_) #[true, true, true, true, true, true, true, true, true, true, true, true, true, true, true, true, true, true, true, true, true] rfl rfl (any_of HT_.out (by kernel_rfl)) (fun _ _ _ h => h) (Or.inl ⟨by rfl, ?_⟩) ?_ ?_
                                        rotate_left
                                        · intro w'
                                          go_simp
                                          with_reducible rfl
                                        rotate_left
                                        · simp only [Act.put, List.setIfInBounds_toArray, List.set_cons_zero, List.set_cons_succ, i64_w, i32_w]
                                          rfl
                                        refine done_ (done_of HT_.out (by kernel_rfl)) ?_
                                        try go_wp2
                                        go_ret2
                                        exact ⟨_, by first | rfl | (simp [errW_none, errW_some] <;> rfl) | (simp only [← hji13, ← hji21]; first | rfl | (simp [errW_none, errW_some] <;> rfl)) | (simp [*, errW_none, errW_some] <;> rfl), by first | exact Kd.R_nil _ _ _ _ _ | exact Kd.N_nil _ _ _ _ _ | exact Kd.V_nil _ _ _ _ _ | exact Kd.Q_nil _ _ _ _ _ | exact Kd.S_nil _ _ _ _ _, by repeat (first | (with_reducible first | exact HB.out | apply below_alloc | apply pw_below_drewN | apply below_drew1 | refine below_set ?_ GE303.out) | exact HB.out)⟩
                                    · rw [if_neg c23] at H
                                      exact absurd H (by simp)
                                  · rw [if_neg c22] at H
                                    exact absurd H (by simp)
                                · rw [if_neg c20] at H
                                  exact absurd H (by simp)
                              · rw [if_neg c19] at H
                                exact absurd H (by simp)
                            · rw [if_neg c18] at H
                              exact absurd H (by simp)
                          · rw [if_neg c17] at H
                            have c17b0 : (t296 == 0) = false := beq_eq_false_iff_ne.mpr c17
                            have c17b1 : (t296 != 0) = true := bne_iff_ne.mpr c17
                            simp only [Option.some.injEq, Prod.mk.injEq] at H
                            obtain ⟨rfl, rfl⟩ := H
                            go_wp2_with (first | ((with_reducible refine gate_callee (f := 30) rfl ?_); refine goesL_ (some 60) rfl rfl Try.func30 (by kernel_rfl) rfl #[.string (t286.extract ((ji13) : Int).toNat t286.size)] rfl (by (try simp only [List.map_toArray, List.map_cons, List.map_nil]); first | done | (simp only [hji13]; rfl) | rfl | (simp only [List.length_drop, List.length_take]; rfl)) ?_; (with_reducible refine (ravelinref3_TakeText.calls kj9 (t286.extract ((ji13) : Int).toNat t286.size) t294 t295 t296 _ A16.out).mono ?_); rintro e w' ⟨rfl, ⟨nd, rfl⟩⟩; refine ⟨_, rfl, ?_⟩))
                            go_ret2
                            exact ⟨_, by first | rfl | (simp [errW_none, errW_some] <;> rfl) | (simp only [← hji13]; first | rfl | (simp [errW_none, errW_some] <;> rfl)) | (simp [*, errW_none, errW_some] <;> rfl), by first | exact Kd.R_nil _ _ _ _ _ | exact Kd.N_nil _ _ _ _ _ | exact Kd.V_nil _ _ _ _ _ | exact Kd.Q_nil _ _ _ _ _ | exact Kd.S_nil _ _ _ _ _, by repeat (first | (with_reducible first | exact HB.out | apply below_alloc | apply pw_below_drewN | apply below_drew1) | exact HB.out)⟩
                        · rw [if_neg c15] at H
                          exact absurd H (by simp)
                      · rw [if_neg c14] at H
                        exact absurd H (by simp)
              · rw [if_neg c8] at H
                exact absurd H (by simp)
            · rw [if_neg c7] at H
              exact absurd H (by simp)
          · rw [if_neg c6] at H
            have c6b0 : decide (x9_1 < (t286.size : Int)) = false := decide_eq_false c6
            clear c6
            replace H := Option.bind_eq_some_iff.mp H
            obtain ⟨⟨t289, t290⟩, A460, H⟩ := H
            replace H : (if t290 = 0 then (if t289.toList = a0.toList then (some (x7_1, 0)) else (some (([] : List (S45)), 10))) else (some (([] : List (S45)), 10))) = some (r1, r2) := H
            have A46 := Aside0.mk A460
            clear A460
            by_cases c47 : t290 = 0
            · rw [if_pos c47] at H
              have c47b0 : (t290 == 0) = true := beq_iff_eq.mpr c47
              have c47b1 : (t290 != 0) = false := bne_eq_false_iff_eq.mpr c47
              clear c47
              by_cases c48 : t289.toList = a0.toList
              · rw [if_pos c48] at H
                have c48b0 : (t289.toList == a0.toList) = true := beq_iff_eq.mpr c48
                have c48b1 : (t289.toList != a0.toList) = false := bne_eq_false_iff_eq.mpr c48
                clear c48
                simp only [Option.some.injEq, Prod.mk.injEq] at H
                obtain ⟨rfl, rfl⟩ := H
                obtain ⟨Ao49, co49, eo49⟩ := Kd.R_slice HO_7.out
                subst eo49
                go_wp2_with (first | ((with_reducible refine gate_callee (f := 10) rfl ?_); refine goesL_ (some 100) rfl rfl Try.func10 (by kernel_rfl) rfl #[.slice Ao49 x7_1.length co49] rfl (by (try simp only [List.map_toArray, List.map_cons, List.map_nil]); first | done | rfl | (simp only [List.length_drop, List.length_take]; rfl)) ?_; (with_reducible refine (ravelinref6_Block.calls k1 _ _ x7_1 t289 t290 _ ?side1 ?side2 A46.out).mono ?_); (case side1 => repeat (first | exact (Kd.R_reads' HO_7.out).2.2 | (with_reducible refine Kd.C_alloc ?_ _) | (with_reducible refine Kd.C_drewN ?_ _) | (with_reducible refine Kd.C_drew ?_))); (case side2 => exact (Kd.R_reads' HO_7.out).2.1); rintro e w50 ⟨rfl, hb⟩; refine ⟨_, rfl, ?_⟩; have n0_ := Aside0.mk (Kd.R_below (by (with_reducible repeat (first | apply Kd.R_alloc | apply Kd.R_drewN | apply Kd.R_drew)); exact HO_7.out) hb); have n1_ := Aside0.mk (below_step (by repeat (first | (with_reducible first | exact HB.out | apply below_alloc | apply pw_below_drewN | apply below_drew1) | exact HB.out)) hb); clear HO_7; clear HB; have HO_7 := n0_; have HB := n1_; clear n0_ n1_; (try clear hb); (try clear hb2); (try clear hk); (try clear hi)))
                go_ret2
                exact ⟨_, by first | rfl | (simp [errW_none, errW_some] <;> rfl) | (simp [*, errW_none, errW_some] <;> rfl), by (with_reducible repeat (first | apply Kd.R_alloc | apply Kd.R_drewN | apply Kd.R_drew)); exact HO_7.out, by repeat (first | (with_reducible first | exact HB.out | apply below_alloc | apply pw_below_drewN | apply below_drew1) | exact HB.out)⟩
              · rw [if_neg c48] at H
                have c48b0 : (t289.toList == a0.toList) = false := beq_eq_false_iff_ne.mpr c48
                have c48b1 : (t289.toList != a0.toList) = true := bne_iff_ne.mpr c48
                simp only [Option.some.injEq, Prod.mk.injEq] at H
                obtain ⟨rfl, rfl⟩ := H
                obtain ⟨Ao51, co51, eo51⟩ := Kd.R_slice HO_7.out
                subst eo51
                go_wp2_with (first | ((with_reducible refine gate_callee (f := 10) rfl ?_); refine goesL_ (some 100) rfl rfl Try.func10 (by kernel_rfl) rfl #[.slice Ao51 x7_1.length co51] rfl (by (try simp only [List.map_toArray, List.map_cons, List.map_nil]); first | done | rfl | (simp only [List.length_drop, List.length_take]; rfl)) ?_; (with_reducible refine (ravelinref6_Block.calls k1 _ _ x7_1 t289 t290 _ ?side1 ?side2 A46.out).mono ?_); (case side1 => repeat (first | exact (Kd.R_reads' HO_7.out).2.2 | (with_reducible refine Kd.C_alloc ?_ _) | (with_reducible refine Kd.C_drewN ?_ _) | (with_reducible refine Kd.C_drew ?_))); (case side2 => exact (Kd.R_reads' HO_7.out).2.1); rintro e w52 ⟨rfl, hb⟩; refine ⟨_, rfl, ?_⟩; have n0_ := Aside0.mk (Kd.R_below (by (with_reducible repeat (first | apply Kd.R_alloc | apply Kd.R_drewN | apply Kd.R_drew)); exact HO_7.out) hb); have n1_ := Aside0.mk (below_step (by repeat (first | (with_reducible first | exact HB.out | apply below_alloc | apply pw_below_drewN | apply below_drew1) | exact HB.out)) hb); clear HO_7; clear HB; have HO_7 := n0_; have HB := n1_; clear n0_ n1_; (try clear hb); (try clear hb2); (try clear hk); (try clear hi)))
                go_ret2
                exact ⟨_, by first | rfl | (simp [errW_none, errW_some] <;> rfl) | (simp [*, errW_none, errW_some] <;> rfl), by first | exact Kd.R_nil _ _ _ _ _ | exact Kd.N_nil _ _ _ _ _ | exact Kd.V_nil _ _ _ _ _ | exact Kd.Q_nil _ _ _ _ _ | exact Kd.S_nil _ _ _ _ _, by repeat (first | (with_reducible first | exact HB.out | apply below_alloc | apply pw_below_drewN | apply below_drew1) | exact HB.out)⟩
            · rw [if_neg c47] at H
              have c47b0 : (t290 == 0) = false := beq_eq_false_iff_ne.mpr c47
              have c47b1 : (t290 != 0) = true := bne_iff_ne.mpr c47
              simp only [Option.some.injEq, Prod.mk.injEq] at H
              obtain ⟨rfl, rfl⟩ := H
              obtain ⟨Ao53, co53, eo53⟩ := Kd.R_slice HO_7.out
              subst eo53
              go_wp2_with (first | ((with_reducible refine gate_callee (f := 10) rfl ?_); refine goesL_ (some 100) rfl rfl Try.func10 (by kernel_rfl) rfl #[.slice Ao53 x7_1.length co53] rfl (by (try simp only [List.map_toArray, List.map_cons, List.map_nil]); first | done | rfl | (simp only [List.length_drop, List.length_take]; rfl)) ?_; (with_reducible refine (ravelinref6_Block.calls k1 _ _ x7_1 t289 t290 _ ?side1 ?side2 A46.out).mono ?_); (case side1 => repeat (first | exact (Kd.R_reads' HO_7.out).2.2 | (with_reducible refine Kd.C_alloc ?_ _) | (with_reducible refine Kd.C_drewN ?_ _) | (with_reducible refine Kd.C_drew ?_))); (case side2 => exact (Kd.R_reads' HO_7.out).2.1); rintro e w54 ⟨rfl, hb⟩; refine ⟨_, rfl, ?_⟩; have n0_ := Aside0.mk (Kd.R_below (by (with_reducible repeat (first | apply Kd.R_alloc | apply Kd.R_drewN | apply Kd.R_drew)); exact HO_7.out) hb); have n1_ := Aside0.mk (below_step (by repeat (first | (with_reducible first | exact HB.out | apply below_alloc | apply pw_below_drewN | apply below_drew1) | exact HB.out)) hb); clear HO_7; clear HB; have HO_7 := n0_; have HB := n1_; clear n0_ n1_; (try clear hb); (try clear hb2); (try clear hk); (try clear hi)))
              go_ret2
              exact ⟨_, by first | rfl | (simp [errW_none, errW_some] <;> rfl) | (simp [*, errW_none, errW_some] <;> rfl), by first | exact Kd.R_nil _ _ _ _ _ | exact Kd.N_nil _ _ _ _ _ | exact Kd.V_nil _ _ _ _ _ | exact Kd.Q_nil _ _ _ _ _ | exact Kd.S_nil _ _ _ _ _, by repeat (first | (with_reducible first | exact HB.out | apply below_alloc | apply pw_below_drewN | apply below_drew1) | exact HB.out)⟩
    · rw [if_neg c4] at H
      have c4b0 : (t287 == (a0.size : Int)) = false := beq_eq_false_iff_ne.mpr c4
      have c4b1 : (t287 != (a0.size : Int)) = true := bne_iff_ne.mpr c4
      simp only [Option.some.injEq, Prod.mk.injEq] at H
      obtain ⟨rfl, rfl⟩ := H
      go_enter Try.func12, Try.ntmps12
      go_wp2_with (first | ((with_reducible refine gate_callee (f := 16) rfl ?_); refine goesL_ (some 23) rfl rfl Try.func16 (by kernel_rfl) rfl #[.string a0] rfl (by (try simp only [List.map_toArray, List.map_cons, List.map_nil]); first | done | rfl | (simp only [List.length_drop, List.length_take]; rfl)) ?_; (with_reducible refine (ravelinref3_Open.calls k a0 t286 t287 t288 _ A2.out).mono ?_); rintro e w55 ⟨rfl, hb⟩; refine ⟨_, rfl, ?_⟩; have n0_ := Aside0.mk (below_step (by repeat (first | (with_reducible first | exact HB.out | apply below_alloc | apply pw_below_drewN | apply below_drew1) | exact HB.out)) hb); clear HB; have HB := n0_; clear n0_; (try clear hb); (try clear hb2); (try clear hk); (try clear hi)))
      go_ret2
      exact ⟨_, by first | rfl | (simp [errW_none, errW_some] <;> rfl) | (simp [*, errW_none, errW_some] <;> rfl), by first | exact Kd.R_nil _ _ _ _ _ | exact Kd.N_nil _ _ _ _ _ | exact Kd.V_nil _ _ _ _ _ | exact Kd.Q_nil _ _ _ _ _ | exact Kd.S_nil _ _ _ _ _, by repeat (first | (with_reducible first | exact HB.out | apply below_alloc | apply pw_below_drewN | apply below_drew1) | exact HB.out)⟩
  · rw [if_neg c3] at H
    have c3b0 : (t288 == 0) = false := beq_eq_false_iff_ne.mpr c3
    have c3b1 : (t288 != 0) = true := bne_iff_ne.mpr c3
    simp only [Option.some.injEq, Prod.mk.injEq] at H
    obtain ⟨rfl, rfl⟩ := H
    go_enter Try.func12, Try.ntmps12
    go_wp2_with (first | ((with_reducible refine gate_callee (f := 16) rfl ?_); refine goesL_ (some 23) rfl rfl Try.func16 (by kernel_rfl) rfl #[.string a0] rfl (by (try simp only [List.map_toArray, List.map_cons, List.map_nil]); first | done | rfl | (simp only [List.length_drop, List.length_take]; rfl)) ?_; (with_reducible refine (ravelinref3_Open.calls k a0 t286 t287 t288 _ A2.out).mono ?_); rintro e w56 ⟨rfl, hb⟩; refine ⟨_, rfl, ?_⟩; have n0_ := Aside0.mk (below_step (by repeat (first | (with_reducible first | exact HB.out | apply below_alloc | apply pw_below_drewN | apply below_drew1) | exact HB.out)) hb); clear HB; have HB := n0_; clear n0_; (try clear hb); (try clear hb2); (try clear hk); (try clear hi)))
    go_ret2
    exact ⟨_, by first | rfl | (simp [errW_none, errW_some] <;> rfl) | (simp [*, errW_none, errW_some] <;> rfl), by first | exact Kd.R_nil _ _ _ _ _ | exact Kd.N_nil _ _ _ _ _ | exact Kd.V_nil _ _ _ _ _ | exact Kd.Q_nil _ _ _ _ _ | exact Kd.S_nil _ _ _ _ _, by repeat (first | (with_reducible first | exact HB.out | apply below_alloc | apply pw_below_drewN | apply below_drew1) | exact HB.out)⟩

end Go.Proofs.Ythohfmfgijckhaa.P
