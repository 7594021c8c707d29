-- Printed by a changed copy of the kit's printer (wip/tools/ext.py); labels and more
import Derived.Test.YthlndkbdonoefaaM0
import Derived.Test.YthlndkbdonoefaaM1
import Derived.Test.YthlndkbdonoefaaM3
namespace Go.Proofs.Ythlndkbdonoefaa.P
open Go.RowKit Go.Proofs.YthlndkbdonoefaaW.PrintWords Go.Proofs.YthlndkbdonoefaaW.PrintLast Go.Proofs.YthlndkbdonoefaaW.PrintMore
attribute [local go_sem] max2_int min2_int max_two min_two max_three min_three max_four min_four string_leq string_geq string_gtr   -- for this text's walks alone
set_option linter.unusedVariables false
set_option linter.unusedSimpArgs false

/-! ### ravelinlaw4_SealRows: function 5 -/
mutual
def ravelinlaw4_SealRows.j0 : Nat → List ByteArray → Int → Int → Bool → Option (Bool)
  | 0, _, _, _, _ => none
  | k + 1, x0, x1, x2, x23 => if x23 = true then (some true) else (if (x0.length : Int) = 0 then (none) else (ravelinlaw4_SealRows.l0 k x0 x2 (Int.tmod (wrap64 (x1)) (x0.length : Int)) (⟨#[]⟩ : ByteArray) 0 0))
def ravelinlaw4_SealRows.l0 : Nat → List ByteArray → Int → Int → ByteArray → Int → Int → Option (Bool)
  | 0, _, _, _, _, _, _ => none
  | k + 1, x0, x2, x7, x8, x9, x10 => if x10 < (x0.length : Int) then (if 0 ≤ x10 then (if ((rdOf ByteArray.empty x0 x10).size : Int) > 100 then (some true) else ((seal_Seal.f k (rdOf ByteArray.empty x0 x10)).bind fun t195 => (if x10 < x7 then (ravelinlaw4_SealRows.j2 k x0 x2 x7 x8 (wrap64 (x9 + (t195.size : Int))) x10 t195) else (ravelinlaw4_SealRows.j2 k x0 x2 x7 x8 x9 x10 t195)))) else (none)) else ((seal_All.f k x8).bind fun bt202 => (if x2 = 0 then ((ravelinlaw4_same.f k bt202.1 x0).bind fun t206 => (if t206 = true then (some (bt202.2 == (x8.size : Int))) else (some false))) else (if 0 ≤ x7 then (if x7 ≤ (x0.length : Int) then ((ravelinlaw4_same.f k bt202.1 (x0.take (x7 : Int).toNat)).bind fun t208 => (if t208 = true then (some (bt202.2 == x9)) else (some false))) else (none)) else (none))))
def ravelinlaw4_SealRows.j2 : Nat → List ByteArray → Int → Int → ByteArray → Int → Int → ByteArray → Option (Bool)
  | 0, _, _, _, _, _, _, _ => none
  | k + 1, x0, x2, x7, x8, x9, x10, x11 => if x10 = x7 then (if x2 = 0 then (if x8.size + x11.size ≤ 9223372036854775807 then (ravelinlaw4_SealRows.l0 k x0 x2 x7 (x8 ++ x11) x9 (wrap64 (x10 + 1))) else (none)) else (if 0 ≤ x10 then (if x10 < (x0.length : Int) then (if 0 ≤ (wrap64 ((wrap64 ((x11.size : Int) - ((rdOf ByteArray.empty x0 x10).size : Int))) - 1)) then (if (wrap64 ((wrap64 ((x11.size : Int) - ((rdOf ByteArray.empty x0 x10).size : Int))) - 1)) ≤ (x11.size : Int) then (if (wrap64 ((wrap64 ((x11.size : Int) - ((rdOf ByteArray.empty x0 x10).size : Int))) - 1)) < (x11.size : Int) then ((some (([Go.bits .xor .u8 (bt x11 (wrap64 ((wrap64 ((x11.size : Int) - ((rdOf ByteArray.empty x0 x10).size : Int))) - 1))) x2] : List Int) : List Int)).bind fun y198 => (if (x11.extract 0 ((wrap64 ((wrap64 ((x11.size : Int) - ((rdOf ByteArray.empty x0 x10).size : Int))) - 1)) : Int).toNat).size + (strOfNums y198).size ≤ 9223372036854775807 then (if 0 ≤ (wrap64 ((x11.size : Int) - ((rdOf ByteArray.empty x0 x10).size : Int))) then (if (wrap64 ((x11.size : Int) - ((rdOf ByteArray.empty x0 x10).size : Int))) ≤ (x11.size : Int) then (if ((x11.extract 0 ((wrap64 ((wrap64 ((x11.size : Int) - ((rdOf ByteArray.empty x0 x10).size : Int))) - 1)) : Int).toNat) ++ (strOfNums y198)).size + (x11.extract ((wrap64 ((x11.size : Int) - ((rdOf ByteArray.empty x0 x10).size : Int))) : Int).toNat x11.size).size ≤ 9223372036854775807 then (if x8.size + (((x11.extract 0 ((wrap64 ((wrap64 ((x11.size : Int) - ((rdOf ByteArray.empty x0 x10).size : Int))) - 1)) : Int).toNat) ++ (strOfNums y198)) ++ (x11.extract ((wrap64 ((x11.size : Int) - ((rdOf ByteArray.empty x0 x10).size : Int))) : Int).toNat x11.size)).size ≤ 9223372036854775807 then (ravelinlaw4_SealRows.l0 k x0 x2 x7 (x8 ++ (((x11.extract 0 ((wrap64 ((wrap64 ((x11.size : Int) - ((rdOf ByteArray.empty x0 x10).size : Int))) - 1)) : Int).toNat) ++ (strOfNums y198)) ++ (x11.extract ((wrap64 ((x11.size : Int) - ((rdOf ByteArray.empty x0 x10).size : Int))) : Int).toNat x11.size))) x9 (wrap64 (x10 + 1))) else (none)) else (none)) else (none)) else (none)) else (none))) else (none)) else (none)) else (none)) else (none)) else (none))) else (if x8.size + x11.size ≤ 9223372036854775807 then (ravelinlaw4_SealRows.l0 k x0 x2 x7 (x8 ++ x11) x9 (wrap64 (x10 + 1))) else (none))
end
def ravelinlaw4_SealRows.f (k : Nat) (l0 : List ByteArray) (a1 : Int) (a2 : Int) : Option (Bool) := (ravelinlaw4_known.f k).bind fun t192 => (if t192 = true then (if (l0.length : Int) > 12 then (ravelinlaw4_SealRows.j0 k l0 a1 a2 true) else (ravelinlaw4_SealRows.j0 k l0 a1 a2 ((l0.length : Int) == 0))) else (some false))
theorem ravelinlaw4_SealRows.mono_l : ∀ k, (∀ y0 y1 y2 y3, LeO (ravelinlaw4_SealRows.j0 k y0 y1 y2 y3) (ravelinlaw4_SealRows.j0 (k + 1) y0 y1 y2 y3)) ∧ (∀ y0 y1 y2 y3 y4 y5, LeO (ravelinlaw4_SealRows.l0 k y0 y1 y2 y3 y4 y5) (ravelinlaw4_SealRows.l0 (k + 1) y0 y1 y2 y3 y4 y5)) ∧ (∀ y0 y1 y2 y3 y4 y5 y6, LeO (ravelinlaw4_SealRows.j2 k y0 y1 y2 y3 y4 y5 y6) (ravelinlaw4_SealRows.j2 (k + 1) y0 y1 y2 y3 y4 y5 y6))
  | 0 => ⟨fun _ _ _ _ r h => by simp [ravelinlaw4_SealRows.j0] at h, fun _ _ _ _ _ _ r h => by simp [ravelinlaw4_SealRows.l0] at h, fun _ _ _ _ _ _ _ r h => by simp [ravelinlaw4_SealRows.j2] at h⟩
  | k + 1 => by
    obtain ⟨ih0, ih1, ih2⟩ := ravelinlaw4_SealRows.mono_l k
    refine ⟨?_, ?_, ?_⟩
    · intro y0 y1 y2 y3
      unfold ravelinlaw4_SealRows.j0
      repeat' first
      | (with_reducible exact ih0 _ _ _ _)
      | (with_reducible exact ih1 _ _ _ _ _ _)
      | (with_reducible exact ih2 _ _ _ _ _ _ _)
      | (with_reducible exact ravelinlaw4_known.mono _)
      | (with_reducible exact ravelinlaw4_same.mono _ _ _)
      | (with_reducible exact seal_All.mono _ _)
      | (with_reducible exact seal_Seal.mono _ _)
      | (with_reducible exact LeO.refl _)
      | (with_reducible exact LeO.none _)
      | (with_reducible refine LeO.ite ?_ ?_)
      | (with_reducible refine LeO.bind ?_ (fun _ => ?_))
      | exact ih0 _ _ _ _
      | exact ih1 _ _ _ _ _ _
      | exact ih2 _ _ _ _ _ _ _
      | exact ravelinlaw4_known.mono _
      | exact ravelinlaw4_same.mono _ _ _
      | exact seal_All.mono _ _
      | exact seal_Seal.mono _ _
      | exact LeO.none _
      | refine LeO.ite ?_ ?_
      | refine LeO.bind ?_ (fun _ => ?_)
    · intro y0 y1 y2 y3 y4 y5
      unfold ravelinlaw4_SealRows.l0
      repeat' first
      | (with_reducible exact ih0 _ _ _ _)
      | (with_reducible exact ih1 _ _ _ _ _ _)
      | (with_reducible exact ih2 _ _ _ _ _ _ _)
      | (with_reducible exact ravelinlaw4_known.mono _)
      | (with_reducible exact ravelinlaw4_same.mono _ _ _)
      | (with_reducible exact seal_All.mono _ _)
      | (with_reducible exact seal_Seal.mono _ _)
      | (with_reducible exact LeO.refl _)
      | (with_reducible exact LeO.none _)
      | (with_reducible refine LeO.ite ?_ ?_)
      | (with_reducible refine LeO.bind ?_ (fun _ => ?_))
      | exact ih0 _ _ _ _
      | exact ih1 _ _ _ _ _ _
      | exact ih2 _ _ _ _ _ _ _
      | exact ravelinlaw4_known.mono _
      | exact ravelinlaw4_same.mono _ _ _
      | exact seal_All.mono _ _
      | exact seal_Seal.mono _ _
      | exact LeO.none _
      | refine LeO.ite ?_ ?_
      | refine LeO.bind ?_ (fun _ => ?_)
    · intro y0 y1 y2 y3 y4 y5 y6
      unfold ravelinlaw4_SealRows.j2
      repeat' first
      | (with_reducible exact ih0 _ _ _ _)
      | (with_reducible exact ih1 _ _ _ _ _ _)
      | (with_reducible exact ih2 _ _ _ _ _ _ _)
      | (with_reducible exact ravelinlaw4_known.mono _)
      | (with_reducible exact ravelinlaw4_same.mono _ _ _)
      | (with_reducible exact seal_All.mono _ _)
      | (with_reducible exact seal_Seal.mono _ _)
      | (with_reducible exact LeO.refl _)
      | (with_reducible exact LeO.none _)
      | (with_reducible refine LeO.ite ?_ ?_)
      | (with_reducible refine LeO.bind ?_ (fun _ => ?_))
      | exact ih0 _ _ _ _
      | exact ih1 _ _ _ _ _ _
      | exact ih2 _ _ _ _ _ _ _
      | exact ravelinlaw4_known.mono _
      | exact ravelinlaw4_same.mono _ _ _
      | exact seal_All.mono _ _
      | exact seal_Seal.mono _ _
      | exact LeO.none _
      | refine LeO.ite ?_ ?_
      | refine LeO.bind ?_ (fun _ => ?_)
theorem ravelinlaw4_SealRows.mono : ∀ a0 a1 a2 k, LeO (ravelinlaw4_SealRows.f k a0 a1 a2) (ravelinlaw4_SealRows.f (k + 1) a0 a1 a2) := by
  intro a0 a1 a2 k
  obtain ⟨ih0, ih1, ih2⟩ := ravelinlaw4_SealRows.mono_l k
  unfold ravelinlaw4_SealRows.f
  repeat' first
      | (with_reducible exact ih0 _ _ _ _)
      | (with_reducible exact ih1 _ _ _ _ _ _)
      | (with_reducible exact ih2 _ _ _ _ _ _ _)
      | (with_reducible exact ravelinlaw4_known.mono _)
      | (with_reducible exact ravelinlaw4_same.mono _ _ _)
      | (with_reducible exact seal_All.mono _ _)
      | (with_reducible exact seal_Seal.mono _ _)
      | (with_reducible exact LeO.refl _)
      | (with_reducible exact LeO.none _)
      | (with_reducible refine LeO.ite ?_ ?_)
      | (with_reducible refine LeO.bind ?_ (fun _ => ?_))
      | exact ih0 _ _ _ _
      | exact ih1 _ _ _ _ _ _
      | exact ih2 _ _ _ _ _ _ _
      | exact ravelinlaw4_known.mono _
      | exact ravelinlaw4_same.mono _ _ _
      | exact seal_All.mono _ _
      | exact seal_Seal.mono _ _
      | exact LeO.none _
      | refine LeO.ite ?_ ?_
      | refine LeO.bind ?_ (fun _ => ?_)
def ravelinlaw4_SealRows.T16 : Bool × List (List Nat × List Nat) := (true, [([], []), ([], []), ([1], [1]), ([], []), ([], []), ([3, 4], [3, 4]), ([5], [5]), ([6], [6]), ([2, 7], [2, 7]), ([8], [8]), ([0, 9], [0, 9]), ([], []), ([], []), ([12], [12]), ([], []), ([], []), ([14, 15], [14, 15]), ([16], [16]), ([17], [17]), ([13, 18], [13, 18]), ([19], [19]), ([11, 20], [11, 20]), ([], []), ([21, 22], [21, 22]), ([23], [23]), ([24], [24]), ([10, 25], [10, 25]), ([], []), ([], []), ([28], [28]), ([], []), ([], []), ([30, 31], [30, 31]), ([32], [32]), ([33], [33]), ([29, 34], [29, 34]), ([27, 35], [27, 35]), ([26, 36], [26, 36]), ([37, 0, 1, 2, 3, 4, 5, 6, 7, 8, 9, 10, 11, 12, 13, 14, 15, 16, 17, 18, 19, 20, 21, 22, 23, 24, 25, 26, 27, 28, 29, 30, 31, 32, 33, 34, 35, 36, 37], [0, 1, 11, 12, 27, 28, 37])])
def ravelinlaw4_SealRows.B16 : List Nat := [0, 0, 2, 0, 0, 24, 56, 120, 254, 510, 1023, 0, 0, 4096, 0, 0, 49152, 114688, 245760, 520192, 1044480, 2095104, 0, 8386560, 16775168, 33552384, 67108863, 0, 0, 268435456, 0, 0, 3221225472, 7516192768, 16106127360, 34091302912, 68585259008, 137438953471, 274877906943]
theorem ravelinlaw4_SealRows.tab16 : rtab .any (opsOf Try.f5 16) = ravelinlaw4_SealRows.T16 := by kernel_rfl
theorem ravelinlaw4_SealRows.bits16 : waitsOk ravelinlaw4_SealRows.T16.2 ravelinlaw4_SealRows.B16 = true := by kernel_rfl
set_option maxHeartbeats 8000000 in
set_option maxRecDepth 100000 in
theorem ravelinlaw4_SealRows.calls (k : Nat) (A0 : Option Addr) (c0 : Nat) (l0 : List ByteArray) (a1 : Int) (a2 : Int) (r : Bool) (w : World) (hr0 : Kd.C Kd.string w A0 l0.length l0) (hc0 : l0.length ≤ c0) (h : ravelinlaw4_SealRows.f k l0 a1 a2 = some r) (hr_ : r = true) :
    Calls Try.prog 5 #[.slice A0 l0.length c0, .int .u8 a1, .int .u8 a2] w fun e w' => e = .returned (.bool r) ∧ Below w.heap.size w w' := by
  have HR0 := Aside0.mk hr0
  have HC0 := Aside0.mk hc0
  clear hr0 hc0
  have HB := Aside0.mk (Below.refl w.heap.size w)
  have H : ((ravelinlaw4_known.f k).bind fun t192 => (if t192 = true then (if (l0.length : Int) > 12 then (ravelinlaw4_SealRows.j0 k l0 a1 a2 true) else (ravelinlaw4_SealRows.j0 k l0 a1 a2 ((l0.length : Int) == 0))) else (some false))) = some r := h
  clear h
  have HR_ := Aside0.mk hr_
  clear hr_
  replace H := Option.bind_eq_some_iff.mp H
  obtain ⟨t192, A40, H⟩ := H
  replace H : (if t192 = true then (if (l0.length : Int) > 12 then (ravelinlaw4_SealRows.j0 k l0 a1 a2 true) else (ravelinlaw4_SealRows.j0 k l0 a1 a2 ((l0.length : Int) == 0))) else (some false)) = some r := H
  have A4 := Aside0.mk A40
  clear A40
  by_cases c5 : t192 = true
  · subst c5
    have H1 : (if (l0.length : Int) > 12 then (ravelinlaw4_SealRows.j0 k l0 a1 a2 true) else (ravelinlaw4_SealRows.j0 k l0 a1 a2 ((l0.length : Int) == 0))) = some r := by rw [if_pos rfl] at H; exact H
    clear H
    have H := H1
    clear H1
    have HC6 := Aside0.mk H
    clear H
    go_enter Try.func5, Try.ntmps5
    go_upto_region 3 with (first | ((with_reducible refine gate_callee (f := 7) rfl ?_); refine goesL_ (some 14) rfl rfl Try.func7 (by kernel_rfl) rfl #[] rfl (by (try simp only [List.map_toArray, List.map_cons, List.map_nil]); first | done | rfl | (simp only [List.length_drop, List.length_take]; rfl)) ?_; (with_reducible refine (ravelinlaw4_known.calls k  true _ A4.out (by first | rfl | assumption | exact of_decide_eq_true (by assumption))).mono ?_); rintro e w7 ⟨rfl, hb⟩; refine ⟨_, rfl, ?_⟩; have n0_ := Aside0.mk (below_step (by repeat (first | (with_reducible first | exact HB.out | apply below_alloc | apply pw_below_drewN | apply below_drew1) | exact HB.out)) hb); clear HB; have HB := n0_; clear n0_; (try clear hb); (try clear hb2); (try clear hk); (try clear hi)))
    (try simp only [Act.put, List.setIfInBounds_toArray, List.set_cons_zero, List.set_cons_succ])
    go_cut [23] (fun v23 wc => ∃ (kq : Nat) (x23_5 : Bool), v23 = .bool x23_5 ∧ Aside0 (ravelinlaw4_SealRows.j0 kq l0 a1 a2 x23_5 = some r) ∧ Aside0 (kq ≤ k) ∧ Aside0 (Below w.heap.size w wc))
    case first =>
      have H := HC6.out
      clear HC6
      by_cases c8 : (l0.length : Int) > 12
      · rw [if_pos c8] at H
        have c8b0 : decide (12 < (l0.length : Int)) = true := decide_eq_true c8
        have c8b1 : decide (12 < l0.length) = true := decide_eq_true (by omega)
        clear c8
        (first | rw [c8b0] | (simp only [i64_w, i32_w]; rw [c8b0]) | skip)
        have H' := Aside0.mk H
        clear H
        go_wp2
        go_meet
        case rel => exact ⟨_, (true), (by first | rfl | (simp; done) | (simp [*]; done)), H', ⟨by first | omega | exact Nat.le_refl _⟩, ⟨by repeat (first | (with_reducible first | exact HB.out | apply below_alloc | apply pw_below_drewN | apply below_drew1) | exact HB.out)⟩⟩
      · rw [if_neg c8] at H
        have c8b0 : decide (12 < (l0.length : Int)) = false := decide_eq_false c8
        have c8b1 : decide (12 < l0.length) = false := decide_eq_false (by omega)
        clear c8
        (first | rw [c8b0] | (simp only [i64_w, i32_w]; rw [c8b0]) | skip)
        have H' := Aside0.mk H
        clear H
        go_wp2
        go_meet
        case rel => exact ⟨_, (((l0.length : Int) == 0)), (by first | rfl | (simp; done) | (simp [*]; done)), H', ⟨by first | omega | exact Nat.le_refl _⟩, ⟨by repeat (first | (with_reducible first | exact HB.out | apply below_alloc | apply pw_below_drewN | apply below_drew1) | exact HB.out)⟩⟩
    case rest =>
      clear HC6
      try clear p2
      try clear c5
      try clear c7
      try clear c8
      try clear c8b0
      try clear c8b1
      obtain ⟨kq, x23_5, rfl, HA, HJ5, HB⟩ := hcut
      cases kq with
      | zero => exact absurd HA.out (by simp [ravelinlaw4_SealRows.j0])
      | succ kj5 =>
        have H := HA.out
        clear HA
        simp only [ravelinlaw4_SealRows.j0] at H
        by_cases c9 : x23_5 = true
        · subst c9
          have H1 : (some true) = some r := by rw [if_pos rfl] at H; exact H
          clear H
          have H := H1
          clear H1
          obtain rfl := Option.some.inj H
          go_wp2
          go_ret
          exact ⟨by first | rfl | (simp [errW_none, errW_some] <;> rfl) | (simp [*, errW_none, errW_some] <;> rfl), by repeat (first | (with_reducible first | exact HB.out | apply below_alloc | apply pw_below_drewN | apply below_drew1) | exact HB.out)⟩
        · replace c9 := Bool.eq_false_iff.mpr c9
          subst c9
          have H1 : (if (l0.length : Int) = 0 then (none) else (ravelinlaw4_SealRows.l0 kj5 l0 a2 (Int.tmod (wrap64 (a1)) (l0.length : Int)) (⟨#[]⟩ : ByteArray) 0 0)) = some r := by rw [if_neg (show ¬ (false = true) by decide)] at H; exact H
          clear H
          have H := H1
          clear H1
          by_cases c10 : (l0.length : Int) = 0
          · rw [if_pos c10] at H
            exact absurd H (by simp)
          · rw [if_neg c10] at H
            have c10b0 : ((l0.length : Int) == 0) = false := beq_eq_false_iff_ne.mpr c10
            have c10b1 : ((l0.length : Int) != 0) = true := bne_iff_ne.mpr c10
            have c10b2 : ¬ (l0 = []) := fun h_ => c10 (by rw [h_]; rfl)
            have H' := Aside0.mk H
            clear H
            go_wp2
            go_loopg [8, 9, 10] kj5 (fun kq v8 v9 v10 w' => ∃ (x8_2 : ByteArray) (x9_2 : Int) (x10_2 : Int), v8 = .string x8_2 ∧ v9 = .int .i64 x9_2 ∧ v10 = .int .i64 x10_2 ∧ Aside0 (ravelinlaw4_SealRows.l0 kq l0 a2 (Int.tmod (wrap64 (a1)) (l0.length : Int)) x8_2 x9_2 x10_2 = some r) ∧ Aside0 (kq ≤ kj5) ∧ Aside0 (Below w.heap.size w w'))
            case atStart => exact ⟨((⟨#[]⟩ : ByteArray)), (0), (0), (by first | rfl | (simp; done) | (simp [*]; done)), (by first | rfl | (simp; done) | (simp [*]; done)), (by first | rfl | (simp; done) | (simp [*]; done)), H', ⟨Nat.le_refl _⟩, ⟨by repeat (first | (with_reducible first | exact HB.out | apply below_alloc | apply pw_below_drewN | apply below_drew1) | exact HB.out)⟩⟩
            case round =>
              clear H'
              try clear c1
              try clear p2
              try clear c5
              try clear p6
              try clear c7
              try clear c8
              try clear c8b0
              try clear c8b1
              try clear c9
              try clear c10
              try clear c10b0
              try clear c10b1
              try clear c10b2
              try clear p2
              obtain ⟨x8_2, x9_2, x10_2, rfl, rfl, rfl, HA, HK2, HB⟩ := hrel
              cases gk with
              | zero => exact absurd HA.out (by simp [ravelinlaw4_SealRows.l0])
              | succ k2 =>
                have H := HA.out
                clear HA
                simp only [ravelinlaw4_SealRows.l0] at H
                by_cases c11 : x10_2 < (l0.length : Int)
                · rw [if_pos c11] at H
                  have c11b0 : decide (x10_2 < (l0.length : Int)) = true := decide_eq_true c11
                  clear c11
                  by_cases c12 : 0 ≤ x10_2
                  · rw [if_pos c12] at H
                    have c12b0 : decide (0 ≤ x10_2) = true := decide_eq_true c12
                    clear c12
                    by_cases c13 : ((rdOf ByteArray.empty l0 x10_2).size : Int) > 100
                    · rw [if_pos c13] at H
                      have c13b0 : decide (100 < ((rdOf ByteArray.empty l0 x10_2).size : Int)) = true := decide_eq_true c13
                      have c13b1 : decide (100 < (rdOf ByteArray.empty l0 x10_2).size) = true := decide_eq_true (by omega)
                      clear c13
                      obtain rfl := Option.some.inj H
                      have p193 : 0 ≤ (x10_2 : Int) := of_decide_eq_true (by first | (with_reducible assumption) | assumption)
                      have q193 : x10_2 < (l0.length : Int) := of_decide_eq_true (by first | (with_reducible assumption) | assumption)
                      obtain ⟨ad193, e193, hx193_0⟩ := Kd.at_string HR0.out x10_2 p193 q193
                      cases e193
                      replace hx193_0 := (HB.out.cell (World.block_lt_of_cell? w _ hx193_0)).trans hx193_0
                      replace p193 := eq_true p193
                      replace q193 := eq_true q193
                      go_wp2
                      go_ret
                      exact ⟨by first | rfl | (simp [errW_none, errW_some] <;> rfl) | (simp [*, errW_none, errW_some] <;> rfl), by repeat (first | (with_reducible first | exact HB.out | apply below_alloc | apply pw_below_drewN | apply below_drew1) | exact HB.out)⟩
                    · rw [if_neg c13] at H
                      have c13b0 : decide (100 < ((rdOf ByteArray.empty l0 x10_2).size : Int)) = false := decide_eq_false c13
                      have c13b1 : decide (100 < (rdOf ByteArray.empty l0 x10_2).size) = false := decide_eq_false (by omega)
                      clear c13
                      replace H := Option.bind_eq_some_iff.mp H
                      obtain ⟨t195, A140, H⟩ := H
                      replace H : (if x10_2 < (Int.tmod (wrap64 (a1)) (l0.length : Int)) then (ravelinlaw4_SealRows.j2 k2 l0 a2 (Int.tmod (wrap64 (a1)) (l0.length : Int)) x8_2 (wrap64 (x9_2 + (t195.size : Int))) x10_2 t195) else (ravelinlaw4_SealRows.j2 k2 l0 a2 (Int.tmod (wrap64 (a1)) (l0.length : Int)) x8_2 x9_2 x10_2 t195)) = some r := H
                      have A14 := Aside0.mk A140
                      clear A140
                      have HC15 := Aside0.mk H
                      clear H
                      have p193 : 0 ≤ (x10_2 : Int) := of_decide_eq_true (by first | (with_reducible assumption) | assumption)
                      have q193 : x10_2 < (l0.length : Int) := of_decide_eq_true (by first | (with_reducible assumption) | assumption)
                      obtain ⟨ad193, e193, hx193_0⟩ := Kd.at_string HR0.out x10_2 p193 q193
                      cases e193
                      replace hx193_0 := (HB.out.cell (World.block_lt_of_cell? w _ hx193_0)).trans hx193_0
                      replace p193 := eq_true p193
                      replace q193 := eq_true q193
                      have p194 : 0 ≤ (x10_2 : Int) := of_decide_eq_true (by first | (with_reducible assumption) | assumption)
                      have q194 : x10_2 < (l0.length : Int) := of_decide_eq_true (by first | (with_reducible assumption) | assumption)
                      obtain ⟨ad194, e194, hx194_0⟩ := Kd.at_string HR0.out x10_2 p194 q194
                      obtain rfl : ad193 = ad194 := (by injection e194)
                      replace hx194_0 := (HB.out.cell (World.block_lt_of_cell? w _ hx194_0)).trans hx194_0
                      replace p194 := eq_true p194
                      replace q194 := eq_true q194
                      go_upto_if 48 with (first | ((with_reducible refine gate_callee (f := 14) rfl ?_); refine goesL_ (some 45) rfl rfl Try.func14 (by kernel_rfl) rfl #[.string (rdOf ByteArray.empty l0 x10_2)] rfl (by (try simp only [List.map_toArray, List.map_cons, List.map_nil]); first | done | rfl | (simp only [List.length_drop, List.length_take]; rfl)) ?_; (with_reducible refine (seal_Seal.calls k2 (rdOf ByteArray.empty l0 x10_2) t195 _ A14.out).mono ?_); rintro e w16 ⟨rfl, hb⟩; refine ⟨_, rfl, ?_⟩; have n0_ := Aside0.mk (below_step (by repeat (first | (with_reducible first | exact HB.out | apply below_alloc | apply pw_below_drewN | apply below_drew1) | exact HB.out)) hb); clear HB; have HB := n0_; clear n0_; (try clear hb); (try clear hb2); (try clear hk); (try clear hi)))
                      (try simp only [Act.put, List.setIfInBounds_toArray, List.set_cons_zero, List.set_cons_succ])
                      go_cut [9] (fun v9 wc => ∃ (kq : Nat) (x9_14 : Int), v9 = .int .i64 x9_14 ∧ Aside0 (ravelinlaw4_SealRows.j2 kq l0 a2 (Int.tmod (wrap64 (a1)) (l0.length : Int)) x8_2 x9_14 x10_2 t195 = some r) ∧ Aside0 (kq ≤ k2) ∧ Aside0 (Below w.heap.size w wc))
                      case first =>
                        have H := HC15.out
                        clear HC15
                        by_cases c17 : x10_2 < (Int.tmod (wrap64 (a1)) (l0.length : Int))
                        · rw [if_pos c17] at H
                          have c17b0 : decide (x10_2 < (Int.tmod (wrap64 (a1)) (l0.length : Int))) = true := decide_eq_true c17
                          clear c17
                          (first | rw [c17b0] | (simp only [i64_w, i32_w]; rw [c17b0]) | skip)
                          have H' := Aside0.mk H
                          clear H
                          go_wp2
                          go_meet
                          case rel => exact ⟨_, (wrap64 (x9_2 + (t195.size : Int))), (by first | rfl | (simp; done) | (simp [*]; done)), H', ⟨by have := HJ5.out; have := HK2.out; first | omega | exact Nat.le_refl _⟩, ⟨by repeat (first | (with_reducible first | exact HB.out | apply below_alloc | apply pw_below_drewN | apply below_drew1) | exact HB.out)⟩⟩
                        · rw [if_neg c17] at H
                          have c17b0 : decide (x10_2 < (Int.tmod (wrap64 (a1)) (l0.length : Int))) = false := decide_eq_false c17
                          clear c17
                          (first | rw [c17b0] | (simp only [i64_w, i32_w]; rw [c17b0]) | skip)
                          have H' := Aside0.mk H
                          clear H
                          go_wp2
                          go_meet
                          case rel => exact ⟨_, (x9_2), (by first | rfl | (simp; done) | (simp [*]; done)), H', ⟨by have := HJ5.out; have := HK2.out; first | omega | exact Nat.le_refl _⟩, ⟨by repeat (first | (with_reducible first | exact HB.out | apply below_alloc | apply pw_below_drewN | apply below_drew1) | exact HB.out)⟩⟩
                      case rest =>
                        clear HC15
                        try clear c1
                        try clear p1
                        try clear q1
                        try clear hx1
                        try clear p2
                        try clear c5
                        try clear p6
                        try clear c7
                        try clear c8
                        try clear c8b0
                        try clear c8b1
                        try clear c9
                        try clear c10
                        try clear c10b0
                        try clear c10b1
                        try clear c10b2
                        try clear c11
                        try clear c11b0
                        try clear c12
                        try clear c12b0
                        try clear c13
                        try clear c13b0
                        try clear c13b1
                        try clear c14
                        try clear c17
                        try clear c17b0
                        try clear hx193_0
                        try clear hx194_0
                        try clear p193
                        try clear p194
                        try clear p2
                        try clear p6
                        try clear q193
                        try clear q194
                        obtain ⟨kq, x9_14, rfl, HA, HJ14, HB⟩ := hcut
                        cases kq with
                        | zero => exact absurd HA.out (by simp [ravelinlaw4_SealRows.j2])
                        | succ kj14 =>
                          have H := HA.out
                          clear HA
                          simp only [ravelinlaw4_SealRows.j2] at H
                          by_cases c18 : x10_2 = (Int.tmod (wrap64 (a1)) (l0.length : Int))
                          · rw [if_pos c18] at H
                            have c18b0 : (x10_2 == (Int.tmod (wrap64 (a1)) (l0.length : Int))) = true := beq_iff_eq.mpr c18
                            have c18b1 : (x10_2 != (Int.tmod (wrap64 (a1)) (l0.length : Int))) = false := bne_eq_false_iff_eq.mpr c18
                            clear c18
                            by_cases c19 : a2 = 0
                            · rw [if_pos c19] at H
                              have c19b0 : (a2 == 0) = true := beq_iff_eq.mpr c19
                              have c19b1 : (a2 != 0) = false := bne_eq_false_iff_eq.mpr c19
                              clear c19
                              by_cases c20 : x8_2.size + t195.size ≤ 9223372036854775807
                              · rw [if_pos c20] at H
                                have c20b0 := eq_true c20
                                have c20b1 : decide (x8_2.size + t195.size ≤ 9223372036854775807) = true := decide_eq_true c20
                                try have c20b2 : (9223372036854775807 < x8_2.size + t195.size) = False := eq_false (Nat.not_lt.2 c20)
                                have H' := Aside0.mk H
                                clear H
                                go_wp2
                                go_roundg kj14
                                case measure => have := HJ5.out; have := HK2.out; have := HJ14.out; omega
                                case rel => exact ⟨(x8_2 ++ t195), (x9_14), (wrap64 (x10_2 + 1)), (by first | rfl | (simp; done) | (simp [*]; done)), (by first | rfl | (simp; done) | (simp [*]; done)), (by first | rfl | (simp; done) | (simp [*]; done)), H', ⟨by have := HJ5.out; have := HK2.out; have := HJ14.out; omega⟩, ⟨by repeat (first | (with_reducible first | exact HB.out | apply below_alloc | apply pw_below_drewN | apply below_drew1) | exact HB.out)⟩⟩
                              · rw [if_neg c20] at H
                                exact absurd H (by simp)
                            · rw [if_neg c19] at H
                              have c19b0 : (a2 == 0) = false := beq_eq_false_iff_ne.mpr c19
                              have c19b1 : (a2 != 0) = true := bne_iff_ne.mpr c19
                              by_cases c21 : 0 ≤ x10_2
                              · rw [if_pos c21] at H
                                have c21b0 : decide (0 ≤ x10_2) = true := decide_eq_true c21
                                clear c21
                                by_cases c22 : x10_2 < (l0.length : Int)
                                · rw [if_pos c22] at H
                                  have c22b0 : decide (x10_2 < (l0.length : Int)) = true := decide_eq_true c22
                                  clear c22
                                  obtain ⟨ji23, hji23⟩ : ∃ j_ : Int, (wrap64 ((wrap64 ((t195.size : Int) - ((rdOf ByteArray.empty l0 x10_2).size : Int))) - 1)) = j_ := ⟨_, rfl⟩
                                  replace H : (if 0 ≤ (ji23) then (if (ji23) ≤ (t195.size : Int) then (if (ji23) < (t195.size : Int) then ((some (([Go.bits .xor .u8 (bt t195 (ji23)) a2] : List Int) : List Int)).bind fun y198 => (if (t195.extract 0 ((ji23) : Int).toNat).size + (strOfNums y198).size ≤ 9223372036854775807 then (if 0 ≤ (wrap64 ((t195.size : Int) - ((rdOf ByteArray.empty l0 x10_2).size : Int))) then (if (wrap64 ((t195.size : Int) - ((rdOf ByteArray.empty l0 x10_2).size : Int))) ≤ (t195.size : Int) then (if ((t195.extract 0 ((ji23) : Int).toNat) ++ (strOfNums y198)).size + (t195.extract ((wrap64 ((t195.size : Int) - ((rdOf ByteArray.empty l0 x10_2).size : Int))) : Int).toNat t195.size).size ≤ 9223372036854775807 then (if x8_2.size + (((t195.extract 0 ((ji23) : Int).toNat) ++ (strOfNums y198)) ++ (t195.extract ((wrap64 ((t195.size : Int) - ((rdOf ByteArray.empty l0 x10_2).size : Int))) : Int).toNat t195.size)).size ≤ 9223372036854775807 then (ravelinlaw4_SealRows.l0 kj14 l0 a2 (Int.tmod (wrap64 (a1)) (l0.length : Int)) (x8_2 ++ (((t195.extract 0 ((ji23) : Int).toNat) ++ (strOfNums y198)) ++ (t195.extract ((wrap64 ((t195.size : Int) - ((rdOf ByteArray.empty l0 x10_2).size : Int))) : Int).toNat t195.size))) x9_14 (wrap64 (x10_2 + 1))) else (none)) else (none)) else (none)) else (none)) else (none))) else (none)) else (none)) else (none)) = some r := by first | (rw [hji23] at H; exact H) | (simp only [hji23] at H ⊢; exact H)
                                  have hji23w : (IntKind.i64.wrap ((wrap64 ((t195.size : Int) - ((rdOf ByteArray.empty l0 x10_2).size : Int))) - 1)) = ji23 := (i64_w _).trans hji23
                                  by_cases c24 : 0 ≤ (ji23)
                                  · rw [if_pos c24] at H
                                    have c24b0 := eq_true c24
                                    have c24b1 : decide (0 ≤ (ji23)) = true := decide_eq_true c24
                                    clear c24
                                    by_cases c25 : (ji23) ≤ (t195.size : Int)
                                    · rw [if_pos c25] at H
                                      have c25b0 := eq_true c25
                                      have c25b1 : decide ((ji23) ≤ (t195.size : Int)) = true := decide_eq_true c25
                                      clear c25
                                      by_cases c26 : (ji23) < (t195.size : Int)
                                      · rw [if_pos c26] at H
                                        have c26b0 : decide ((ji23) < (t195.size : Int)) = true := decide_eq_true c26
                                        clear c26
                                        obtain ⟨y198, hy198⟩ : ∃ y_ : List Int, y_ = (([Go.bits .xor .u8 (bt t195 (ji23)) a2] : List Int)) := ⟨_, rfl⟩
                                        replace H : (if (t195.extract 0 ((ji23) : Int).toNat).size + (strOfNums y198).size ≤ 9223372036854775807 then (if 0 ≤ (wrap64 ((t195.size : Int) - ((rdOf ByteArray.empty l0 x10_2).size : Int))) then (if (wrap64 ((t195.size : Int) - ((rdOf ByteArray.empty l0 x10_2).size : Int))) ≤ (t195.size : Int) then (if ((t195.extract 0 ((ji23) : Int).toNat) ++ (strOfNums y198)).size + (t195.extract ((wrap64 ((t195.size : Int) - ((rdOf ByteArray.empty l0 x10_2).size : Int))) : Int).toNat t195.size).size ≤ 9223372036854775807 then (if x8_2.size + (((t195.extract 0 ((ji23) : Int).toNat) ++ (strOfNums y198)) ++ (t195.extract ((wrap64 ((t195.size : Int) - ((rdOf ByteArray.empty l0 x10_2).size : Int))) : Int).toNat t195.size)).size ≤ 9223372036854775807 then (ravelinlaw4_SealRows.l0 kj14 l0 a2 (Int.tmod (wrap64 (a1)) (l0.length : Int)) (x8_2 ++ (((t195.extract 0 ((ji23) : Int).toNat) ++ (strOfNums y198)) ++ (t195.extract ((wrap64 ((t195.size : Int) - ((rdOf ByteArray.empty l0 x10_2).size : Int))) : Int).toNat t195.size))) x9_14 (wrap64 (x10_2 + 1))) else (none)) else (none)) else (none)) else (none)) else (none)) = some r := by first | (rw [hy198]; with_reducible exact H) | (have H2_ := (Option.bind_some _ _).symm.trans H; rw [hy198]; with_reducible exact H2_) | (have H2_ := (Option.bind_some _ _).symm.trans H; with_reducible exact H2_) | with_reducible exact H | (rw [hy198]; exact H) | exact H
                                        have Ny198 := Aside0.mk hy198
                                        clear hy198
                                        by_cases c28 : (t195.extract 0 ((ji23) : Int).toNat).size + (strOfNums y198).size ≤ 9223372036854775807
                                        · rw [if_pos c28] at H
                                          have c28b0 := eq_true c28
                                          have c28b1 : decide ((t195.extract 0 ((ji23) : Int).toNat).size + (strOfNums y198).size ≤ 9223372036854775807) = true := decide_eq_true c28
                                          (try (have e_0 : (t195.extract 0 (ji23 : Int).toNat).size = (ji23 : Int).toNat := (by have h_ := of_decide_eq_true c25b1; rw [ByteArray.size_extract]; omega); have c28b1e := c28b1; simp only [ByteArray.size_append, e_0] at c28b1e; clear e_0))
                                          try have c28b2 : (9223372036854775807 < (t195.extract 0 ((ji23) : Int).toNat).size + (strOfNums y198).size) = False := eq_false (Nat.not_lt.2 c28)
                                          (try (have e_0 : (t195.extract 0 (ji23 : Int).toNat).size = (ji23 : Int).toNat := (by have h_ := of_decide_eq_true c25b1; rw [ByteArray.size_extract]; omega); have c28b2e := c28b2; simp only [ByteArray.size_append, e_0] at c28b2e; clear e_0))
                                          obtain ⟨ji29, hji29⟩ : ∃ j_ : Int, (wrap64 ((t195.size : Int) - ((rdOf ByteArray.empty l0 x10_2).size : Int))) = j_ := ⟨_, rfl⟩
                                          replace H : (if 0 ≤ (ji29) then (if (ji29) ≤ (t195.size : Int) then (if ((t195.extract 0 ((ji23) : Int).toNat) ++ (strOfNums y198)).size + (t195.extract ((ji29) : Int).toNat t195.size).size ≤ 9223372036854775807 then (if x8_2.size + (((t195.extract 0 ((ji23) : Int).toNat) ++ (strOfNums y198)) ++ (t195.extract ((ji29) : Int).toNat t195.size)).size ≤ 9223372036854775807 then (ravelinlaw4_SealRows.l0 kj14 l0 a2 (Int.tmod (wrap64 (a1)) (l0.length : Int)) (x8_2 ++ (((t195.extract 0 ((ji23) : Int).toNat) ++ (strOfNums y198)) ++ (t195.extract ((ji29) : Int).toNat t195.size))) x9_14 (wrap64 (x10_2 + 1))) else (none)) else (none)) else (none)) else (none)) = some r := by first | (rw [hji29] at H; exact H) | (simp only [hji29] at H ⊢; exact H)
                                          (try (have hji23ji29 := hji23; rw [hji29] at hji23ji29))
                                          (try (have hji23wji29 := hji23w; rw [hji29] at hji23wji29))
                                          (try (have hji23_ji29 := hji23_; rw [hji29] at hji23_ji29))
                                          have hji29w : (IntKind.i64.wrap ((t195.size : Int) - ((rdOf ByteArray.empty l0 x10_2).size : Int))) = ji29 := (i64_w _).trans hji29
                                          by_cases c30 : 0 ≤ (ji29)
                                          · rw [if_pos c30] at H
                                            have c30b0 := eq_true c30
                                            have c30b1 : decide (0 ≤ (ji29)) = true := decide_eq_true c30
                                            clear c30
                                            by_cases c31 : (ji29) ≤ (t195.size : Int)
                                            · rw [if_pos c31] at H
                                              have c31b0 := eq_true c31
                                              have c31b1 : decide ((ji29) ≤ (t195.size : Int)) = true := decide_eq_true c31
                                              clear c31
                                              by_cases c32 : ((t195.extract 0 ((ji23) : Int).toNat) ++ (strOfNums y198)).size + (t195.extract ((ji29) : Int).toNat t195.size).size ≤ 9223372036854775807
                                              · rw [if_pos c32] at H
                                                have c32b0 := eq_true c32
                                                have c32b1 : decide (((t195.extract 0 ((ji23) : Int).toNat) ++ (strOfNums y198)).size + (t195.extract ((ji29) : Int).toNat t195.size).size ≤ 9223372036854775807) = true := decide_eq_true c32
                                                (try (have e_0 : (t195.extract 0 (ji23 : Int).toNat).size = (ji23 : Int).toNat := (by have h_ := of_decide_eq_true c25b1; rw [ByteArray.size_extract]; omega); have g_0 : (t195.extract (ji29 : Int).toNat t195.size).size = t195.size - (ji29 : Int).toNat := (by rw [ByteArray.size_extract, Nat.min_self]); have c32b1e := c32b1; simp only [ByteArray.size_append, e_0, g_0] at c32b1e; clear e_0; clear g_0))
                                                (try (have c32b1s := c32b1; simp only [ByteArray.size_append] at c32b1s))
                                                try have c32b2 : (9223372036854775807 < ((t195.extract 0 ((ji23) : Int).toNat) ++ (strOfNums y198)).size + (t195.extract ((ji29) : Int).toNat t195.size).size) = False := eq_false (Nat.not_lt.2 c32)
                                                (try (have e_0 : (t195.extract 0 (ji23 : Int).toNat).size = (ji23 : Int).toNat := (by have h_ := of_decide_eq_true c25b1; rw [ByteArray.size_extract]; omega); have g_0 : (t195.extract (ji29 : Int).toNat t195.size).size = t195.size - (ji29 : Int).toNat := (by rw [ByteArray.size_extract, Nat.min_self]); have c32b2e := c32b2; simp only [ByteArray.size_append, e_0, g_0] at c32b2e; clear e_0; clear g_0))
                                                (try (have c32b2s := c32b2; simp only [ByteArray.size_append] at c32b2s))
                                                by_cases c33 : x8_2.size + (((t195.extract 0 ((ji23) : Int).toNat) ++ (strOfNums y198)) ++ (t195.extract ((ji29) : Int).toNat t195.size)).size ≤ 9223372036854775807
                                                · rw [if_pos c33] at H
                                                  have c33b0 := eq_true c33
                                                  have c33b1 : decide (x8_2.size + (((t195.extract 0 ((ji23) : Int).toNat) ++ (strOfNums y198)) ++ (t195.extract ((ji29) : Int).toNat t195.size)).size ≤ 9223372036854775807) = true := decide_eq_true c33
                                                  (try (have e_0 : (t195.extract 0 (ji23 : Int).toNat).size = (ji23 : Int).toNat := (by have h_ := of_decide_eq_true c25b1; rw [ByteArray.size_extract]; omega); have g_0 : (t195.extract (ji29 : Int).toNat t195.size).size = t195.size - (ji29 : Int).toNat := (by rw [ByteArray.size_extract, Nat.min_self]); have c33b1e := c33b1; simp only [ByteArray.size_append, e_0, g_0] at c33b1e; clear e_0; clear g_0))
                                                  (try (have c33b1s := c33b1; simp only [ByteArray.size_append] at c33b1s))
                                                  try have c33b2 : (9223372036854775807 < x8_2.size + (((t195.extract 0 ((ji23) : Int).toNat) ++ (strOfNums y198)) ++ (t195.extract ((ji29) : Int).toNat t195.size)).size) = False := eq_false (Nat.not_lt.2 c33)
                                                  (try (have e_0 : (t195.extract 0 (ji23 : Int).toNat).size = (ji23 : Int).toNat := (by have h_ := of_decide_eq_true c25b1; rw [ByteArray.size_extract]; omega); have g_0 : (t195.extract (ji29 : Int).toNat t195.size).size = t195.size - (ji29 : Int).toNat := (by rw [ByteArray.size_extract, Nat.min_self]); have c33b2e := c33b2; simp only [ByteArray.size_append, e_0, g_0] at c33b2e; clear e_0; clear g_0))
                                                  (try (have c33b2s := c33b2; simp only [ByteArray.size_append] at c33b2s))
                                                  have H' := Aside0.mk H
                                                  clear H
                                                  try go_wp2
                                                  have n0_ := Aside0.mk (below_drew1 HB.out)
                                                  clear HB
                                                  have HB := n0_
                                                  clear n0_
                                                  have p196 : 0 ≤ (x10_2 : Int) := of_decide_eq_true (by first | (with_reducible assumption) | assumption)
                                                  have q196 : x10_2 < (l0.length : Int) := of_decide_eq_true (by first | (with_reducible assumption) | assumption)
                                                  obtain ⟨ad196, e196, hx196_0⟩ := Kd.at_string HR0.out x10_2 p196 q196
                                                  have hw196_0 := hx196_0
                                                  obtain rfl : ad193 = ad196 := (by injection e196)
                                                  replace hx196_0 := (HB.out.cell (World.block_lt_of_cell? w _ hx196_0)).trans hx196_0
                                                  replace p196 := eq_true p196
                                                  replace q196 := eq_true q196
                                                  have p197 : 0 ≤ (x10_2 : Int) := of_decide_eq_true (by first | (with_reducible assumption) | assumption)
                                                  have q197 : x10_2 < (l0.length : Int) := of_decide_eq_true (by first | (with_reducible assumption) | assumption)
                                                  obtain ⟨ad197, e197, hx197_0⟩ := Kd.at_string HR0.out x10_2 p197 q197
                                                  have hw197_0 := hx197_0
                                                  obtain rfl : ad193 = ad197 := (by injection e197)
                                                  replace hx197_0 := (HB.out.cell (World.block_lt_of_cell? w _ hx197_0)).trans hx197_0
                                                  replace p197 := eq_true p197
                                                  replace q197 := eq_true q197
                                                  have p27 : 0 ≤ ((ji23) : Int) := of_decide_eq_true (by first | (with_reducible assumption) | assumption)
                                                  have q27 : (ji23) < (t195.size : Int) := of_decide_eq_true (by first | (with_reducible assumption) | assumption)
                                                  have hx27 := bt_at t195 (ji23)
                                                  replace p27 := eq_true p27
                                                  replace q27 := eq_true q27
                                                  have p201 : 0 ≤ (x10_2 : Int) := of_decide_eq_true (by first | (with_reducible assumption) | assumption)
                                                  have q201 : x10_2 < (l0.length : Int) := of_decide_eq_true (by first | (with_reducible assumption) | assumption)
                                                  obtain ⟨ad201, e201, hx201_0⟩ := Kd.at_string HR0.out x10_2 p201 q201
                                                  have hw201_0 := hx201_0
                                                  obtain rfl : ad193 = ad201 := (by injection e201)
                                                  replace hx201_0 := (HB.out.cell (World.block_lt_of_cell? w _ hx201_0)).trans hx201_0
                                                  replace p201 := eq_true p201
                                                  replace q201 := eq_true q201
                                                  refine start_ (n := 39) (S := fun w' => w'.cell? (ad193.add (x10_2).toNat) = some (.string (rdOf ByteArray.empty l0 x10_2)) ∧ w'.cell? (ad193.add (x10_2).toNat) = some (.string (rdOf ByteArray.empty l0 x10_2)) ∧ w'.cell? (ad193.add (x10_2).toNat) = some (.string (rdOf ByteArray.empty l0 x10_2))) (ds := []) #[false, false, false, false, false, false, false, false, false, false, false, false, false, false, false, false, false, false, false, false, false, false, false, false, false, false, false, false, false, false, false, false, false, false, false, false, false, false, false] (by kernel_rfl) rfl rfl ⟨((HB.out.cell (World.block_lt_of_cell? w _ hw196_0)).trans hw196_0), ((HB.out.cell (World.block_lt_of_cell? w _ hw197_0)).trans hw197_0), ((HB.out.cell (World.block_lt_of_cell? w _ hw201_0)).trans hw201_0)⟩ (fun hHeld => ?_); refine with_tabW ravelinlaw4_SealRows.tab16 ravelinlaw4_SealRows.bits16 (fun HT_ HW_ => ?_)
                                                  generalize wc.drew = w34 at HB hx196_0 hx197_0 hx201_0 hHeld ⊢
                                                  refine pure_ (i := 0) (N := some 60) (v := ?_) (a' := ?_) #[true, false, false, false, false, false, false, false, false, false, false, false, false, false, false, false, false, false, false, false, false, false, false, false, false, false, false, false, false, false, false, false, false, false, false, false, false, false, false] rfl rfl (any_of HT_.out (by kernel_rfl)) (fun _ _ _ h => h) (Or.inl ⟨by rfl, ?_⟩) ?_ ?_
                                                  rotate_left
                                                  · intro w'
                                                    go_simp
                                                    with_reducible rfl
                                                  rotate_left
                                                  · simp only [Act.put, List.setIfInBounds_toArray, List.set_cons_zero, List.set_cons_succ, i64_w, i32_w]
                                                    rfl
                                                  refine pure_ (i := 1) (N := some 61) (v := ?_) (a' := ?_) #[true, true, false, false, false, false, false, false, false, false, false, false, false, false, false, false, false, false, false, false, false, false, false, false, false, false, false, false, false, false, false, false, false, false, false, false, false, false, false] rfl rfl (any_of HT_.out (by kernel_rfl)) (fun _ _ _ h => h) (Or.inl ⟨by rfl, ?_⟩) ?_ ?_
                                                  rotate_left
                                                  · intro w'
                                                    go_simp
                                                    with_reducible rfl
                                                  rotate_left
                                                  · simp only [Act.put, List.setIfInBounds_toArray, List.set_cons_zero, List.set_cons_succ, i64_w, i32_w]
                                                    rfl
                                                  refine pure_ (i := 2) (N := some 62) (v := ?_) (a' := ?_) #[true, true, true, false, false, false, false, false, false, false, false, false, false, false, false, false, false, false, false, false, false, false, false, false, false, false, false, false, false, false, false, false, false, false, false, false, false, false, false] rfl rfl (any_of HT_.out (by kernel_rfl)) (fun _ _ _ h => h) (Or.inl ⟨by rfl, ?_⟩) ?_ ?_
                                                  rotate_left
                                                  · intro w'
                                                    go_simp
                                                    with_reducible rfl
                                                  rotate_left
                                                  · simp only [Act.put, List.setIfInBounds_toArray, List.set_cons_zero, List.set_cons_succ, i64_w, i32_w]
                                                    rfl
                                                  refine pure_ (i := 3) (N := some 63) (v := ?_) (a' := ?_) #[true, true, true, true, false, false, false, false, false, false, false, false, false, false, false, false, false, false, false, false, false, false, false, false, false, false, false, false, false, false, false, false, false, false, false, false, false, false, false] rfl rfl (any_of HT_.out (by kernel_rfl)) (fun _ _ _ h => h) (Or.inl ⟨by rfl, ?_⟩) ?_ ?_
                                                  rotate_left
                                                  · intro w'
                                                    go_simp
                                                    with_reducible rfl
                                                  rotate_left
                                                  · simp only [Act.put, List.setIfInBounds_toArray, List.set_cons_zero, List.set_cons_succ, i64_w, i32_w]
                                                    rfl
                                                  refine pure_ (i := 4) (N := some 64) (v := ?_) (a' := ?_) #[true, true, true, true, true, false, false, false, false, false, false, false, false, false, false, false, false, false, false, false, false, false, false, false, false, false, false, false, false, false, false, false, false, false, false, false, false, false, false] rfl rfl (any_of HT_.out (by kernel_rfl)) (fun _ _ _ h => h) (Or.inl ⟨by rfl, ?_⟩) ?_ ?_
                                                  rotate_left
                                                  · intro w'
                                                    go_simp
                                                    with_reducible rfl
                                                  rotate_left
                                                  · simp only [Act.put, List.setIfInBounds_toArray, List.set_cons_zero, List.set_cons_succ, i64_w, i32_w]
                                                    rfl
                                                  refine pure_ (i := 5) (N := some 65) (v := ?_) (a' := ?_) #[true, true, true, true, true, true, false, false, false, false, false, false, false, false, false, false, false, false, false, false, false, false, false, false, false, false, false, false, false, false, false, false, false, false, false, false, false, false, false] rfl rfl (any_of HT_.out (by kernel_rfl)) (fun _ _ _ h => h) (Or.inl ⟨by rfl, ?_⟩) ?_ ?_
                                                  rotate_left
                                                  · intro w'
                                                    go_simp
                                                    with_reducible rfl
                                                  rotate_left
                                                  · simp only [Act.put, List.setIfInBounds_toArray, List.set_cons_zero, List.set_cons_succ, i64_w, i32_w]
                                                    rfl
                                                  refine pure_ (i := 11) (N := some 71) (v := ?_) (a' := ?_) #[true, true, true, true, true, true, false, false, false, false, false, true, false, false, false, false, false, false, false, false, false, false, false, false, false, false, false, false, false, false, false, false, false, false, false, false, false, false, false] rfl rfl (any_of HT_.out (by kernel_rfl)) (fun _ _ _ h => h) (Or.inl ⟨by rfl, ?_⟩) ?_ ?_
                                                  rotate_left
                                                  · intro w'
                                                    go_simp
                                                    with_reducible rfl
                                                  rotate_left
                                                  · simp only [Act.put, List.setIfInBounds_toArray, List.set_cons_zero, List.set_cons_succ, i64_w, i32_w]
                                                    rfl
                                                  refine pure_ (i := 12) (N := some 72) (v := ?_) (a' := ?_) #[true, true, true, true, true, true, false, false, false, false, false, true, true, false, false, false, false, false, false, false, false, false, false, false, false, false, false, false, false, false, false, false, false, false, false, false, false, false, false] rfl rfl (any_of HT_.out (by kernel_rfl)) (fun _ _ _ h => h) (Or.inl ⟨by rfl, ?_⟩) ?_ ?_
                                                  rotate_left
                                                  · intro w'
                                                    go_simp
                                                    with_reducible rfl
                                                  rotate_left
                                                  · simp only [Act.put, List.setIfInBounds_toArray, List.set_cons_zero, List.set_cons_succ, i64_w, i32_w]
                                                    rfl
                                                  refine pure_ (i := 13) (N := some 73) (v := ?_) (a' := ?_) #[true, true, true, true, true, true, false, false, false, false, false, true, true, true, false, false, false, false, false, false, false, false, false, false, false, false, false, false, false, false, false, false, false, false, false, false, false, false, false] rfl rfl (any_of HT_.out (by kernel_rfl)) (fun _ _ _ h => h) (Or.inl ⟨by rfl, ?_⟩) ?_ ?_
                                                  rotate_left
                                                  · intro w'
                                                    go_simp
                                                    with_reducible rfl
                                                  rotate_left
                                                  · simp only [Act.put, List.setIfInBounds_toArray, List.set_cons_zero, List.set_cons_succ, i64_w, i32_w]
                                                    rfl
                                                  refine pure_ (i := 14) (N := some 74) (v := ?_) (a' := ?_) #[true, true, true, true, true, true, false, false, false, false, false, true, true, true, true, false, false, false, false, false, false, false, false, false, false, false, false, false, false, false, false, false, false, false, false, false, false, false, false] rfl rfl (any_of HT_.out (by kernel_rfl)) (fun _ _ _ h => h) (Or.inl ⟨by rfl, ?_⟩) ?_ ?_
                                                  rotate_left
                                                  · intro w'
                                                    go_simp
                                                    with_reducible rfl
                                                  rotate_left
                                                  · simp only [Act.put, List.setIfInBounds_toArray, List.set_cons_zero, List.set_cons_succ, i64_w, i32_w]
                                                    rfl
                                                  refine pure_ (i := 15) (N := some 75) (v := ?_) (a' := ?_) #[true, true, true, true, true, true, false, false, false, false, false, true, true, true, true, true, false, false, false, false, false, false, false, false, false, false, false, false, false, false, false, false, false, false, false, false, false, false, false] rfl rfl (any_of HT_.out (by kernel_rfl)) (fun _ _ _ h => h) (Or.inl ⟨by rfl, ?_⟩) ?_ ?_
                                                  rotate_left
                                                  · intro w'
                                                    go_simp
                                                    with_reducible rfl
                                                  rotate_left
                                                  · simp only [Act.put, List.setIfInBounds_toArray, List.set_cons_zero, List.set_cons_succ, i64_w, i32_w]
                                                    rfl
                                                  refine pure_ (i := 16) (N := some 76) (v := ?_) (a' := ?_) #[true, true, true, true, true, true, false, false, false, false, false, true, true, true, true, true, true, false, false, false, false, false, false, false, false, false, false, false, false, false, false, false, false, false, false, false, false, false, false] rfl rfl (any_of HT_.out (by kernel_rfl)) (fun _ _ _ h => h) (Or.inl ⟨by rfl, ?_⟩) ?_ ?_
                                                  rotate_left
                                                  · intro w'
                                                    go_simp
                                                    with_reducible rfl
                                                  rotate_left
                                                  · simp only [Act.put, List.setIfInBounds_toArray, List.set_cons_zero, List.set_cons_succ, i64_w, i32_w]
                                                    rfl
                                                  refine pure_ (i := 22) (N := some 82) (v := ?_) (a' := ?_) #[true, true, true, true, true, true, false, false, false, false, false, true, true, true, true, true, true, false, false, false, false, false, true, false, false, false, false, false, false, false, false, false, false, false, false, false, false, false, false] rfl rfl (any_of HT_.out (by kernel_rfl)) (fun _ _ _ h => h) (Or.inl ⟨by rfl, ?_⟩) ?_ ?_
                                                  rotate_left
                                                  · intro w'
                                                    go_simp
                                                    with_reducible rfl
                                                  rotate_left
                                                  · simp only [Act.put, List.setIfInBounds_toArray, List.set_cons_zero, List.set_cons_succ, i64_w, i32_w]
                                                    rfl
                                                  refine pure_ (i := 27) (N := some 87) (v := ?_) (a' := ?_) #[true, true, true, true, true, true, false, false, false, false, false, true, true, true, true, true, true, false, false, false, false, false, true, false, false, false, false, true, false, false, false, false, false, false, false, false, false, false, false] rfl rfl (any_of HT_.out (by kernel_rfl)) (fun _ _ _ h => h) (Or.inl ⟨by rfl, ?_⟩) ?_ ?_
                                                  rotate_left
                                                  · intro w'
                                                    go_simp
                                                    with_reducible rfl
                                                  rotate_left
                                                  · simp only [Act.put, List.setIfInBounds_toArray, List.set_cons_zero, List.set_cons_succ, i64_w, i32_w]
                                                    rfl
                                                  refine pure_ (i := 28) (N := some 88) (v := ?_) (a' := ?_) #[true, true, true, true, true, true, false, false, false, false, false, true, true, true, true, true, true, false, false, false, false, false, true, false, false, false, false, true, true, false, false, false, false, false, false, false, false, false, false] rfl rfl (any_of HT_.out (by kernel_rfl)) (fun _ _ _ h => h) (Or.inl ⟨by rfl, ?_⟩) ?_ ?_
                                                  rotate_left
                                                  · intro w'
                                                    go_simp
                                                    with_reducible rfl
                                                  rotate_left
                                                  · simp only [Act.put, List.setIfInBounds_toArray, List.set_cons_zero, List.set_cons_succ, i64_w, i32_w]
                                                    rfl
                                                  refine pure_ (i := 29) (N := some 89) (v := ?_) (a' := ?_) #[true, true, true, true, true, true, false, false, false, false, false, true, true, true, true, true, true, false, false, false, false, false, true, false, false, false, false, true, true, true, false, false, false, false, false, false, false, false, false] rfl rfl (any_of HT_.out (by kernel_rfl)) (fun _ _ _ h => h) (Or.inl ⟨by rfl, ?_⟩) ?_ ?_
                                                  rotate_left
                                                  · intro w'
                                                    go_simp
                                                    with_reducible rfl
                                                  rotate_left
                                                  · simp only [Act.put, List.setIfInBounds_toArray, List.set_cons_zero, List.set_cons_succ, i64_w, i32_w]
                                                    rfl
                                                  refine pure_ (i := 30) (N := some 90) (v := ?_) (a' := ?_) #[true, true, true, true, true, true, false, false, false, false, false, true, true, true, true, true, true, false, false, false, false, false, true, false, false, false, false, true, true, true, true, false, false, false, false, false, false, false, false] rfl rfl (any_of HT_.out (by kernel_rfl)) (fun _ _ _ h => h) (Or.inl ⟨by rfl, ?_⟩) ?_ ?_
                                                  rotate_left
                                                  · intro w'
                                                    go_simp
                                                    with_reducible rfl
                                                  rotate_left
                                                  · simp only [Act.put, List.setIfInBounds_toArray, List.set_cons_zero, List.set_cons_succ, i64_w, i32_w]
                                                    rfl
                                                  refine pure_ (i := 31) (N := some 91) (v := ?_) (a' := ?_) #[true, true, true, true, true, true, false, false, false, false, false, true, true, true, true, true, true, false, false, false, false, false, true, false, false, false, false, true, true, true, true, true, false, false, false, false, false, false, false] rfl rfl (any_of HT_.out (by kernel_rfl)) (fun _ _ _ h => h) (Or.inl ⟨by rfl, ?_⟩) ?_ ?_
                                                  rotate_left
                                                  · intro w'
                                                    go_simp
                                                    with_reducible rfl
                                                  rotate_left
                                                  · simp only [Act.put, List.setIfInBounds_toArray, List.set_cons_zero, List.set_cons_succ, i64_w, i32_w]
                                                    rfl
                                                  refine pure_ (i := 32) (N := some 92) (v := ?_) (a' := ?_) #[true, true, true, true, true, true, false, false, false, false, false, true, true, true, true, true, true, false, false, false, false, false, true, false, false, false, false, true, true, true, true, true, true, false, false, false, false, false, false] rfl rfl (any_of HT_.out (by kernel_rfl)) (fun _ _ _ h => h) (Or.inl ⟨by rfl, ?_⟩) ?_ ?_
                                                  rotate_left
                                                  · intro w'
                                                    go_simp
                                                    with_reducible rfl
                                                  rotate_left
                                                  · simp only [Act.put, List.setIfInBounds_toArray, List.set_cons_zero, List.set_cons_succ, i64_w, i32_w]
                                                    rfl
                                                  refine take_ (i := 6) (N := some 66) (v := ?_) (a' := ?_) #[true, true, true, true, true, true, true, false, false, false, false, true, true, true, true, true, true, false, false, false, false, false, true, false, false, false, false, true, true, true, true, true, true, false, false, false, false, false, false] rfl rfl (take_ofW HT_.out HW_.out (by kernel_rfl)) (fun _ _ _ h => h) (Or.inl ⟨by rfl, ?_⟩) hHeld ?_ ?_
                                                  rotate_left
                                                  · rintro w' ⟨s0, s1, s2⟩
                                                    go_simp
                                                    with_reducible rfl
                                                  rotate_left
                                                  · simp only [Act.put, List.setIfInBounds_toArray, List.set_cons_zero, List.set_cons_succ, i64_w, i32_w]
                                                    rfl
                                                  refine pure_ (i := 7) (N := some 67) (v := ?_) (a' := ?_) #[true, true, true, true, true, true, true, true, false, false, false, true, true, true, true, true, true, false, false, false, false, false, true, false, false, false, false, true, true, true, true, true, true, false, false, false, false, false, false] rfl rfl (any_of HT_.out (by kernel_rfl)) (fun _ _ _ h => h) (Or.inl ⟨by rfl, ?_⟩) ?_ ?_
                                                  rotate_left
                                                  · intro w'
                                                    go_simp
                                                    with_reducible rfl
                                                  rotate_left
                                                  · simp only [Act.put, List.setIfInBounds_toArray, List.set_cons_zero, List.set_cons_succ, i64_w, i32_w]
                                                    rfl
                                                  refine pure_ (i := 8) (N := some 68) (v := ?_) (a' := ?_) #[true, true, true, true, true, true, true, true, true, false, false, true, true, true, true, true, true, false, false, false, false, false, true, false, false, false, false, true, true, true, true, true, true, false, false, false, false, false, false] rfl rfl (any_of HT_.out (by kernel_rfl)) (fun _ _ _ h => h) (Or.inl ⟨by rfl, ?_⟩) ?_ ?_
                                                  rotate_left
                                                  · intro w'
                                                    go_simp
                                                    with_reducible rfl
                                                  rotate_left
                                                  · simp only [Act.put, List.setIfInBounds_toArray, List.set_cons_zero, List.set_cons_succ, i64_w, i32_w]
                                                    rfl
                                                  refine pure_ (i := 9) (N := some 69) (v := ?_) (a' := ?_) #[true, true, true, true, true, true, true, true, true, true, false, true, true, true, true, true, true, false, false, false, false, false, true, false, false, false, false, true, true, true, true, true, true, false, false, false, false, false, false] rfl rfl (any_of HT_.out (by kernel_rfl)) (fun _ _ _ h => h) (Or.inl ⟨by rfl, ?_⟩) ?_ ?_
                                                  rotate_left
                                                  · intro w'
                                                    go_simp
                                                    with_reducible rfl
                                                  rotate_left
                                                  · simp only [Act.put, List.setIfInBounds_toArray, List.set_cons_zero, List.set_cons_succ, i64_w, i32_w]
                                                    rfl
                                                  refine pure_ (i := 10) (N := some 70) (v := ?_) (a' := ?_) #[true, true, true, true, true, true, true, true, true, true, true, true, true, true, true, true, true, false, false, false, false, false, true, false, false, false, false, true, true, true, true, true, true, false, false, false, false, false, false] rfl rfl (any_of HT_.out (by kernel_rfl)) (fun _ _ _ h => h) (Or.inl ⟨by rfl, ?_⟩) ?_ ?_
                                                  rotate_left
                                                  · intro w'
                                                    go_simp
                                                    with_reducible rfl
                                                  rotate_left
                                                  · simp only [Act.put, List.setIfInBounds_toArray, List.set_cons_zero, List.set_cons_succ, i64_w, i32_w]
                                                    rfl
                                                  refine take_ (i := 17) (N := some 77) (v := ?_) (a' := ?_) #[true, true, true, true, true, true, true, true, true, true, true, true, true, true, true, true, true, true, false, false, false, false, true, false, false, false, false, true, true, true, true, true, true, false, false, false, false, false, false] rfl rfl (take_ofW HT_.out HW_.out (by kernel_rfl)) (fun _ _ _ h => h) (Or.inl ⟨by rfl, ?_⟩) hHeld ?_ ?_
                                                  rotate_left
                                                  · rintro w' ⟨s0, s1, s2⟩
                                                    go_simp
                                                    with_reducible rfl
                                                  rotate_left
                                                  · simp only [Act.put, List.setIfInBounds_toArray, List.set_cons_zero, List.set_cons_succ, i64_w, i32_w]
                                                    rfl
                                                  refine pure_ (i := 18) (N := some 78) (v := ?_) (a' := ?_) #[true, true, true, true, true, true, true, true, true, true, true, true, true, true, true, true, true, true, true, false, false, false, true, false, false, false, false, true, true, true, true, true, true, false, false, false, false, false, false] rfl rfl (any_of HT_.out (by kernel_rfl)) (fun _ _ _ h => h) (Or.inl ⟨by rfl, ?_⟩) ?_ ?_
                                                  rotate_left
                                                  · intro w'
                                                    go_simp
                                                    with_reducible rfl
                                                  rotate_left
                                                  · simp only [Act.put, List.setIfInBounds_toArray, List.set_cons_zero, List.set_cons_succ, i64_w, i32_w]
                                                    rfl
                                                  refine pure_ (i := 19) (N := some 79) (v := ?_) (a' := ?_) #[true, true, true, true, true, true, true, true, true, true, true, true, true, true, true, true, true, true, true, true, false, false, true, false, false, false, false, true, true, true, true, true, true, false, false, false, false, false, false] rfl rfl (any_of HT_.out (by kernel_rfl)) (fun _ _ _ h => h) (Or.inl ⟨by rfl, ?_⟩) ?_ ?_
                                                  rotate_left
                                                  · intro w'
                                                    go_simp
                                                    with_reducible rfl
                                                  rotate_left
                                                  · simp only [Act.put, List.setIfInBounds_toArray, List.set_cons_zero, List.set_cons_succ, i64_w, i32_w]
                                                    rfl
                                                  refine pure_ (i := 20) (N := some 80) (v := ?_) (a' := ?_) #[true, true, true, true, true, true, true, true, true, true, true, true, true, true, true, true, true, true, true, true, true, false, true, false, false, false, false, true, true, true, true, true, true, false, false, false, false, false, false] rfl rfl (any_of HT_.out (by kernel_rfl)) (fun _ _ _ h => h) (Or.inl ⟨by rfl, ?_⟩) ?_ ?_
                                                  rotate_left
                                                  · intro w'
                                                    go_simp
                                                    with_reducible rfl
                                                  rotate_left
                                                  · simp only [Act.put, List.setIfInBounds_toArray, List.set_cons_zero, List.set_cons_succ, i64_w, i32_w]
                                                    rfl
                                                  refine take_ (i := 21) (N := some 81) (v := ?_) (a' := ?_) #[true, true, true, true, true, true, true, true, true, true, true, true, true, true, true, true, true, true, true, true, true, true, true, false, false, false, false, true, true, true, true, true, true, false, false, false, false, false, false] rfl rfl (take_ofW HT_.out HW_.out (by kernel_rfl)) (fun _ _ _ h => h) (Or.inl ⟨by rfl, ?_⟩) hHeld ?_ ?_
                                                  rotate_left
                                                  · rintro w' ⟨s0, s1, s2⟩
                                                    go_simp
                                                    with_reducible rfl
                                                  rotate_left
                                                  · simp only [Act.put, List.setIfInBounds_toArray, List.set_cons_zero, List.set_cons_succ, i64_w, i32_w]
                                                    rfl
                                                  refine pure_ (i := 23) (N := some 83) (v := ?_) (a' := ?_) #[true, true, true, true, true, true, true, true, true, true, true, true, true, true, true, true, true, true, true, true, true, true, true, true, false, false, false, true, true, true, true, true, true, false, false, false, false, false, false] rfl rfl (any_of HT_.out (by kernel_rfl)) (fun _ _ _ h => h) (Or.inl ⟨by rfl, ?_⟩) ?_ ?_
                                                  rotate_left
                                                  · intro w'
                                                    go_simp
                                                    with_reducible rfl
                                                  rotate_left
                                                  · simp only [Act.put, List.setIfInBounds_toArray, List.set_cons_zero, List.set_cons_succ, i64_w, i32_w]
                                                    rfl
                                                  refine take_ (i := 33) (N := some 93) (v := ?_) (a' := ?_) #[true, true, true, true, true, true, true, true, true, true, true, true, true, true, true, true, true, true, true, true, true, true, true, true, false, false, false, true, true, true, true, true, true, true, false, false, false, false, false] rfl rfl (take_ofW HT_.out HW_.out (by kernel_rfl)) (fun _ _ _ h => h) (Or.inl ⟨by rfl, ?_⟩) hHeld ?_ ?_
                                                  rotate_left
                                                  · rintro w' ⟨s0, s1, s2⟩
                                                    go_simp
                                                    with_reducible rfl
                                                  rotate_left
                                                  · simp only [Act.put, List.setIfInBounds_toArray, List.set_cons_zero, List.set_cons_succ, i64_w, i32_w]
                                                    rfl
                                                  refine pure_ (i := 34) (N := some 94) (v := ?_) (a' := ?_) #[true, true, true, true, true, true, true, true, true, true, true, true, true, true, true, true, true, true, true, true, true, true, true, true, false, false, false, true, true, true, true, true, true, true, true, false, false, false, false] rfl rfl (any_of HT_.out (by kernel_rfl)) (fun _ _ _ h => h) (Or.inl ⟨by rfl, ?_⟩) ?_ ?_
                                                  rotate_left
                                                  · intro w'
                                                    go_simp
                                                    with_reducible rfl
                                                  rotate_left
                                                  · simp only [Act.put, List.setIfInBounds_toArray, List.set_cons_zero, List.set_cons_succ, i64_w, i32_w]
                                                    rfl
                                                  refine pure_ (i := 35) (N := some 95) (v := ?_) (a' := ?_) #[true, true, true, true, true, true, true, true, true, true, true, true, true, true, true, true, true, true, true, true, true, true, true, true, false, false, false, true, true, true, true, true, true, true, true, true, false, false, false] rfl rfl (any_of HT_.out (by kernel_rfl)) (fun _ _ _ h => h) (Or.inl ⟨by rfl, ?_⟩) ?_ ?_
                                                  rotate_left
                                                  · intro w'
                                                    go_simp
                                                    with_reducible rfl
                                                  rotate_left
                                                  · simp only [Act.put, List.setIfInBounds_toArray, List.set_cons_zero, List.set_cons_succ, i64_w, i32_w]
                                                    rfl
                                                  refine pure_ (i := 36) (N := some 96) (v := ?_) (a' := ?_) #[true, true, true, true, true, true, true, true, true, true, true, true, true, true, true, true, true, true, true, true, true, true, true, true, false, false, false, true, true, true, true, true, true, true, true, true, true, false, false] rfl rfl (any_of HT_.out (by kernel_rfl)) (fun _ _ _ h => h) (Or.inl ⟨by rfl, ?_⟩) ?_ ?_
                                                  rotate_left
                                                  · intro w'
                                                    go_simp
                                                    with_reducible rfl
                                                  rotate_left
                                                  · simp only [Act.put, List.setIfInBounds_toArray, List.set_cons_zero, List.set_cons_succ, i64_w, i32_w]
                                                    rfl
                                                  refine one_ (i := 24) (N := some 84) #[true, true, true, true, true, true, true, true, true, true, true, true, true, true, true, true, true, true, true, true, true, true, true, true, true, false, false, true, true, true, true, true, true, true, true, true, true, false, false] rfl rfl (one_of HT_.out (by kernel_rfl)) (by decide) (fun K hK => ?_)
                                                  refine Kd.R_lit_step (Kd.int .u8) _ 5 ?hg (N := 84) ?hd (xs := ([Go.bits .xor .u8 (bt t195 (ji23)) a2] : List Int)) (inner := [.int .u8 (Go.bits .xor .u8 (bt t195 (ji23)) a2)]) (ok := fun _ => True) (okp := fun _ => True) ?hr ?hp (fun _ hk => hk) trivial (Below.refl _ _) (Nat.le_refl _) (by simp) ?_; (case hd => rfl); (case hg => rfl); (case hr => first | (go_simp; done) | (go_simp; rfl)); (case hp => exact (Reps.one (show Kd.M (Kd.int .u8) _ _ _ (Go.bits .xor .u8 (bt t195 (ji23)) a2) [.int .u8 (Go.bits .xor .u8 (bt t195 (ji23)) a2)] from rfl) (Reps.none _ _)))
                                                  intro v199 w35 ho36 hb hg_ hnew_
                                                  clear hg_ hnew_
                                                  (first | rw [← Ny198.out] at ho36 | (simp only [Int.reduceToNat] at ho36; rw [← Ny198.out] at ho36))
                                                  have n0_ := Aside0.mk (Kd.R_lower ho36 (below_size (by repeat (first | (with_reducible first | exact HB.out | apply below_alloc | apply pw_below_drewN | apply below_drew1) | exact HB.out))))
                                                  have n1_ := Aside0.mk (below_step (by repeat (first | (with_reducible first | exact HB.out | apply below_alloc | apply pw_below_drewN | apply below_drew1) | exact HB.out)) hb)
                                                  clear HB
                                                  have HO200 := n0_
                                                  have HB := n1_
                                                  clear n0_ n1_
                                                  clear hb ho36
                                                  refine hK.out _ _ ⟨((HB.out.cell (World.block_lt_of_cell? w _ hw196_0)).trans hw196_0), ((HB.out.cell (World.block_lt_of_cell? w _ hw197_0)).trans hw197_0), ((HB.out.cell (World.block_lt_of_cell? w _ hw201_0)).trans hw201_0)⟩ (fun hHeld => ?_)
                                                  clear hK K
                                                  refine norm_ (a' := ?_) ?_ ?_
                                                  rotate_left
                                                  · show Act.put _ (some 84) _ = _
                                                    simp only [Act.put, List.setIfInBounds_toArray, List.set_cons_zero, List.set_cons_succ, i64_w, i32_w]
                                                    rfl
                                                  refine one_ (i := 25) (N := some 85) #[true, true, true, true, true, true, true, true, true, true, true, true, true, true, true, true, true, true, true, true, true, true, true, true, true, true, false, true, true, true, true, true, true, true, true, true, true, false, false] rfl rfl (one_of HT_.out (by kernel_rfl)) (by decide) (fun K hK => ?_)
                                                  have hcv37 := own_string (P := Try.prog) Try.underlying37 Try.underlying5 Try.underlying9 (Kd.own_of_R HO200.out)
                                                  refine value_ (w1 := ?_) (v := ?_) (by rfl) rfl ?_ ?_
                                                  rotate_left 2
                                                  · go_simp
                                                    constructor
                                                    · rfl
                                                    · rfl
                                                  clear hcv37
                                                  refine hK.out _ _ ⟨((HB.out.cell (World.block_lt_of_cell? w _ hw196_0)).trans hw196_0), ((HB.out.cell (World.block_lt_of_cell? w _ hw197_0)).trans hw197_0), ((HB.out.cell (World.block_lt_of_cell? w _ hw201_0)).trans hw201_0)⟩ (fun hHeld => ?_)
                                                  clear hK K
                                                  refine norm_ (a' := ?_) ?_ ?_
                                                  rotate_left
                                                  · show Act.put _ (some 85) _ = _
                                                    simp only [Act.put, List.setIfInBounds_toArray, List.set_cons_zero, List.set_cons_succ, i64_w, i32_w]
                                                    rfl
                                                  refine pure_ (i := 26) (N := some 86) (v := ?_) (a' := ?_) #[true, true, true, true, true, true, true, true, true, true, true, true, true, true, true, true, true, true, true, true, true, true, true, true, true, true, true, true, true, true, true, true, true, true, true, true, true, false, false] rfl rfl (any_of HT_.out (by kernel_rfl)) (fun _ _ _ h => h) (Or.inl ⟨by rfl, ?_⟩) ?_ ?_
                                                  rotate_left
                                                  · intro w'
                                                    go_simp
                                                    with_reducible rfl
                                                  rotate_left
                                                  · simp only [Act.put, List.setIfInBounds_toArray, List.set_cons_zero, List.set_cons_succ, i64_w, i32_w]
                                                    rfl
                                                  refine pure_ (i := 37) (N := some 97) (v := ?_) (a' := ?_) #[true, true, true, true, true, true, true, true, true, true, true, true, true, true, true, true, true, true, true, true, true, true, true, true, true, true, true, true, true, true, true, true, true, true, true, true, true, true, false] rfl rfl (any_of HT_.out (by kernel_rfl)) (fun _ _ _ h => h) (Or.inl ⟨by rfl, ?_⟩) ?_ ?_
                                                  rotate_left
                                                  · intro w'
                                                    go_simp
                                                    with_reducible rfl
                                                  rotate_left
                                                  · simp only [Act.put, List.setIfInBounds_toArray, List.set_cons_zero, List.set_cons_succ, i64_w, i32_w]
                                                    rfl
                                                  refine pure_ (i := 38) (N := some 11) (v := ?_) (a' := ?_) #[true, true, true, true, true, true, true, true, true, true, true, true, true, true, true, true, true, true, true, true, true, true, true, true, true, true, true, true, true, true, true, true, true, true, true, true, true, true, true] rfl rfl (any_of HT_.out (by kernel_rfl)) (fun _ _ _ h => h) (Or.inl ⟨by rfl, ?_⟩) ?_ ?_
                                                  rotate_left
                                                  · intro w'
                                                    go_simp
                                                    with_reducible rfl
                                                  rotate_left
                                                  · simp only [Act.put, List.setIfInBounds_toArray, List.set_cons_zero, List.set_cons_succ, i64_w, i32_w]
                                                    rfl
                                                  refine done_ (done_of HT_.out (by kernel_rfl)) ?_
                                                  try go_wp2
                                                  go_roundg kj14
                                                  case measure => have := HJ5.out; have := HK2.out; have := HJ14.out; omega
                                                  case rel => exact ⟨(x8_2 ++ (((t195.extract 0 ((ji23) : Int).toNat) ++ (strOfNums y198)) ++ (t195.extract ((ji29) : Int).toNat t195.size))), (x9_14), (wrap64 (x10_2 + 1)), (by first | rfl | (simp; done) | (simp only [← hji23, ← hji29] <;> (first | rfl | simp)) | (simp [*]; done)), (by first | rfl | (simp; done) | (simp [*]; done)), (by first | rfl | (simp; done) | (simp [*]; done)), H', ⟨by have := HJ5.out; have := HK2.out; have := HJ14.out; omega⟩, ⟨by repeat (first | (with_reducible first | exact HB.out | apply below_alloc | apply pw_below_drewN | apply below_drew1) | exact HB.out)⟩⟩
                                                · rw [if_neg c33] at H
                                                  exact absurd H (by simp)
                                              · rw [if_neg c32] at H
                                                exact absurd H (by simp)
                                            · rw [if_neg c31] at H
                                              exact absurd H (by simp)
                                          · rw [if_neg c30] at H
                                            exact absurd H (by simp)
                                        · rw [if_neg c28] at H
                                          exact absurd H (by simp)
                                      · rw [if_neg c26] at H
                                        exact absurd H (by simp)
                                    · rw [if_neg c25] at H
                                      exact absurd H (by simp)
                                  · rw [if_neg c24] at H
                                    exact absurd H (by simp)
                                · rw [if_neg c22] at H
                                  exact absurd H (by simp)
                              · rw [if_neg c21] at H
                                exact absurd H (by simp)
                          · rw [if_neg c18] at H
                            have c18b0 : (x10_2 == (Int.tmod (wrap64 (a1)) (l0.length : Int))) = false := beq_eq_false_iff_ne.mpr c18
                            have c18b1 : (x10_2 != (Int.tmod (wrap64 (a1)) (l0.length : Int))) = true := bne_iff_ne.mpr c18
                            by_cases c38 : x8_2.size + t195.size ≤ 9223372036854775807
                            · rw [if_pos c38] at H
                              have c38b0 := eq_true c38
                              have c38b1 : decide (x8_2.size + t195.size ≤ 9223372036854775807) = true := decide_eq_true c38
                              try have c38b2 : (9223372036854775807 < x8_2.size + t195.size) = False := eq_false (Nat.not_lt.2 c38)
                              have H' := Aside0.mk H
                              clear H
                              go_wp2
                              go_roundg kj14
                              case measure => have := HJ5.out; have := HK2.out; have := HJ14.out; omega
                              case rel => exact ⟨(x8_2 ++ t195), (x9_14), (wrap64 (x10_2 + 1)), (by first | rfl | (simp; done) | (simp [*]; done)), (by first | rfl | (simp; done) | (simp [*]; done)), (by first | rfl | (simp; done) | (simp [*]; done)), H', ⟨by have := HJ5.out; have := HK2.out; have := HJ14.out; omega⟩, ⟨by repeat (first | (with_reducible first | exact HB.out | apply below_alloc | apply pw_below_drewN | apply below_drew1) | exact HB.out)⟩⟩
                            · rw [if_neg c38] at H
                              exact absurd H (by simp)
                  · rw [if_neg c12] at H
                    exact absurd H (by simp)
                · rw [if_neg c11] at H
                  have c11b0 : decide (x10_2 < (l0.length : Int)) = false := decide_eq_false c11
                  clear c11
                  replace H := Option.bind_eq_some_iff.mp H
                  obtain ⟨⟨t202, t203⟩, A390, H⟩ := H
                  replace H : (if a2 = 0 then ((ravelinlaw4_same.f k2 t202 l0).bind fun t206 => (if t206 = true then (some (t203 == (x8_2.size : Int))) else (some false))) else (if 0 ≤ (Int.tmod (wrap64 (a1)) (l0.length : Int)) then (if (Int.tmod (wrap64 (a1)) (l0.length : Int)) ≤ (l0.length : Int) then ((ravelinlaw4_same.f k2 t202 (l0.take ((Int.tmod (wrap64 (a1)) (l0.length : Int)) : Int).toNat)).bind fun t208 => (if t208 = true then (some (t203 == x9_2)) else (some false))) else (none)) else (none))) = some r := H
                  have A39 := Aside0.mk A390
                  clear A390
                  by_cases c40 : a2 = 0
                  · rw [if_pos c40] at H
                    have c40b0 : (a2 == 0) = true := beq_iff_eq.mpr c40
                    have c40b1 : (a2 != 0) = false := bne_eq_false_iff_eq.mpr c40
                    clear c40
                    replace H := Option.bind_eq_some_iff.mp H
                    obtain ⟨t206, A410, H⟩ := H
                    replace H : (if t206 = true then (some (t203 == (x8_2.size : Int))) else (some false)) = some r := H
                    have A41 := Aside0.mk A410
                    clear A410
                    by_cases c42 : t206 = true
                    · subst c42
                      have H1 : (some (t203 == (x8_2.size : Int))) = some r := by rw [if_pos rfl] at H; exact H
                      clear H
                      have H := H1
                      clear H1
                      obtain rfl := Option.some.inj H
                      go_wp2_with (first | ((with_reducible refine gate_callee (f := 10) rfl ?_); refine goesL_ (some 103) rfl rfl Try.func10 (by kernel_rfl) rfl #[.string x8_2] rfl (by (try simp only [List.map_toArray, List.map_cons, List.map_nil]); first | done | rfl | (simp only [List.length_drop, List.length_take]; rfl)) ?_; (with_reducible refine (seal_All.calls k2 x8_2 t202 t203 _ A39.out).mono ?_); rintro e w43 ⟨v204, rfl, ho0, hb⟩; refine ⟨_, rfl, ?_⟩; have n0_ := Aside0.mk (Kd.R_lower ho0 (below_size (by repeat (first | (with_reducible first | exact HB.out | apply below_alloc | apply pw_below_drewN | apply below_drew1) | exact HB.out)))); have n1_ := Aside0.mk (below_step (by repeat (first | (with_reducible first | exact HB.out | apply below_alloc | apply pw_below_drewN | apply below_drew1) | exact HB.out)) hb); clear HB; have HO205 := n0_; have HB := n1_; clear n0_ n1_; (try clear hb); (try clear hb2); (try clear hk); (try clear hi); (try clear ho0); obtain ⟨Ao44, co44, eo44⟩ := Kd.R_slice HO205.out; subst eo44) | ((with_reducible refine gate_callee (f := 16) rfl ?_); refine goesL_ (some 110) rfl rfl Try.func16 (by kernel_rfl) rfl #[.slice Ao44 t202.length co44, .slice A0 l0.length c0] rfl (by (try simp only [List.map_toArray, List.map_cons, List.map_nil]); first | done | rfl | (simp only [List.length_drop, List.length_take]; rfl)) ?_; (with_reducible refine (ravelinlaw4_same.calls k2 _ _ t202 _ _ l0 true _ ?side1 ?side2 ?side3 ?side4 A41.out).mono ?_); (case side1 => repeat (first | exact (Kd.R_reads' HO205.out).2.2 | (with_reducible refine Kd.C_alloc ?_ _) | (with_reducible refine Kd.C_drewN ?_ _) | (with_reducible refine Kd.C_drew ?_))); (case side2 => exact (Kd.R_reads' HO205.out).2.1); (case side3 => repeat (first | exact (Kd.C_below HR0.out HB.out) | (with_reducible refine Kd.C_alloc ?_ _) | (with_reducible refine Kd.C_drewN ?_ _) | (with_reducible refine Kd.C_drew ?_))); (case side4 => exact HC0.out); rintro e w' ⟨rfl, ⟨nd, rfl⟩⟩; refine ⟨_, rfl, ?_⟩))
                      go_ret
                      exact ⟨by first | rfl | (simp [errW_none, errW_some] <;> rfl) | (simp [*, errW_none, errW_some] <;> rfl), by repeat (first | (with_reducible first | exact HB.out | apply below_alloc | apply pw_below_drewN | apply below_drew1) | exact HB.out)⟩
                    · replace c42 := Bool.eq_false_iff.mpr c42
                      subst c42
                      have H1 : (some false) = some r := by rw [if_neg (show ¬ (false = true) by decide)] at H; exact H
                      clear H
                      have H := H1
                      clear H1
                      exact absurd ((Option.some.inj H).trans HR_.out) (by decide)
                  · rw [if_neg c40] at H
                    have c40b0 : (a2 == 0) = false := beq_eq_false_iff_ne.mpr c40
                    have c40b1 : (a2 != 0) = true := bne_iff_ne.mpr c40
                    obtain ⟨ji45, hji45⟩ : ∃ j_ : Int, (Int.tmod (wrap64 (a1)) (l0.length : Int)) = j_ := ⟨_, rfl⟩
                    replace H : (if 0 ≤ (ji45) then (if (ji45) ≤ (l0.length : Int) then ((ravelinlaw4_same.f k2 t202 (l0.take ((ji45) : Int).toNat)).bind fun t208 => (if t208 = true then (some (t203 == x9_2)) else (some false))) else (none)) else (none)) = some r := by first | (rw [hji45] at H; exact H) | (simp only [hji45] at H ⊢; exact H)
                    (try rw [hji45] at A39)
                    (try (have c17b0ji45 := c17b0; rw [hji45] at c17b0ji45))
                    (try (have c17b0ji45 := c17b0; rw [hji45] at c17b0ji45))
                    (try (have c18b0ji45 := c18b0; rw [hji45] at c18b0ji45))
                    (try (have c18b1ji45 := c18b1; rw [hji45] at c18b1ji45))
                    (try (have c18b0ji45 := c18b0; rw [hji45] at c18b0ji45))
                    (try (have c18b1ji45 := c18b1; rw [hji45] at c18b1ji45))
                    by_cases c46 : 0 ≤ (ji45)
                    · rw [if_pos c46] at H
                      have c46b0 := eq_true c46
                      have c46b1 : decide (0 ≤ (ji45)) = true := decide_eq_true c46
                      clear c46
                      by_cases c47 : (ji45) ≤ (l0.length : Int)
                      · rw [if_pos c47] at H
                        have c47b0 := eq_true c47
                        have c47b1 : decide ((ji45) ≤ (l0.length : Int)) = true := decide_eq_true c47
                        clear c47
                        replace H := Option.bind_eq_some_iff.mp H
                        obtain ⟨t208, A480, H⟩ := H
                        replace H : (if t208 = true then (some (t203 == x9_2)) else (some false)) = some r := H
                        have A48 := Aside0.mk A480
                        clear A480
                        by_cases c49 : t208 = true
                        · subst c49
                          have H1 : (some (t203 == x9_2)) = some r := by rw [if_pos rfl] at H; exact H
                          clear H
                          have H := H1
                          clear H1
                          obtain rfl := Option.some.inj H
                          go_wp2_with (first | ((with_reducible refine gate_callee (f := 10) rfl ?_); refine goesL_ (some 103) rfl rfl Try.func10 (by kernel_rfl) rfl #[.string x8_2] rfl (by (try simp only [List.map_toArray, List.map_cons, List.map_nil]); first | done | rfl | (simp only [List.length_drop, List.length_take]; rfl)) ?_; (with_reducible refine (seal_All.calls k2 x8_2 t202 t203 _ A39.out).mono ?_); rintro e w50 ⟨v204, rfl, ho0, hb⟩; refine ⟨_, rfl, ?_⟩; have n0_ := Aside0.mk (Kd.R_lower ho0 (below_size (by repeat (first | (with_reducible first | exact HB.out | apply below_alloc | apply pw_below_drewN | apply below_drew1) | exact HB.out)))); have n1_ := Aside0.mk (below_step (by repeat (first | (with_reducible first | exact HB.out | apply below_alloc | apply pw_below_drewN | apply below_drew1) | exact HB.out)) hb); clear HB; have HO205 := n0_; have HB := n1_; clear n0_ n1_; (try clear hb); (try clear hb2); (try clear hk); (try clear hi); (try clear ho0); obtain ⟨i051, hi051, _, hsz51, _⟩ := info_parts info9; obtain ⟨hcut51, hA51, hC51⟩ := print_take_of (P := Try.prog) Value.string (⟨#[]⟩ : ByteArray) 28 9 .i64 Try.underlying28 hi051 hsz51 A0 c0 l0 (ji45) (of_decide_eq_true (by first | (with_reducible assumption) | assumption)) (of_decide_eq_true (by first | (with_reducible assumption) | assumption)) HC0.out; have HR207 := Aside0.mk (Kd.C_of_reads (h1 := fun _ => rfl) (hA51 _ (Kd.reads_of_C HR0.out))); have HC207 := Aside0.mk hC51; clear hA51 hC51 hi051 hsz51; obtain ⟨Ao52, co52, eo52⟩ := Kd.R_slice HO205.out; subst eo52) | ((with_reducible refine gate_callee (f := 16) rfl ?_); refine goesL_ (some 121) rfl rfl Try.func16 (by kernel_rfl) rfl #[.slice Ao52 t202.length co52, .slice A0 (l0.take ((ji45) : Int).toNat).length c0] rfl (by (try simp only [List.map_toArray, List.map_cons, List.map_nil]); first | done | (rw [show (l0.take ((ji45) : Int).toNat).length = (ji45).toNat from (by rw [List.length_take]; have h_ : ((ji45) : Int) ≤ (l0.length : Int) := of_decide_eq_true (by first | (with_reducible assumption) | assumption); omega)] <;> rfl) | (simp only [hji45]; rfl) | rfl | (simp only [List.length_drop, List.length_take]; rfl)) ?_; (with_reducible refine (ravelinlaw4_same.calls k2 _ _ t202 _ _ (l0.take ((ji45) : Int).toNat) true _ ?side1 ?side2 ?side3 ?side4 A48.out).mono ?_); (case side1 => repeat (first | exact (Kd.R_reads' HO205.out).2.2 | (with_reducible refine Kd.C_alloc ?_ _) | (with_reducible refine Kd.C_drewN ?_ _) | (with_reducible refine Kd.C_drew ?_))); (case side2 => exact (Kd.R_reads' HO205.out).2.1); (case side3 => repeat (first | exact (Kd.C_below HR207.out HB.out) | (with_reducible refine Kd.C_alloc ?_ _) | (with_reducible refine Kd.C_drewN ?_ _) | (with_reducible refine Kd.C_drew ?_))); (case side4 => exact HC207.out); rintro e w' ⟨rfl, ⟨nd, rfl⟩⟩; refine ⟨_, rfl, ?_⟩))
                          go_ret
                          exact ⟨by first | rfl | (simp [errW_none, errW_some] <;> rfl) | (simp only [← hji45]; first | rfl | (simp [errW_none, errW_some] <;> rfl)) | (simp [*, errW_none, errW_some] <;> rfl), by repeat (first | (with_reducible first | exact HB.out | apply below_alloc | apply pw_below_drewN | apply below_drew1) | exact HB.out)⟩
                        · replace c49 := Bool.eq_false_iff.mpr c49
                          subst c49
                          have H1 : (some false) = some r := by rw [if_neg (show ¬ (false = true) by decide)] at H; exact H
                          clear H
                          have H := H1
                          clear H1
                          exact absurd ((Option.some.inj H).trans HR_.out) (by decide)
                      · rw [if_neg c47] at H
                        exact absurd H (by simp)
                    · rw [if_neg c46] at H
                      exact absurd H (by simp)
  · replace c5 := Bool.eq_false_iff.mpr c5
    subst c5
    have H1 : (some false) = some r := by rw [if_neg (show ¬ (false = true) by decide)] at H; exact H
    clear H
    have H := H1
    clear H1
    exact absurd ((Option.some.inj H).trans HR_.out) (by decide)
def ravelinlaw4_SealRows.Pure : Prop := ∀ (l0 : List ByteArray) (a1 : Int) (a2 : Int), l0.length ≤ 9223372036854775807 → (∀ y_ ∈ l0, y_.size ≤ 9223372036854775807) → (Lit.int .u8 a1).wf = true → (Lit.int .u8 a2).wf = true → ∃ k, ravelinlaw4_SealRows.f k l0 a1 a2 = some true

end Go.Proofs.Ythlndkbdonoefaa.P
