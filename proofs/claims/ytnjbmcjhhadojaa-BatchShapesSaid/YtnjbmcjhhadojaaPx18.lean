-- Printed by a changed copy of the kit's printer (wip/tools/ext.py); labels and more
import Derived.Test.YtnjbmcjhhadojaaM0
import Derived.Test.YtnjbmcjhhadojaaM1
import Derived.Test.YtnjbmcjhhadojaaM2
import Derived.Test.YtnjbmcjhhadojaaM4
import Derived.Test.YtnjbmcjhhadojaaM5
import Derived.Test.YtnjbmcjhhadojaaM6
namespace Go.Proofs.Ytnjbmcjhhadojaa.P
open Go.RowKit Go.Proofs.YtnjbmcjhhadojaaW.PrintWords Go.Proofs.YtnjbmcjhhadojaaW.PrintLast Go.Proofs.YtnjbmcjhhadojaaW.PrintMore
attribute [local go_sem] max2_int min2_int max_two min_two max_three min_three max_four min_four   -- for this text's walks alone
attribute [local go_sem high] string_leq string_geq string_gtr
set_option linter.unusedVariables false
set_option linter.unusedSimpArgs false

-- NOT PRINTED: function 5 (ravelinlaw12_BatchNeat)

/-! ### ravelinlaw12_BatchShapes: function 6 -/
mutual
def ravelinlaw12_BatchShapes.l0 : Nat → Int → Int → Int → List (S49) → Int → Option (Bool)
  | 0, _, _, _, _, _ => none
  | k + 1, x1, x2, x7, x8, x9 => if x9 < x7 then (if x8.length < 3518437208883 then (ravelinlaw12_BatchShapes.l0 k x1 x2 x7 (x8 ++ [(⟨strOfNums (([(wrap64 (97 + x9)) % 256] : List Int)), false, (⟨#[118]⟩ : ByteArray)⟩ : S49)]) (wrap64 (x9 + 1))) else (none)) else ((batch_Bytes.f k x1 x8).bind fun bt459 => (if x1 ≥ 1 then (ravelinlaw12_BatchShapes.j1 k x2 x7 x8 (decide (x7 ≤ 8)) bt459.1 bt459.2 (decide (x1 ≤ 1000000))) else (ravelinlaw12_BatchShapes.j1 k x2 x7 x8 (decide (x7 ≤ 8)) bt459.1 bt459.2 false)))
def ravelinlaw12_BatchShapes.j1 : Nat → Int → Int → List (S49) → Bool → ByteArray → Int → Bool → Option (Bool)
  | 0, _, _, _, _, _, _, _ => none
  | k + 1, x2, x7, x8, x10, x11, x12, x13 => (batch_Is.f k x8).bind fun t461 => (if (t461 != x10) = true then (ravelinlaw12_BatchShapes.j2 k x2 x7 x8 true) else (if x10 = true then (if ((x12 == 0) != x13) = true then (ravelinlaw12_BatchShapes.j2 k x2 x7 x8 true) else (ravelinlaw12_BatchShapes.j2 k x2 x7 x8 ((x11.toList == ([] : List UInt8)) != (x12 != 0)))) else (if ((x12 == 0) != false) = true then (ravelinlaw12_BatchShapes.j2 k x2 x7 x8 true) else (ravelinlaw12_BatchShapes.j2 k x2 x7 x8 ((x11.toList == ([] : List UInt8)) != (x12 != 0))))))
def ravelinlaw12_BatchShapes.j2 : Nat → Int → Int → List (S49) → Bool → Option (Bool)
  | 0, _, _, _, _ => none
  | k + 1, x2, x7, x8, x68 => if x68 = true then (some false) else (if x7 > 1 then (if (wrap64 (x7 - 1)) = 0 then (none) else (if 0 ≤ (wrap64 ((Int.tmod (wrap64 (x2)) (wrap64 (x7 - 1))) + 1)) then (if (wrap64 ((Int.tmod (wrap64 (x2)) (wrap64 (x7 - 1))) + 1)) < (x8.length : Int) then (if 0 ≤ (Int.tmod (wrap64 (x2)) (wrap64 (x7 - 1))) then (if (Int.tmod (wrap64 (x2)) (wrap64 (x7 - 1))) < (x8.length : Int) then ((some ((x8.set ((Int.tmod (wrap64 (x2)) (wrap64 (x7 - 1))) : Int).toNat (⟨(rd_T49 x8 (wrap64 ((Int.tmod (wrap64 (x2)) (wrap64 (x7 - 1))) + 1))).f0, (rd_T49 x8 (wrap64 ((Int.tmod (wrap64 (x2)) (wrap64 (x7 - 1))) + 1))).f1, (rd_T49 x8 (wrap64 ((Int.tmod (wrap64 (x2)) (wrap64 (x7 - 1))) + 1))).f2⟩ : S49)).set ((wrap64 ((Int.tmod (wrap64 (x2)) (wrap64 (x7 - 1))) + 1)) : Int).toNat (⟨(rd_T49 x8 (Int.tmod (wrap64 (x2)) (wrap64 (x7 - 1)))).f0, (rd_T49 x8 (Int.tmod (wrap64 (x2)) (wrap64 (x7 - 1)))).f1, (rd_T49 x8 (Int.tmod (wrap64 (x2)) (wrap64 (x7 - 1)))).f2⟩ : S49) : List (S49))).bind fun y465 => ((batch_Is.f k y465).bind fun t466 => (if t466 = true then (some false) else ((batch_Entries.f k 1 y465).bind fun t467 => (if (t467.length : Int) = 0 then ((batch_Neat.f k y465).bind fun t470 => (if (t470.length : Int) = x7 then (some true) else (some false))) else (some false)))))) else (none)) else (none)) else (none)) else (none))) else (some true))
end
def ravelinlaw12_BatchShapes.f (k : Nat) (a0 : Int) (a1 : Int) (a2 : Int) : Option (Bool) := (ravelinlaw12_known.f k).bind fun t452 => (if t452 = true then (ravelinlaw12_BatchShapes.l0 k a1 a2 (wrap64 ((wrap64 (Int.tmod a0 11)) + 1)) ([] : List (S49)) 0) else (some false))
theorem ravelinlaw12_BatchShapes.mono_l : ∀ k, (∀ y0 y1 y2 y3 y4, LeO (ravelinlaw12_BatchShapes.l0 k y0 y1 y2 y3 y4) (ravelinlaw12_BatchShapes.l0 (k + 1) y0 y1 y2 y3 y4)) ∧ (∀ y0 y1 y2 y3 y4 y5 y6, LeO (ravelinlaw12_BatchShapes.j1 k y0 y1 y2 y3 y4 y5 y6) (ravelinlaw12_BatchShapes.j1 (k + 1) y0 y1 y2 y3 y4 y5 y6)) ∧ (∀ y0 y1 y2 y3, LeO (ravelinlaw12_BatchShapes.j2 k y0 y1 y2 y3) (ravelinlaw12_BatchShapes.j2 (k + 1) y0 y1 y2 y3))
  | 0 => ⟨fun _ _ _ _ _ r h => by simp [ravelinlaw12_BatchShapes.l0] at h, fun _ _ _ _ _ _ _ r h => by simp [ravelinlaw12_BatchShapes.j1] at h, fun _ _ _ _ r h => by simp [ravelinlaw12_BatchShapes.j2] at h⟩
  | k + 1 => by
    obtain ⟨ih0, ih1, ih2⟩ := ravelinlaw12_BatchShapes.mono_l k
    refine ⟨?_, ?_, ?_⟩
    · intro y0 y1 y2 y3 y4
      unfold ravelinlaw12_BatchShapes.l0
      repeat' first
      | (with_reducible exact ih0 _ _ _ _ _)
      | (with_reducible exact ih1 _ _ _ _ _ _ _)
      | (with_reducible exact ih2 _ _ _ _)
      | (with_reducible exact batch_Bytes.mono _ _ _)
      | (with_reducible exact batch_Entries.mono _ _ _)
      | (with_reducible exact batch_Is.mono _ _)
      | (with_reducible exact batch_Neat.mono _ _)
      | (with_reducible exact ravelinlaw12_known.mono _)
      | (with_reducible exact LeO.refl _)
      | (with_reducible exact LeO.none _)
      | (with_reducible refine LeO.ite ?_ ?_)
      | (with_reducible refine LeO.bind ?_ (fun _ => ?_))
      | exact ih0 _ _ _ _ _
      | exact ih1 _ _ _ _ _ _ _
      | exact ih2 _ _ _ _
      | exact batch_Bytes.mono _ _ _
      | exact batch_Entries.mono _ _ _
      | exact batch_Is.mono _ _
      | exact batch_Neat.mono _ _
      | exact ravelinlaw12_known.mono _
      | exact LeO.none _
      | refine LeO.ite ?_ ?_
      | refine LeO.bind ?_ (fun _ => ?_)
    · intro y0 y1 y2 y3 y4 y5 y6
      unfold ravelinlaw12_BatchShapes.j1
      repeat' first
      | (with_reducible exact ih0 _ _ _ _ _)
      | (with_reducible exact ih1 _ _ _ _ _ _ _)
      | (with_reducible exact ih2 _ _ _ _)
      | (with_reducible exact batch_Bytes.mono _ _ _)
      | (with_reducible exact batch_Entries.mono _ _ _)
      | (with_reducible exact batch_Is.mono _ _)
      | (with_reducible exact batch_Neat.mono _ _)
      | (with_reducible exact ravelinlaw12_known.mono _)
      | (with_reducible exact LeO.refl _)
      | (with_reducible exact LeO.none _)
      | (with_reducible refine LeO.ite ?_ ?_)
      | (with_reducible refine LeO.bind ?_ (fun _ => ?_))
      | exact ih0 _ _ _ _ _
      | exact ih1 _ _ _ _ _ _ _
      | exact ih2 _ _ _ _
      | exact batch_Bytes.mono _ _ _
      | exact batch_Entries.mono _ _ _
      | exact batch_Is.mono _ _
      | exact batch_Neat.mono _ _
      | exact ravelinlaw12_known.mono _
      | exact LeO.none _
      | refine LeO.ite ?_ ?_
      | refine LeO.bind ?_ (fun _ => ?_)
    · intro y0 y1 y2 y3
      unfold ravelinlaw12_BatchShapes.j2
      repeat' first
      | (with_reducible exact ih0 _ _ _ _ _)
      | (with_reducible exact ih1 _ _ _ _ _ _ _)
      | (with_reducible exact ih2 _ _ _ _)
      | (with_reducible exact batch_Bytes.mono _ _ _)
      | (with_reducible exact batch_Entries.mono _ _ _)
      | (with_reducible exact batch_Is.mono _ _)
      | (with_reducible exact batch_Neat.mono _ _)
      | (with_reducible exact ravelinlaw12_known.mono _)
      | (with_reducible exact LeO.refl _)
      | (with_reducible exact LeO.none _)
      | (with_reducible refine LeO.ite ?_ ?_)
      | (with_reducible refine LeO.bind ?_ (fun _ => ?_))
      | exact ih0 _ _ _ _ _
      | exact ih1 _ _ _ _ _ _ _
      | exact ih2 _ _ _ _
      | exact batch_Bytes.mono _ _ _
      | exact batch_Entries.mono _ _ _
      | exact batch_Is.mono _ _
      | exact batch_Neat.mono _ _
      | exact ravelinlaw12_known.mono _
      | exact LeO.none _
      | refine LeO.ite ?_ ?_
      | refine LeO.bind ?_ (fun _ => ?_)
theorem ravelinlaw12_BatchShapes.mono : ∀ a0 a1 a2 k, LeO (ravelinlaw12_BatchShapes.f k a0 a1 a2) (ravelinlaw12_BatchShapes.f (k + 1) a0 a1 a2) := by
  intro a0 a1 a2 k
  obtain ⟨ih0, ih1, ih2⟩ := ravelinlaw12_BatchShapes.mono_l k
  unfold ravelinlaw12_BatchShapes.f
  repeat' first
      | (with_reducible exact ih0 _ _ _ _ _)
      | (with_reducible exact ih1 _ _ _ _ _ _ _)
      | (with_reducible exact ih2 _ _ _ _)
      | (with_reducible exact batch_Bytes.mono _ _ _)
      | (with_reducible exact batch_Entries.mono _ _ _)
      | (with_reducible exact batch_Is.mono _ _)
      | (with_reducible exact batch_Neat.mono _ _)
      | (with_reducible exact ravelinlaw12_known.mono _)
      | (with_reducible exact LeO.refl _)
      | (with_reducible exact LeO.none _)
      | (with_reducible refine LeO.ite ?_ ?_)
      | (with_reducible refine LeO.bind ?_ (fun _ => ?_))
      | exact ih0 _ _ _ _ _
      | exact ih1 _ _ _ _ _ _ _
      | exact ih2 _ _ _ _
      | exact batch_Bytes.mono _ _ _
      | exact batch_Entries.mono _ _ _
      | exact batch_Is.mono _ _
      | exact batch_Neat.mono _ _
      | exact ravelinlaw12_known.mono _
      | exact LeO.none _
      | refine LeO.ite ?_ ?_
      | refine LeO.bind ?_ (fun _ => ?_)
def ravelinlaw12_BatchShapes.T16 : Bool × List (List Nat × List Nat) := (true, [([], []), ([], []), ([], []), ([], []), ([3], [3]), ([], []), ([], []), ([6], [6]), ([5, 7], [5, 7]), ([8], [8]), ([], []), ([], []), ([10, 11], [10, 11]), ([12], [12]), ([0, 1, 0, 1, 5, 6, 7, 8, 9, 13], [0, 1]), ([14, 9, 0, 1, 5, 6, 7, 8, 9, 13], [9, 14]), ([2, 4, 0, 1, 2, 3, 4, 5, 6, 7, 8, 9, 10, 11, 12, 13, 14, 15], [2, 4]), ([16, 13, 15, 0, 1, 2, 3, 4, 5, 6, 7, 8, 9, 10, 11, 12, 13, 14, 15], [13, 16])])
def ravelinlaw12_BatchShapes.B16 : List Nat := [0, 0, 0, 0, 8, 0, 0, 64, 224, 480, 0, 0, 3072, 7168, 16355, 32739, 65535, 131071]
theorem ravelinlaw12_BatchShapes.tab16 : rtab .any (opsOf Try.f6 16) = ravelinlaw12_BatchShapes.T16 := by kernel_rfl
theorem ravelinlaw12_BatchShapes.bits16 : waitsOk ravelinlaw12_BatchShapes.T16.2 ravelinlaw12_BatchShapes.B16 = true := by kernel_rfl
set_option maxHeartbeats 8000000 in
set_option maxRecDepth 100000 in
theorem ravelinlaw12_BatchShapes.calls (k : Nat) (a0 : Int) (a1 : Int) (a2 : Int) (r : Bool) (w : World) (h : ravelinlaw12_BatchShapes.f k a0 a1 a2 = some r) (hr_ : r = true) :
    Calls Try.prog 6 #[.int .u8 a0, .int .i64 a1, .int .u8 a2] w fun e w' => e = .returned (.bool r) ∧ Below w.heap.size w w' := by
  have hu49 := Try.underlying49
  have HB := Aside0.mk (Below.refl w.heap.size w)
  have H : ((ravelinlaw12_known.f k).bind fun t452 => (if t452 = true then (ravelinlaw12_BatchShapes.l0 k a1 a2 (wrap64 ((wrap64 (Int.tmod a0 11)) + 1)) ([] : List (S49)) 0) else (some false))) = some r := h
  clear h
  have HR_ := Aside0.mk hr_
  clear hr_
  replace H := Option.bind_eq_some_iff.mp H
  obtain ⟨t452, A40, H⟩ := H
  replace H : (if t452 = true then (ravelinlaw12_BatchShapes.l0 k a1 a2 (wrap64 ((wrap64 (Int.tmod a0 11)) + 1)) ([] : List (S49)) 0) else (some false)) = some r := H
  have A4 := Aside0.mk A40
  clear A40
  by_cases c5 : t452 = true
  · subst c5
    have H1 : (ravelinlaw12_BatchShapes.l0 k a1 a2 (wrap64 ((wrap64 (Int.tmod a0 11)) + 1)) ([] : List (S49)) 0) = some r := by rw [if_pos rfl] at H; exact H
    clear H
    have H := H1
    clear H1
    have H' := Aside0.mk H
    clear H
    go_enter Try.func6, Try.ntmps6
    go_wp2_with (first | ((with_reducible refine gate_callee (f := 7) rfl ?_); refine goesL_ (some 15) rfl rfl Try.func7 (by kernel_rfl) rfl #[] rfl (by (try simp only [List.map_toArray, List.map_cons, List.map_nil]); first | done | rfl | (simp only [List.length_drop, List.length_take]; rfl)) ?_; (with_reducible refine (ravelinlaw12_known.calls k  true _ A4.out (by first | rfl | assumption | exact of_decide_eq_true (by assumption))).mono ?_); rintro e w6 ⟨rfl, hb⟩; refine ⟨_, rfl, ?_⟩; have n0_ := Aside0.mk (below_step (by repeat (first | (with_reducible first | exact HB.out | apply below_alloc | apply pw_below_drewN | apply below_drew1) | exact HB.out)) hb); clear HB; have HB := n0_; clear n0_; (try clear hb); (try clear hb2); (try clear hk); (try clear hi)))
    go_loopg [8, 9] k (fun kq v8 v9 w' => ∃ (x8_1 : List (S49)) (x9_1 : Int), v9 = .int .i64 x9_1 ∧ Aside0 (ravelinlaw12_BatchShapes.l0 kq a1 a2 (wrap64 ((wrap64 (Int.tmod a0 11)) + 1)) x8_1 x9_1 = some r) ∧ Aside0 (kq ≤ k) ∧ Aside0 (Kd.R k49 49 w' w.heap.size (fun _ => True) v8 x8_1) ∧ Aside0 (Below w.heap.size w w'))
    case atStart => exact ⟨(([] : List (S49))), (0), (by first | rfl | (simp; done) | (simp [*]; done)), H', ⟨Nat.le_refl _⟩, ⟨by first | exact Kd.R_nil _ _ _ _ _ | exact Kd.N_nil _ _ _ _ _ | exact Kd.V_nil _ _ _ _ _ | exact Kd.Q_nil _ _ _ _ _ | exact Kd.S_nil _ _ _ _ _⟩, ⟨by repeat (first | (with_reducible first | exact HB.out | apply below_alloc | apply pw_below_drewN | apply below_drew1) | exact HB.out)⟩⟩
    case round =>
      clear H'
      try clear p2
      try clear c5
      try clear c6
      try clear p6
      obtain ⟨x8_1, x9_1, rfl, HA, HK1, HO_8, HB⟩ := hrel
      cases gk with
      | zero => exact absurd HA.out (by simp [ravelinlaw12_BatchShapes.l0])
      | succ k1 =>
        have H := HA.out
        clear HA
        simp only [ravelinlaw12_BatchShapes.l0] at H
        by_cases c7 : x9_1 < (wrap64 ((wrap64 (Int.tmod a0 11)) + 1))
        · rw [if_pos c7] at H
          have c7b0 : decide (x9_1 < (wrap64 ((wrap64 (Int.tmod a0 11)) + 1))) = true := decide_eq_true c7
          clear c7
          obtain ⟨y453, hy453⟩ : ∃ y_ : List Int, y_ = (([(wrap64 (97 + x9_1)) % 256] : List Int)) := ⟨_, rfl⟩
          replace H : (if x8_1.length < 3518437208883 then (ravelinlaw12_BatchShapes.l0 k1 a1 a2 (wrap64 ((wrap64 (Int.tmod a0 11)) + 1)) (x8_1 ++ [(⟨strOfNums y453, false, (⟨#[118]⟩ : ByteArray)⟩ : S49)]) (wrap64 (x9_1 + 1))) else (none)) = some r := by first | (rw [hy453]; with_reducible exact H) | (have H2_ := (Option.bind_some _ _).symm.trans H; rw [hy453]; with_reducible exact H2_) | (have H2_ := (Option.bind_some _ _).symm.trans H; with_reducible exact H2_) | with_reducible exact H | (rw [hy453]; exact H) | exact H
          have Ny453 := Aside0.mk hy453
          clear hy453
          by_cases c8 : x8_1.length < 3518437208883
          · rw [if_pos c8] at H
            have LMc8 := Aside0.mk c8
            clear c8
            obtain ⟨y456, hy456⟩ : ∃ y_ : List (S49), y_ = (x8_1 ++ [(⟨strOfNums y453, false, (⟨#[118]⟩ : ByteArray)⟩ : S49)]) := ⟨_, rfl⟩
            replace H : (ravelinlaw12_BatchShapes.l0 k1 a1 a2 (wrap64 ((wrap64 (Int.tmod a0 11)) + 1)) y456 (wrap64 (x9_1 + 1))) = some r := by first | (rw [hy456]; with_reducible exact H) | (have H2_ := (Option.bind_some _ _).symm.trans H; rw [hy456]; with_reducible exact H2_) | (have H2_ := (Option.bind_some _ _).symm.trans H; with_reducible exact H2_) | with_reducible exact H | (rw [hy456]; exact H) | exact H
            have Ny456 := Aside0.mk hy456
            clear hy456
            have H' := Aside0.mk H
            clear H
            go_wp2_with (first | ((with_reducible refine gate_dst (N := 30) rfl ?_); (try (refine gate_guard (by rfl) ?_; dsimp only)); refine Kd.R_lit (Kd.int .u8) _ 5 ?hg (N := 30) ?hd (xs := ([(wrap64 (97 + x9_1)) % 256] : List Int)) (inner := [.int .u8 ((wrap64 (97 + x9_1)) % 256)]) (ok := fun _ => True) (okp := fun _ => True) ?hr ?hp (fun _ hk => hk) trivial (Below.refl _ _) (Nat.le_refl _) (by simp) ?_; (case hd => rfl); (case hg => rfl); (case hr => first | (go_simp; done) | (go_simp; rfl)); (case hp => exact (Reps.one (show Kd.M (Kd.int .u8) _ _ _ ((wrap64 (97 + x9_1)) % 256) [.int .u8 ((wrap64 (97 + x9_1)) % 256)] from rfl) (Reps.none _ _))); intro v454 w9 ho10 hb hg_ hnew_; clear hg_ hnew_; (first | rw [← Ny453.out] at ho10 | (simp only [Int.reduceToNat] at ho10; rw [← Ny453.out] at ho10)); have n0_ := Aside0.mk (Kd.R_below (by (with_reducible repeat (first | apply Kd.R_alloc | apply Kd.R_drewN | apply Kd.R_drew)); exact HO_8.out) hb); have n1_ := Aside0.mk (Kd.R_lower ho10 (below_size (by repeat (first | (with_reducible first | exact HB.out | apply below_alloc | apply pw_below_drewN | apply below_drew1) | exact HB.out)))); have n2_ := Aside0.mk (below_step (by repeat (first | (with_reducible first | exact HB.out | apply below_alloc | apply pw_below_drewN | apply below_drew1) | exact HB.out)) hb); clear HO_8; clear HB; have HO_8 := n0_; have HO455 := n1_; have HB := n2_; clear n0_ n1_ n2_; clear hb ho10; have hcv11 := own_string (P := Try.prog) Try.underlying46 Try.underlying5 Try.underlying9 (Kd.own_of_R HO455.out)) | ((with_reducible refine gate_builtin (b := .append) (xs := #[.tmp 26, .tmp 33]) rfl ?_); (try (refine gate_guard (by rfl) ?_; dsimp only)); at_builtin; refine Kd.R_append k49 (w0 := w) w.heap.size rfl (.tmp 26) (.tmp 33) 22 49 (.agg #[(.string ⟨#[]⟩), (.bool false), (.string ⟨#[]⟩)]) 40 rfl Try.underlying22 info49 rfl (by decide) (by omega) u8 x8_1 (⟨strOfNums y453, false, (⟨#[118]⟩ : ByteArray)⟩ : S49) [.string (strOfNums y453), .bool false, .string (⟨#[118]⟩ : ByteArray)] (fun _ => True) (fun _ => False) rfl rfl ?aP (fun _ hk => hk.elim) ?aF ?aO ?aB ?aS ?aL ?_; (case aP => exact k49_mkM _ _ _ (⟨strOfNums y453, false, (⟨#[118]⟩ : ByteArray)⟩ : S49)); (case aB => exact (by repeat (first | (with_reducible first | exact HB.out | apply below_alloc | apply pw_below_drewN | apply below_drew1) | exact HB.out))); (case aF => exact (fun _ _ => trivial)); (case aO => exact (by (with_reducible repeat (first | apply Kd.R_alloc | apply Kd.R_drewN | apply Kd.R_drew)); exact HO_8.out)); (case aS => exact (below_size (by repeat (first | (with_reducible first | exact HB.out | apply below_alloc | apply pw_below_drewN | apply below_drew1) | exact HB.out)))); (case aL => have := LMc8.out; omega); intro v457 w12 ho hb hg hat; rw [← Ny456.out] at ho; have n0_ := Aside0.mk (Kd.R_over' (by (with_reducible repeat (first | apply Kd.R_alloc | apply Kd.R_drewN | apply Kd.R_drew)); exact HO455.out) (Kd.R_typed (by (with_reducible repeat (first | apply Kd.R_alloc | apply Kd.R_drewN | apply Kd.R_drew)); exact HO_8.out)) (by decide) hg); have n1_ := Aside0.mk (hb); have n2_ := Aside0.mk (ho); clear HO455; clear HB; clear HO_8; have HO455 := n0_; have HB := n1_; have HO458 := n2_; clear n0_ n1_ n2_; clear ho hb hg hat))
            go_roundg k1
            case measure => have := HK1.out; omega
            case rel => exact ⟨(y456), (wrap64 (x9_1 + 1)), (by first | rfl | (simp; done) | (simp [*]; done)), H', ⟨by have := HK1.out; omega⟩, ⟨by (with_reducible repeat (first | apply Kd.R_alloc | apply Kd.R_drewN | apply Kd.R_drew)); exact HO458.out⟩, ⟨by repeat (first | (with_reducible first | exact HB.out | apply below_alloc | apply pw_below_drewN | apply below_drew1) | exact HB.out)⟩⟩
          · rw [if_neg c8] at H
            exact absurd H (by simp)
        · rw [if_neg c7] at H
          have c7b0 : decide (x9_1 < (wrap64 ((wrap64 (Int.tmod a0 11)) + 1))) = false := decide_eq_false c7
          clear c7
          replace H := Option.bind_eq_some_iff.mp H
          obtain ⟨⟨t459, t460⟩, A130, H⟩ := H
          replace H : (if a1 ≥ 1 then (ravelinlaw12_BatchShapes.j1 k1 a2 (wrap64 ((wrap64 (Int.tmod a0 11)) + 1)) x8_1 (decide ((wrap64 ((wrap64 (Int.tmod a0 11)) + 1)) ≤ 8)) t459 t460 (decide (a1 ≤ 1000000))) else (ravelinlaw12_BatchShapes.j1 k1 a2 (wrap64 ((wrap64 (Int.tmod a0 11)) + 1)) x8_1 (decide ((wrap64 ((wrap64 (Int.tmod a0 11)) + 1)) ≤ 8)) t459 t460 false)) = some r := H
          have A13 := Aside0.mk A130
          clear A130
          have HC14 := Aside0.mk H
          clear H
          obtain ⟨Ao15, co15, eo15⟩ := Kd.R_slice HO_8.out
          subst eo15
          go_upto_region 11 with (first | ((with_reducible refine gate_callee (f := 9) rfl ?_); refine goesL_ (some 40) rfl rfl Try.func9 (by kernel_rfl) rfl #[.int .i64 a1, .slice Ao15 x8_1.length co15] rfl (by (try simp only [List.map_toArray, List.map_cons, List.map_nil]); first | done | rfl | (simp only [List.length_drop, List.length_take]; rfl)) ?_; (with_reducible refine (batch_Bytes.calls k1 a1 _ _ x8_1 t459 t460 _ ?side1 ?side2 A13.out).mono ?_); (case side1 => repeat (first | exact (Kd.R_reads' HO_8.out).2.2 | (with_reducible refine Kd.C_alloc ?_ _) | (with_reducible refine Kd.C_drewN ?_ _) | (with_reducible refine Kd.C_drew ?_))); (case side2 => exact (Kd.R_reads' HO_8.out).2.1); rintro e w16 ⟨rfl, hb⟩; refine ⟨_, rfl, ?_⟩; have n0_ := Aside0.mk (Kd.R_below (by (with_reducible repeat (first | apply Kd.R_alloc | apply Kd.R_drewN | apply Kd.R_drew)); exact HO_8.out) hb); have n1_ := Aside0.mk (below_step (by repeat (first | (with_reducible first | exact HB.out | apply below_alloc | apply pw_below_drewN | apply below_drew1) | exact HB.out)) hb); clear HO_8; clear HB; have HO_8 := n0_; have HB := n1_; clear n0_ n1_; (try clear hb); (try clear hb2); (try clear hk); (try clear hi)))
          (try simp only [Act.put, List.setIfInBounds_toArray, List.set_cons_zero, List.set_cons_succ])
          go_cut [13] (fun v13 wc => ∃ (kq : Nat) (x13_13 : Bool), v13 = .bool x13_13 ∧ Aside0 (ravelinlaw12_BatchShapes.j1 kq a2 (wrap64 ((wrap64 (Int.tmod a0 11)) + 1)) x8_1 (decide ((wrap64 ((wrap64 (Int.tmod a0 11)) + 1)) ≤ 8)) t459 t460 x13_13 = some r) ∧ Aside0 (kq ≤ k1) ∧ Aside0 (Kd.R k49 49 wc w.heap.size (fun _ => True) (.slice Ao15 x8_1.length co15) x8_1) ∧ Aside0 (Below w.heap.size w wc))
          case first =>
            have H := HC14.out
            clear HC14
            by_cases c17 : a1 ≥ 1
            · rw [if_pos c17] at H
              have c17b0 : decide (1 ≤ a1) = true := decide_eq_true c17
              clear c17
              (first | rw [c17b0] | (simp only [i64_w, i32_w]; rw [c17b0]) | skip)
              have H' := Aside0.mk H
              clear H
              go_wp2
              go_meet
              case rel => exact ⟨_, (decide (a1 ≤ 1000000)), (by first | rfl | (simp; done) | (simp [*]; done)), H', ⟨by have := HK1.out; first | omega | exact Nat.le_refl _⟩, ⟨by (with_reducible repeat (first | apply Kd.R_alloc | apply Kd.R_drewN | apply Kd.R_drew)); exact HO_8.out⟩, ⟨by repeat (first | (with_reducible first | exact HB.out | apply below_alloc | apply pw_below_drewN | apply below_drew1) | exact HB.out)⟩⟩
            · rw [if_neg c17] at H
              have c17b0 : decide (1 ≤ a1) = false := decide_eq_false c17
              clear c17
              (first | rw [c17b0] | (simp only [i64_w, i32_w]; rw [c17b0]) | skip)
              have H' := Aside0.mk H
              clear H
              go_wp2
              go_meet
              case rel => exact ⟨_, (false), (by first | rfl | (simp; done) | (simp [*]; done)), H', ⟨by have := HK1.out; first | omega | exact Nat.le_refl _⟩, ⟨by (with_reducible repeat (first | apply Kd.R_alloc | apply Kd.R_drewN | apply Kd.R_drew)); exact HO_8.out⟩, ⟨by repeat (first | (with_reducible first | exact HB.out | apply below_alloc | apply pw_below_drewN | apply below_drew1) | exact HB.out)⟩⟩
          case rest =>
            clear HC14
            try clear c1
            try clear hcv1
            try clear p2
            try clear c5
            try clear c6
            try clear p6
            try clear c7
            try clear c7b0
            try clear c8
            try clear c9
            try clear hcv11
            try clear c17
            try clear c17b0
            try clear p2
            try clear p6
            obtain ⟨kq, x13_13, rfl, HA, HJ13, HO_8, HB⟩ := hcut
            cases kq with
            | zero => exact absurd HA.out (by simp [ravelinlaw12_BatchShapes.j1])
            | succ kj13 =>
              have H := HA.out
              clear HA
              simp only [ravelinlaw12_BatchShapes.j1] at H
              have HC18 := Aside0.mk H
              clear H
              go_upto_region 12 with (fail)
              go_cut [10, 12, 13, 68] (fun v10 v12 v13 v68 wc => ∃ (kq : Nat) (x68_17 : Bool), v68 = .bool x68_17 ∧ Aside0 (ravelinlaw12_BatchShapes.j2 kq a2 (wrap64 ((wrap64 (Int.tmod a0 11)) + 1)) x8_1 x68_17 = some r) ∧ Aside0 (kq ≤ kj13) ∧ Aside0 (Kd.R k49 49 wc w.heap.size (fun _ => True) (.slice Ao15 x8_1.length co15) x8_1) ∧ Aside0 (Below w.heap.size w wc))
              case first =>
                have H := HC18.out
                clear HC18
                replace H := Option.bind_eq_some_iff.mp H
                obtain ⟨t461, A190, H⟩ := H
                replace H : (if (t461 != (decide ((wrap64 ((wrap64 (Int.tmod a0 11)) + 1)) ≤ 8))) = true then (ravelinlaw12_BatchShapes.j2 kj13 a2 (wrap64 ((wrap64 (Int.tmod a0 11)) + 1)) x8_1 true) else (if (decide ((wrap64 ((wrap64 (Int.tmod a0 11)) + 1)) ≤ 8)) = true then (if ((t460 == 0) != x13_13) = true then (ravelinlaw12_BatchShapes.j2 kj13 a2 (wrap64 ((wrap64 (Int.tmod a0 11)) + 1)) x8_1 true) else (ravelinlaw12_BatchShapes.j2 kj13 a2 (wrap64 ((wrap64 (Int.tmod a0 11)) + 1)) x8_1 ((t459.toList == ([] : List UInt8)) != (t460 != 0)))) else (if ((t460 == 0) != false) = true then (ravelinlaw12_BatchShapes.j2 kj13 a2 (wrap64 ((wrap64 (Int.tmod a0 11)) + 1)) x8_1 true) else (ravelinlaw12_BatchShapes.j2 kj13 a2 (wrap64 ((wrap64 (Int.tmod a0 11)) + 1)) x8_1 ((t459.toList == ([] : List UInt8)) != (t460 != 0)))))) = some r := H
                generalize hB_ : (decide ((wrap64 ((wrap64 (Int.tmod a0 11)) + 1)) ≤ 8)) = B_ at H
                generalize hE_ : (t460 == 0) = E_ at H
                have hN_ : (t460 != 0) = !E_ := by rw [← hE_]; rfl
                rw [hN_] at H
                have A19 := Aside0.mk A190
                clear A190
                cases t461 <;> cases B_ <;> cases E_ <;> cases x13_13
                all_goals
                  simp only [show ((true : Bool) != true) = false from rfl, show ((true : Bool) != false) = true from rfl, show ((false : Bool) != true) = true from rfl, show ((false : Bool) != false) = false from rfl, Bool.false_eq_true, if_true, if_false, ↓reduceIte, Bool.not_true, Bool.not_false] at H hN_
                  have H' := Aside0.mk H
                  clear H
                  go_wp2_with (first | ((with_reducible refine gate_callee (f := 15) rfl ?_); refine goesL_ (some 50) rfl rfl Try.func15 (by kernel_rfl) rfl #[.slice Ao15 x8_1.length co15] rfl (by (try simp only [List.map_toArray, List.map_cons, List.map_nil]); first | done | rfl | (simp only [List.length_drop, List.length_take]; rfl)) ?_; (with_reducible refine (batch_Is.calls kj13 _ _ x8_1 _ _ ?side1 ?side2 A19.out).mono ?_); (case side1 => repeat (first | exact (Kd.R_reads' HO_8.out).2.2 | (with_reducible refine Kd.C_alloc ?_ _) | (with_reducible refine Kd.C_drewN ?_ _) | (with_reducible refine Kd.C_drew ?_))); (case side2 => exact (Kd.R_reads' HO_8.out).2.1); rintro e w21 ⟨rfl, hb⟩; refine ⟨_, rfl, ?_⟩; have n0_ := Aside0.mk (Kd.R_below (by (with_reducible repeat (first | apply Kd.R_alloc | apply Kd.R_drewN | apply Kd.R_drew)); exact HO_8.out) hb); have n1_ := Aside0.mk (below_step (by repeat (first | (with_reducible first | exact HB.out | apply below_alloc | apply pw_below_drewN | apply below_drew1) | exact HB.out)) hb); clear HO_8; clear HB; have HO_8 := n0_; have HB := n1_; clear n0_ n1_; (try clear hb); (try clear hb2); (try clear hk); (try clear hi)))
                  go_meet
                  case rel => exact ⟨_, _, rfl, ⟨by have h_ := H'.out; first | exact h_ | (simpa using h_)⟩, ⟨by have := HK1.out; have := HJ13.out; first | omega | exact Nat.le_refl _⟩, ⟨by (with_reducible repeat (first | apply Kd.R_alloc | apply Kd.R_drewN | apply Kd.R_drew)); exact HO_8.out⟩, ⟨by repeat (first | (with_reducible first | exact HB.out | apply below_alloc | apply pw_below_drewN | apply below_drew1) | exact HB.out)⟩⟩
              case rest =>
                clear HC18
                try clear c1
                try clear hcv1
                try clear c2
                try clear p2
                try clear c5
                try clear c6
                try clear p6
                try clear c7
                try clear c7b0
                try clear c8
                try clear c9
                try clear hcv11
                try clear c15
                try clear c17
                try clear c17b0
                try clear c20
                try clear c20b0
                try clear c20b1
                try clear c20b2
                try clear c22
                try clear c22b0
                try clear c23
                try clear c23b0
                try clear c23b1
                try clear c23b2
                try clear c26
                try clear c26b0
                try clear c26b1
                try clear c26b2
                try clear p2
                try clear p6
                obtain ⟨kq, x68_17, rfl, HA, HJ17, HO_8, HB⟩ := hcut
                cases kq with
                | zero => exact absurd HA.out (by simp [ravelinlaw12_BatchShapes.j2])
                | succ kj17 =>
                  have H := HA.out
                  clear HA
                  simp only [ravelinlaw12_BatchShapes.j2] at H
                  by_cases c29 : x68_17 = true
                  · subst c29
                    have H1 : (some false) = some r := by rw [if_pos rfl] at H; exact H
                    clear H
                    have H := H1
                    clear H1
                    exact absurd ((Option.some.inj H).trans HR_.out) (by decide)
                  · replace c29 := Bool.eq_false_iff.mpr c29
                    subst c29
                    have H1 : (if (wrap64 ((wrap64 (Int.tmod a0 11)) + 1)) > 1 then (if (wrap64 ((wrap64 ((wrap64 (Int.tmod a0 11)) + 1)) - 1)) = 0 then (none) else (if 0 ≤ (wrap64 ((Int.tmod (wrap64 (a2)) (wrap64 ((wrap64 ((wrap64 (Int.tmod a0 11)) + 1)) - 1))) + 1)) then (if (wrap64 ((Int.tmod (wrap64 (a2)) (wrap64 ((wrap64 ((wrap64 (Int.tmod a0 11)) + 1)) - 1))) + 1)) < (x8_1.length : Int) then (if 0 ≤ (Int.tmod (wrap64 (a2)) (wrap64 ((wrap64 ((wrap64 (Int.tmod a0 11)) + 1)) - 1))) then (if (Int.tmod (wrap64 (a2)) (wrap64 ((wrap64 ((wrap64 (Int.tmod a0 11)) + 1)) - 1))) < (x8_1.length : Int) then ((some ((x8_1.set ((Int.tmod (wrap64 (a2)) (wrap64 ((wrap64 ((wrap64 (Int.tmod a0 11)) + 1)) - 1))) : Int).toNat (⟨(rd_T49 x8_1 (wrap64 ((Int.tmod (wrap64 (a2)) (wrap64 ((wrap64 ((wrap64 (Int.tmod a0 11)) + 1)) - 1))) + 1))).f0, (rd_T49 x8_1 (wrap64 ((Int.tmod (wrap64 (a2)) (wrap64 ((wrap64 ((wrap64 (Int.tmod a0 11)) + 1)) - 1))) + 1))).f1, (rd_T49 x8_1 (wrap64 ((Int.tmod (wrap64 (a2)) (wrap64 ((wrap64 ((wrap64 (Int.tmod a0 11)) + 1)) - 1))) + 1))).f2⟩ : S49)).set ((wrap64 ((Int.tmod (wrap64 (a2)) (wrap64 ((wrap64 ((wrap64 (Int.tmod a0 11)) + 1)) - 1))) + 1)) : Int).toNat (⟨(rd_T49 x8_1 (Int.tmod (wrap64 (a2)) (wrap64 ((wrap64 ((wrap64 (Int.tmod a0 11)) + 1)) - 1)))).f0, (rd_T49 x8_1 (Int.tmod (wrap64 (a2)) (wrap64 ((wrap64 ((wrap64 (Int.tmod a0 11)) + 1)) - 1)))).f1, (rd_T49 x8_1 (Int.tmod (wrap64 (a2)) (wrap64 ((wrap64 ((wrap64 (Int.tmod a0 11)) + 1)) - 1)))).f2⟩ : S49) : List (S49))).bind fun y465 => ((batch_Is.f kj17 y465).bind fun t466 => (if t466 = true then (some false) else ((batch_Entries.f kj17 1 y465).bind fun t467 => (if (t467.length : Int) = 0 then ((batch_Neat.f kj17 y465).bind fun t470 => (if (t470.length : Int) = (wrap64 ((wrap64 (Int.tmod a0 11)) + 1)) then (some true) else (some false))) else (some false)))))) else (none)) else (none)) else (none)) else (none))) else (some true)) = some r := by rw [if_neg (show ¬ (false = true) by decide)] at H; exact H
                    clear H
                    have H := H1
                    clear H1
                    by_cases c30 : (wrap64 ((wrap64 (Int.tmod a0 11)) + 1)) > 1
                    · rw [if_pos c30] at H
                      have c30b0 : decide (1 < (wrap64 ((wrap64 (Int.tmod a0 11)) + 1))) = true := decide_eq_true c30
                      clear c30
                      by_cases c31 : (wrap64 ((wrap64 ((wrap64 (Int.tmod a0 11)) + 1)) - 1)) = 0
                      · rw [if_pos c31] at H
                        exact absurd H (by simp)
                      · rw [if_neg c31] at H
                        have c31b0 : ((wrap64 ((wrap64 ((wrap64 (Int.tmod a0 11)) + 1)) - 1)) == 0) = false := beq_eq_false_iff_ne.mpr c31
                        have c31b1 : ((wrap64 ((wrap64 ((wrap64 (Int.tmod a0 11)) + 1)) - 1)) != 0) = true := bne_iff_ne.mpr c31
                        obtain ⟨ji32, hji32⟩ : ∃ j_ : Int, (wrap64 ((Int.tmod (wrap64 (a2)) (wrap64 ((wrap64 ((wrap64 (Int.tmod a0 11)) + 1)) - 1))) + 1)) = j_ := ⟨_, rfl⟩
                        replace H : (if 0 ≤ (ji32) then (if (ji32) < (x8_1.length : Int) then (if 0 ≤ (Int.tmod (wrap64 (a2)) (wrap64 ((wrap64 ((wrap64 (Int.tmod a0 11)) + 1)) - 1))) then (if (Int.tmod (wrap64 (a2)) (wrap64 ((wrap64 ((wrap64 (Int.tmod a0 11)) + 1)) - 1))) < (x8_1.length : Int) then ((some ((x8_1.set ((Int.tmod (wrap64 (a2)) (wrap64 ((wrap64 ((wrap64 (Int.tmod a0 11)) + 1)) - 1))) : Int).toNat (⟨(rd_T49 x8_1 (ji32)).f0, (rd_T49 x8_1 (ji32)).f1, (rd_T49 x8_1 (ji32)).f2⟩ : S49)).set ((ji32) : Int).toNat (⟨(rd_T49 x8_1 (Int.tmod (wrap64 (a2)) (wrap64 ((wrap64 ((wrap64 (Int.tmod a0 11)) + 1)) - 1)))).f0, (rd_T49 x8_1 (Int.tmod (wrap64 (a2)) (wrap64 ((wrap64 ((wrap64 (Int.tmod a0 11)) + 1)) - 1)))).f1, (rd_T49 x8_1 (Int.tmod (wrap64 (a2)) (wrap64 ((wrap64 ((wrap64 (Int.tmod a0 11)) + 1)) - 1)))).f2⟩ : S49) : List (S49))).bind fun y465 => ((batch_Is.f kj17 y465).bind fun t466 => (if t466 = true then (some false) else ((batch_Entries.f kj17 1 y465).bind fun t467 => (if (t467.length : Int) = 0 then ((batch_Neat.f kj17 y465).bind fun t470 => (if (t470.length : Int) = (wrap64 ((wrap64 (Int.tmod a0 11)) + 1)) then (some true) else (some false))) else (some false)))))) else (none)) else (none)) else (none)) else (none)) = some r := by first | (rw [hji32] at H; exact H) | (simp only [hji32] at H ⊢; exact H)
                        have hji32w : (IntKind.i64.wrap ((Int.tmod (wrap64 (a2)) (wrap64 ((wrap64 ((wrap64 (Int.tmod a0 11)) + 1)) - 1))) + 1)) = ji32 := (i64_w _).trans hji32
                        by_cases c33 : 0 ≤ (ji32)
                        · rw [if_pos c33] at H
                          have c33b0 : decide (0 ≤ (ji32)) = true := decide_eq_true c33
                          clear c33
                          by_cases c34 : (ji32) < (x8_1.length : Int)
                          · rw [if_pos c34] at H
                            have c34b0 : decide ((ji32) < (x8_1.length : Int)) = true := decide_eq_true c34
                            clear c34
                            obtain ⟨ji35, hji35⟩ : ∃ j_ : Int, (Int.tmod (wrap64 (a2)) (wrap64 ((wrap64 ((wrap64 (Int.tmod a0 11)) + 1)) - 1))) = j_ := ⟨_, rfl⟩
                            replace H : (if 0 ≤ (ji35) then (if (ji35) < (x8_1.length : Int) then ((some ((x8_1.set ((ji35) : Int).toNat (⟨(rd_T49 x8_1 (ji32)).f0, (rd_T49 x8_1 (ji32)).f1, (rd_T49 x8_1 (ji32)).f2⟩ : S49)).set ((ji32) : Int).toNat (⟨(rd_T49 x8_1 (ji35)).f0, (rd_T49 x8_1 (ji35)).f1, (rd_T49 x8_1 (ji35)).f2⟩ : S49) : List (S49))).bind fun y465 => ((batch_Is.f kj17 y465).bind fun t466 => (if t466 = true then (some false) else ((batch_Entries.f kj17 1 y465).bind fun t467 => (if (t467.length : Int) = 0 then ((batch_Neat.f kj17 y465).bind fun t470 => (if (t470.length : Int) = (wrap64 ((wrap64 (Int.tmod a0 11)) + 1)) then (some true) else (some false))) else (some false)))))) else (none)) else (none)) = some r := by first | (rw [hji35] at H; exact H) | (simp only [hji35] at H ⊢; exact H)
                            (try (have hji32ji35 := hji32; rw [hji35] at hji32ji35))
                            (try (have hji32wji35 := hji32w; rw [hji35] at hji32wji35))
                            (try (have hji32_ji35 := hji32_; rw [hji35] at hji32_ji35))
                            by_cases c36 : 0 ≤ (ji35)
                            · rw [if_pos c36] at H
                              have c36b0 : decide (0 ≤ (ji35)) = true := decide_eq_true c36
                              clear c36
                              by_cases c37 : (ji35) < (x8_1.length : Int)
                              · rw [if_pos c37] at H
                                have c37b0 : decide ((ji35) < (x8_1.length : Int)) = true := decide_eq_true c37
                                clear c37
                                obtain ⟨y464, hy464⟩ : ∃ y_ : List (S49), y_ = (x8_1.set ((ji35) : Int).toNat (⟨(rd_T49 x8_1 (ji32)).f0, (rd_T49 x8_1 (ji32)).f1, (rd_T49 x8_1 (ji32)).f2⟩ : S49)) := ⟨_, rfl⟩
                                replace H : ((some (y464.set ((ji32) : Int).toNat (⟨(rd_T49 x8_1 (ji35)).f0, (rd_T49 x8_1 (ji35)).f1, (rd_T49 x8_1 (ji35)).f2⟩ : S49) : List (S49))).bind fun y465 => ((batch_Is.f kj17 y465).bind fun t466 => (if t466 = true then (some false) else ((batch_Entries.f kj17 1 y465).bind fun t467 => (if (t467.length : Int) = 0 then ((batch_Neat.f kj17 y465).bind fun t470 => (if (t470.length : Int) = (wrap64 ((wrap64 (Int.tmod a0 11)) + 1)) then (some true) else (some false))) else (some false)))))) = some r := by first | (rw [hy464]; with_reducible exact H) | (have H2_ := (Option.bind_some _ _).symm.trans H; rw [hy464]; with_reducible exact H2_) | (have H2_ := (Option.bind_some _ _).symm.trans H; with_reducible exact H2_) | with_reducible exact H | (rw [hy464]; exact H) | exact H
                                have Ny464 := Aside0.mk hy464
                                clear hy464
                                obtain ⟨y465, hy465⟩ : ∃ y_ : List (S49), y_ = (y464.set ((ji32) : Int).toNat (⟨(rd_T49 x8_1 (ji35)).f0, (rd_T49 x8_1 (ji35)).f1, (rd_T49 x8_1 (ji35)).f2⟩ : S49)) := ⟨_, rfl⟩
                                replace H : ((batch_Is.f kj17 y465).bind fun t466 => (if t466 = true then (some false) else ((batch_Entries.f kj17 1 y465).bind fun t467 => (if (t467.length : Int) = 0 then ((batch_Neat.f kj17 y465).bind fun t470 => (if (t470.length : Int) = (wrap64 ((wrap64 (Int.tmod a0 11)) + 1)) then (some true) else (some false))) else (some false))))) = some r := by first | (rw [hy465]; with_reducible exact H) | (have H2_ := (Option.bind_some _ _).symm.trans H; rw [hy465]; with_reducible exact H2_) | (have H2_ := (Option.bind_some _ _).symm.trans H; with_reducible exact H2_) | with_reducible exact H | (rw [hy465]; exact H) | exact H
                                have Ny465 := Aside0.mk hy465
                                clear hy465
                                replace H := Option.bind_eq_some_iff.mp H
                                obtain ⟨t466, A400, H⟩ := H
                                replace H : (if t466 = true then (some false) else ((batch_Entries.f kj17 1 y465).bind fun t467 => (if (t467.length : Int) = 0 then ((batch_Neat.f kj17 y465).bind fun t470 => (if (t470.length : Int) = (wrap64 ((wrap64 (Int.tmod a0 11)) + 1)) then (some true) else (some false))) else (some false)))) = some r := H
                                have A40 := Aside0.mk A400
                                clear A400
                                by_cases c41 : t466 = true
                                · subst c41
                                  have H1 : (some false) = some r := by rw [if_pos rfl] at H; exact H
                                  clear H
                                  have H := H1
                                  clear H1
                                  exact absurd ((Option.some.inj H).trans HR_.out) (by decide)
                                · replace c41 := Bool.eq_false_iff.mpr c41
                                  subst c41
                                  have H1 : ((batch_Entries.f kj17 1 y465).bind fun t467 => (if (t467.length : Int) = 0 then ((batch_Neat.f kj17 y465).bind fun t470 => (if (t470.length : Int) = (wrap64 ((wrap64 (Int.tmod a0 11)) + 1)) then (some true) else (some false))) else (some false))) = some r := by rw [if_neg (show ¬ (false = true) by decide)] at H; exact H
                                  clear H
                                  have H := H1
                                  clear H1
                                  replace H := Option.bind_eq_some_iff.mp H
                                  obtain ⟨t467, A420, H⟩ := H
                                  replace H : (if (t467.length : Int) = 0 then ((batch_Neat.f kj17 y465).bind fun t470 => (if (t470.length : Int) = (wrap64 ((wrap64 (Int.tmod a0 11)) + 1)) then (some true) else (some false))) else (some false)) = some r := H
                                  have A42 := Aside0.mk A420
                                  clear A420
                                  by_cases c43 : (t467.length : Int) = 0
                                  · rw [if_pos c43] at H
                                    have c43b0 : ((t467.length : Int) == 0) = true := beq_iff_eq.mpr c43
                                    have c43b1 : ((t467.length : Int) != 0) = false := bne_eq_false_iff_eq.mpr c43
                                    clear c43
                                    replace H := Option.bind_eq_some_iff.mp H
                                    obtain ⟨t470, A440, H⟩ := H
                                    replace H : (if (t470.length : Int) = (wrap64 ((wrap64 (Int.tmod a0 11)) + 1)) then (some true) else (some false)) = some r := H
                                    have A44 := Aside0.mk A440
                                    clear A440
                                    by_cases c45 : (t470.length : Int) = (wrap64 ((wrap64 (Int.tmod a0 11)) + 1))
                                    · rw [if_pos c45] at H
                                      have c45b0 : ((t470.length : Int) == (wrap64 ((wrap64 (Int.tmod a0 11)) + 1))) = true := beq_iff_eq.mpr c45
                                      have c45b1 : ((t470.length : Int) != (wrap64 ((wrap64 (Int.tmod a0 11)) + 1))) = false := bne_eq_false_iff_eq.mpr c45
                                      clear c45
                                      obtain rfl := Option.some.inj H
                                      try go_wp2
                                      have n0_ := Aside0.mk (Kd.R_drew HO_8.out)
                                      have n1_ := Aside0.mk (below_drew1 HB.out)
                                      clear HO_8
                                      clear HB
                                      have HO_8 := n0_
                                      have HB := n1_
                                      clear n0_ n1_
                                      have p462 : 0 ≤ ((ji32) : Int) := of_decide_eq_true (by first | (with_reducible assumption) | assumption)
                                      have q462 : (ji32) < (x8_1.length : Int) := of_decide_eq_true (by first | (with_reducible assumption) | assumption)
                                      obtain ⟨ad462, e462, hx462_0, hx462_1, hx462_2⟩ := at_T49 (Kd.R_reads' HO_8.out).2.2 (ji32) p462 q462
                                      cases e462
                                      replace p462 := eq_true p462
                                      replace q462 := eq_true q462
                                      have p463 : 0 ≤ ((ji35) : Int) := of_decide_eq_true (by first | (with_reducible assumption) | assumption)
                                      have q463 : (ji35) < (x8_1.length : Int) := of_decide_eq_true (by first | (with_reducible assumption) | assumption)
                                      obtain ⟨ad463, e463, hx463_0, hx463_1, hx463_2⟩ := at_T49 (Kd.R_reads' HO_8.out).2.2 (ji35) p463 q463
                                      obtain rfl : ad462 = ad463 := (by injection e463)
                                      replace p463 := eq_true p463
                                      replace q463 := eq_true q463
                                      have p38 : 0 ≤ ((ji35) : Int) := of_decide_eq_true (by first | (with_reducible assumption) | assumption)
                                      have q38 : ((ji35) : Int) < ((x8_1.length : Int) : Int) := of_decide_eq_true (by first | (with_reducible assumption) | assumption)
                                      obtain ⟨go38, co38, eo38, gb38, gl38, cl38, HG38⟩ := Kd.R_form HO_8.out (by omega)
                                      (first | cases eo38 | (injection eo38 with ea_ en_ ec_; (first | subst ea_ | (injection ea_ with ea_; subst ea_)); subst ec_; clear en_))
                                      have GB38 := Aside0.mk gb38
                                      have GG38 := Aside0.mk HG38
                                      clear gb38 gl38 HG38
                                      (first | simp only [add_plain] at hx462_0 | skip)
                                      (first | simp only [add_plain] at hx462_1 | skip)
                                      (first | simp only [add_plain] at hx462_2 | skip)
                                      (first | simp only [add_plain] at hx463_0 | skip)
                                      (first | simp only [add_plain] at hx463_1 | skip)
                                      (first | simp only [add_plain] at hx463_2 | skip)
                                      obtain ⟨ce38, hcl38, hM38, hcc38, hfr38⟩ := Kd.R_elem HO_8.out z49 ((ji35) : Int) p38 q38
                                      obtain rfl := k49_openM hM38
                                      have hx38_0 : World.cell? _ ⟨go38, ((ji35) : Int).toNat * 3, none⟩ = some (.string ((rd_T49 x8_1 (ji35)).f0)) := hcc38 0 _ rfl
                                      have hx38_1 : World.cell? _ ⟨go38, ((ji35) : Int).toNat * 3 + 1, none⟩ = some (.bool ((rd_T49 x8_1 (ji35)).f1)) := hcc38 1 _ rfl
                                      have hx38_2 : World.cell? _ ⟨go38, ((ji35) : Int).toNat * 3 + 2, none⟩ = some (.string ((rd_T49 x8_1 (ji35)).f2)) := hcc38 2 _ rfl
                                      have hf38_0 : World.frozen? _ ⟨go38, ((ji35) : Int).toNat * 3, none⟩ = false := hfr38 0
                                      have hf38_1 : World.frozen? _ ⟨go38, ((ji35) : Int).toNat * 3 + 1, none⟩ = false := hfr38 1
                                      have hf38_2 : World.frozen? _ ⟨go38, ((ji35) : Int).toNat * 3 + 2, none⟩ = false := hfr38 2
                                      clear hcl38 hcc38 hfr38 hM38
                                      replace p38 := eq_true p38
                                      replace q38 := eq_true q38
                                      obtain ⟨ce47, hcl47, hM47, hcc47, hfr47⟩ := Kd.R_elem HO_8.out z49 ((ji35) : Int) (of_decide_eq_true (by first | (with_reducible assumption) | assumption)) (by have h_ : ((ji35) : Int) < ((x8_1.length : Int) : Int) := of_decide_eq_true (by first | (with_reducible assumption) | assumption); first | exact h_ | (have e_ := (Kd.R_reads' HO_8.out).1; omega) | simpa using h_)
                                      obtain rfl := k49_openM hM47
                                      have HP47 := (Kd.R_seg HO_8.out ((ji35) : Int) (of_decide_eq_true (by first | (with_reducible assumption) | assumption)) (by have h_ : ((ji35) : Int) < ((x8_1.length : Int) : Int) := of_decide_eq_true (by first | (with_reducible assumption) | assumption); first | exact h_ | (have e_ := (Kd.R_reads' HO_8.out).1; omega) | simpa using h_) (seg := [.string ((rd_T49 x8_1 (ji32)).f0), .bool ((rd_T49 x8_1 (ji32)).f1), .string ((rd_T49 x8_1 (ji32)).f2)]) (j := 0) hcl47 hcc47 (show 3 ≤ 3 from by decide) (x' := (⟨(rd_T49 x8_1 (ji32)).f0, (rd_T49 x8_1 (ji32)).f1, (rd_T49 x8_1 (ji32)).f2⟩ : S49)) (k49_mkM _ _ _ (⟨(rd_T49 x8_1 (ji32)).f0, (rd_T49 x8_1 (ji32)).f1, (rd_T49 x8_1 (ji32)).f2⟩ : S49) ) (fun _ hk => hk)).1
                                      rw [← Ny464.out] at HP47
                                      have HQ47 := Aside0.mk HP47
                                      clear hcl47 hcc47 hfr47 hM47 HP47
                                      have p39 : 0 ≤ ((ji32) : Int) := of_decide_eq_true (by first | (with_reducible assumption) | assumption)
                                      have q39 : ((ji32) : Int) < ((x8_1.length : Int) : Int) := of_decide_eq_true (by first | (with_reducible assumption) | assumption)
                                      obtain ⟨ce39, hcl39, hM39, hcc39, hfr39⟩ := Kd.R_elem HQ47.out z49 ((ji32) : Int) p39 q39
                                      obtain rfl := k49_openM hM39
                                      have hx39_0 : World.cell? _ ⟨go38, ((ji32) : Int).toNat * 3, none⟩ = some (.string ((rd_T49 y464 (ji32)).f0)) := hcc39 0 _ rfl
                                      have hx39_1 : World.cell? _ ⟨go38, ((ji32) : Int).toNat * 3 + 1, none⟩ = some (.bool ((rd_T49 y464 (ji32)).f1)) := hcc39 1 _ rfl
                                      have hx39_2 : World.cell? _ ⟨go38, ((ji32) : Int).toNat * 3 + 2, none⟩ = some (.string ((rd_T49 y464 (ji32)).f2)) := hcc39 2 _ rfl
                                      have hf39_0 : World.frozen? _ ⟨go38, ((ji32) : Int).toNat * 3, none⟩ = false := hfr39 0
                                      have hf39_1 : World.frozen? _ ⟨go38, ((ji32) : Int).toNat * 3 + 1, none⟩ = false := hfr39 1
                                      have hf39_2 : World.frozen? _ ⟨go38, ((ji32) : Int).toNat * 3 + 2, none⟩ = false := hfr39 2
                                      clear hcl39 hcc39 hfr39 hM39
                                      replace p39 := eq_true p39
                                      replace q39 := eq_true q39
                                      obtain ⟨ce48, hcl48, hM48, hcc48, hfr48⟩ := Kd.R_elem HQ47.out z49 ((ji32) : Int) (of_decide_eq_true (by first | (with_reducible assumption) | assumption)) (by have h_ : ((ji32) : Int) < ((x8_1.length : Int) : Int) := of_decide_eq_true (by first | (with_reducible assumption) | assumption); first | exact h_ | (have e_ := (Kd.R_reads' HO_8.out).1; omega) | simpa using h_)
                                      obtain rfl := k49_openM hM48
                                      have HP48 := (Kd.R_seg HQ47.out ((ji32) : Int) (of_decide_eq_true (by first | (with_reducible assumption) | assumption)) (by have h_ : ((ji32) : Int) < ((x8_1.length : Int) : Int) := of_decide_eq_true (by first | (with_reducible assumption) | assumption); first | exact h_ | (have e_ := (Kd.R_reads' HO_8.out).1; omega) | simpa using h_) (seg := [.string ((rd_T49 x8_1 (ji35)).f0), .bool ((rd_T49 x8_1 (ji35)).f1), .string ((rd_T49 x8_1 (ji35)).f2)]) (j := 0) hcl48 hcc48 (show 3 ≤ 3 from by decide) (x' := (⟨(rd_T49 x8_1 (ji35)).f0, (rd_T49 x8_1 (ji35)).f1, (rd_T49 x8_1 (ji35)).f2⟩ : S49)) (k49_mkM _ _ _ (⟨(rd_T49 x8_1 (ji35)).f0, (rd_T49 x8_1 (ji35)).f1, (rd_T49 x8_1 (ji35)).f2⟩ : S49) ) (fun _ hk => hk)).1
                                      rw [← Ny465.out] at HP48
                                      have HQ48 := Aside0.mk HP48
                                      clear hcl48 hcc48 hfr48 hM48 HP48
                                      have hdj_ : ji35.toNat ≠ ji32.toNat := by have h_ := hji32ji35; have h1_ := of_eq_true p38; have h2_ := of_eq_true p39; unfold wrap64 at h_; omega
                                      have hdj0_ : (ji35.toNat = ji32.toNat) = False := eq_false (by omega)
                                      have hdj1_ : (ji32.toNat = ji35.toNat) = False := eq_false (by omega)
                                      have hdj2_ : (ji35.toNat * 3 = ji32.toNat * 3) = False := eq_false (by omega)
                                      have hdj3_ : (ji32.toNat * 3 = ji35.toNat * 3) = False := eq_false (by omega)
                                      obtain ⟨_, _, _, _, hfrx_⟩ := Kd.R_elem HO_8.out z49 ((ji32) : Int) (of_eq_true p39) (by have h_ := of_eq_true q39; omega)
                                      have hfx_0 : World.frozen? _ ⟨go38, ((ji32) : Int).toNat * 3, none⟩ = false := hfrx_ 0
                                      have hfx_1 : World.frozen? _ ⟨go38, ((ji32) : Int).toNat * 3 + 1, none⟩ = false := hfrx_ 1
                                      have hfx_2 : World.frozen? _ ⟨go38, ((ji32) : Int).toNat * 3 + 2, none⟩ = false := hfrx_ 2
                                      refine start_ (n := 18) (S := fun w' => w'.cell? ⟨go38, ((ji32) : Int).toNat * 3, none⟩ = some (.string ((rd_T49 x8_1 (ji32)).f0)) ∧ w'.cell? ⟨go38, ((ji32) : Int).toNat * 3 + 1, none⟩ = some (.bool ((rd_T49 x8_1 (ji32)).f1)) ∧ w'.cell? ⟨go38, ((ji32) : Int).toNat * 3 + 2, none⟩ = some (.string ((rd_T49 x8_1 (ji32)).f2)) ∧ w'.cell? ⟨go38, ((ji35) : Int).toNat * 3, none⟩ = some (.string ((rd_T49 x8_1 (ji35)).f0)) ∧ w'.cell? ⟨go38, ((ji35) : Int).toNat * 3 + 1, none⟩ = some (.bool ((rd_T49 x8_1 (ji35)).f1)) ∧ w'.cell? ⟨go38, ((ji35) : Int).toNat * 3 + 2, none⟩ = some (.string ((rd_T49 x8_1 (ji35)).f2))) (ds := [15, 17]) #[false, false, false, false, false, false, false, false, false, false, false, false, false, false, false, false, false, false] (by kernel_rfl) rfl rfl ⟨hx462_0, hx462_1, hx462_2, hx463_0, hx463_1, hx463_2⟩ (fun hHeld => ?_); refine with_tabW ravelinlaw12_BatchShapes.tab16 ravelinlaw12_BatchShapes.bits16 (fun HT_ HW_ => ?_)
                                      generalize wc.drew = w46 at HO_8 HB GG38 HQ47 HQ48 hf38_0 hf38_1 hf38_2 hfx_0 hfx_1 hfx_2 hf39_0 hf39_1 hf39_2 hx38_0 hx38_1 hx38_2 hx39_0 hx39_1 hx39_2 hx462_0 hx462_1 hx462_2 hx463_0 hx463_1 hx463_2 hHeld ⊢
                                      refine pure_ (i := 0) (N := some 76) (v := ?_) (a' := ?_) #[true, false, false, false, false, false, false, false, false, false, false, false, false, false, false, false, false, false] rfl rfl (any_of HT_.out (by kernel_rfl)) (fun _ _ _ h => h) (Or.inl ⟨by rfl, ?_⟩) ?_ ?_
                                      rotate_left
                                      · intro w'
                                        go_simp
                                        with_reducible rfl
                                      rotate_left
                                      · simp only [Act.put, List.setIfInBounds_toArray, List.set_cons_zero, List.set_cons_succ, i64_w, i32_w]
                                        rfl
                                      refine pure_ (i := 1) (N := some 77) (v := ?_) (a' := ?_) #[true, true, false, false, false, false, false, false, false, false, false, false, false, false, false, false, false, false] rfl rfl (any_of HT_.out (by kernel_rfl)) (fun _ _ _ h => h) (Or.inl ⟨by rfl, ?_⟩) ?_ ?_
                                      rotate_left
                                      · intro w'
                                        go_simp
                                        with_reducible rfl
                                      rotate_left
                                      · simp only [Act.put, List.setIfInBounds_toArray, List.set_cons_zero, List.set_cons_succ, i64_w, i32_w]
                                        rfl
                                      refine pure_ (i := 2) (N := some 78) (v := ?_) (a' := ?_) #[true, true, true, false, false, false, false, false, false, false, false, false, false, false, false, false, false, false] rfl rfl (any_of HT_.out (by kernel_rfl)) (fun _ _ _ h => h) (Or.inl ⟨by rfl, ?_⟩) ?_ ?_
                                      rotate_left
                                      · intro w'
                                        go_simp
                                        with_reducible rfl
                                      rotate_left
                                      · simp only [Act.put, List.setIfInBounds_toArray, List.set_cons_zero, List.set_cons_succ, i64_w, i32_w]
                                        rfl
                                      refine pure_ (i := 3) (N := some 79) (v := ?_) (a' := ?_) #[true, true, true, true, false, false, false, false, false, false, false, false, false, false, false, false, false, false] rfl rfl (any_of HT_.out (by kernel_rfl)) (fun _ _ _ h => h) (Or.inl ⟨by rfl, ?_⟩) ?_ ?_
                                      rotate_left
                                      · intro w'
                                        go_simp
                                        with_reducible rfl
                                      rotate_left
                                      · simp only [Act.put, List.setIfInBounds_toArray, List.set_cons_zero, List.set_cons_succ, i64_w, i32_w]
                                        rfl
                                      refine pure_ (i := 4) (N := some 80) (v := ?_) (a' := ?_) #[true, true, true, true, true, false, false, false, false, false, false, false, false, false, false, false, false, false] rfl rfl (any_of HT_.out (by kernel_rfl)) (fun _ _ _ h => h) (Or.inl ⟨by rfl, ?_⟩) ?_ ?_
                                      rotate_left
                                      · intro w'
                                        go_simp
                                        with_reducible rfl
                                      rotate_left
                                      · simp only [Act.put, List.setIfInBounds_toArray, List.set_cons_zero, List.set_cons_succ, i64_w, i32_w]
                                        rfl
                                      refine pure_ (i := 5) (N := some 81) (v := ?_) (a' := ?_) #[true, true, true, true, true, true, false, false, false, false, false, false, false, false, false, false, false, false] rfl rfl (any_of HT_.out (by kernel_rfl)) (fun _ _ _ h => h) (Or.inl ⟨by rfl, ?_⟩) ?_ ?_
                                      rotate_left
                                      · intro w'
                                        go_simp
                                        with_reducible rfl
                                      rotate_left
                                      · simp only [Act.put, List.setIfInBounds_toArray, List.set_cons_zero, List.set_cons_succ, i64_w, i32_w]
                                        rfl
                                      refine pure_ (i := 6) (N := some 82) (v := ?_) (a' := ?_) #[true, true, true, true, true, true, true, false, false, false, false, false, false, false, false, false, false, false] rfl rfl (any_of HT_.out (by kernel_rfl)) (fun _ _ _ h => h) (Or.inl ⟨by rfl, ?_⟩) ?_ ?_
                                      rotate_left
                                      · intro w'
                                        go_simp
                                        with_reducible rfl
                                      rotate_left
                                      · simp only [Act.put, List.setIfInBounds_toArray, List.set_cons_zero, List.set_cons_succ, i64_w, i32_w]
                                        rfl
                                      refine pure_ (i := 7) (N := some 83) (v := ?_) (a' := ?_) #[true, true, true, true, true, true, true, true, false, false, false, false, false, false, false, false, false, false] rfl rfl (any_of HT_.out (by kernel_rfl)) (fun _ _ _ h => h) (Or.inl ⟨by rfl, ?_⟩) ?_ ?_
                                      rotate_left
                                      · intro w'
                                        go_simp
                                        with_reducible rfl
                                      rotate_left
                                      · simp only [Act.put, List.setIfInBounds_toArray, List.set_cons_zero, List.set_cons_succ, i64_w, i32_w]
                                        rfl
                                      refine pure_ (i := 8) (N := some 84) (v := ?_) (a' := ?_) #[true, true, true, true, true, true, true, true, true, false, false, false, false, false, false, false, false, false] rfl rfl (any_of HT_.out (by kernel_rfl)) (fun _ _ _ h => h) (Or.inl ⟨by rfl, ?_⟩) ?_ ?_
                                      rotate_left
                                      · intro w'
                                        go_simp
                                        with_reducible rfl
                                      rotate_left
                                      · simp only [Act.put, List.setIfInBounds_toArray, List.set_cons_zero, List.set_cons_succ, i64_w, i32_w]
                                        rfl
                                      refine pure_ (i := 10) (N := some 86) (v := ?_) (a' := ?_) #[true, true, true, true, true, true, true, true, true, false, true, false, false, false, false, false, false, false] rfl rfl (any_of HT_.out (by kernel_rfl)) (fun _ _ _ h => h) (Or.inl ⟨by rfl, ?_⟩) ?_ ?_
                                      rotate_left
                                      · intro w'
                                        go_simp
                                        with_reducible rfl
                                      rotate_left
                                      · simp only [Act.put, List.setIfInBounds_toArray, List.set_cons_zero, List.set_cons_succ, i64_w, i32_w]
                                        rfl
                                      refine pure_ (i := 11) (N := some 87) (v := ?_) (a' := ?_) #[true, true, true, true, true, true, true, true, true, false, true, true, false, false, false, false, false, false] rfl rfl (any_of HT_.out (by kernel_rfl)) (fun _ _ _ h => h) (Or.inl ⟨by rfl, ?_⟩) ?_ ?_
                                      rotate_left
                                      · intro w'
                                        go_simp
                                        with_reducible rfl
                                      rotate_left
                                      · simp only [Act.put, List.setIfInBounds_toArray, List.set_cons_zero, List.set_cons_succ, i64_w, i32_w]
                                        rfl
                                      refine pure_ (i := 12) (N := some 88) (v := ?_) (a' := ?_) #[true, true, true, true, true, true, true, true, true, false, true, true, true, false, false, false, false, false] rfl rfl (any_of HT_.out (by kernel_rfl)) (fun _ _ _ h => h) (Or.inl ⟨by rfl, ?_⟩) ?_ ?_
                                      rotate_left
                                      · intro w'
                                        go_simp
                                        with_reducible rfl
                                      rotate_left
                                      · simp only [Act.put, List.setIfInBounds_toArray, List.set_cons_zero, List.set_cons_succ, i64_w, i32_w]
                                        rfl
                                      refine take_ (i := 9) (N := some 85) (v := ?_) (a' := ?_) #[true, true, true, true, true, true, true, true, true, true, true, true, true, false, false, false, false, false] rfl rfl (take_ofW HT_.out HW_.out (by kernel_rfl)) (fun _ _ _ h => h) (Or.inl ⟨by rfl, ?_⟩) hHeld ?_ ?_
                                      rotate_left
                                      · rintro w' ⟨s0, s1, s2, s3, s4, s5⟩
                                        go_simp
                                        with_reducible rfl
                                      rotate_left
                                      · simp only [Act.put, List.setIfInBounds_toArray, List.set_cons_zero, List.set_cons_succ, i64_w, i32_w]
                                        rfl
                                      refine take_ (i := 13) (N := some 89) (v := ?_) (a' := ?_) #[true, true, true, true, true, true, true, true, true, true, true, true, true, true, false, false, false, false] rfl rfl (take_ofW HT_.out HW_.out (by kernel_rfl)) (fun _ _ _ h => h) (Or.inl ⟨by rfl, ?_⟩) hHeld ?_ ?_
                                      rotate_left
                                      · rintro w' ⟨s0, s1, s2, s3, s4, s5⟩
                                        go_simp
                                        with_reducible rfl
                                      rotate_left
                                      · simp only [Act.put, List.setIfInBounds_toArray, List.set_cons_zero, List.set_cons_succ, i64_w, i32_w]
                                        rfl
                                      refine pure_ (i := 14) (N := some 90) (v := ?_) (a' := ?_) #[true, true, true, true, true, true, true, true, true, true, true, true, true, true, true, false, false, false] rfl rfl (any_of HT_.out (by kernel_rfl)) (fun _ _ _ h => h) (Or.inl ⟨by rfl, ?_⟩) ?_ ?_
                                      rotate_left
                                      · intro w'
                                        go_simp
                                        with_reducible rfl
                                      rotate_left
                                      · simp only [Act.put, List.setIfInBounds_toArray, List.set_cons_zero, List.set_cons_succ, i64_w, i32_w]
                                        rfl
                                      refine last_ (i := 15) (N := none) #[true, true, true, true, true, true, true, true, true, true, true, true, true, true, true, true, false, false] rfl rfl (one_of HT_.out (by kernel_rfl)) (by decide) (fun K hK => ?_)
                                      refine skip_ (w1 := ?_) (by rfl) rfl ?_ ?_
                                      rotate_left
                                      · go_simp
                                        rfl
                                      refine hK.out _ _ ?_
                                      clear hK K
                                      refine pure_ (i := 16) (N := some 91) (v := ?_) (a' := ?_) #[true, true, true, true, true, true, true, true, true, true, true, true, true, true, true, true, true, false] rfl rfl (any_of HT_.out (by kernel_rfl)) (fun _ _ _ h => h) (Or.inl ⟨by rfl, ?_⟩) ?_ ?_
                                      rotate_left
                                      · intro w'
                                        go_simp
                                        with_reducible rfl
                                      rotate_left
                                      · simp only [Act.put, List.setIfInBounds_toArray, List.set_cons_zero, List.set_cons_succ, i64_w, i32_w]
                                        rfl
                                      refine last_ (i := 17) (N := none) #[true, true, true, true, true, true, true, true, true, true, true, true, true, true, true, true, true, true] rfl rfl (one_of HT_.out (by kernel_rfl)) (by decide) (fun K hK => ?_)
                                      refine skip_ (w1 := ?_) (by rfl) rfl ?_ ?_
                                      rotate_left
                                      · go_simp
                                        rfl
                                      refine hK.out _ _ ?_
                                      clear hK K
                                      refine done_ (done_of HT_.out (by kernel_rfl)) ?_
                                      try go_wp2_with (first | ((with_reducible refine gate_callee (f := 15) rfl ?_); refine goesL_ (some 93) rfl rfl Try.func15 (by kernel_rfl) rfl #[.slice (some ⟨go38, 0, none⟩) y465.length co15] rfl (by (try simp only [List.map_toArray, List.map_cons, List.map_nil]); first | done | (rw [show y465.length = x8_1.length from (Kd.R_reads' HQ48.out).1.symm] <;> rfl) | rfl | (simp only [List.length_drop, List.length_take]; rfl)) ?_; (with_reducible refine (batch_Is.calls kj17 _ _ y465 false _ ?side1 ?side2 A40.out).mono ?_); (case side1 => refine (Kd.R_reads' (e := 49) (base := w.heap.size) (ok := fun k_ => True) (n := x8_1.length) (c := co15) ?_).2.2; exact (by (with_reducible repeat (first | apply Kd.R_alloc | apply Kd.R_drewN | apply Kd.R_drew)); exact HQ48.out)); (case side2 => rw [show y465.length = x8_1.length from (Kd.R_reads' HQ48.out).1.symm]; exact (Kd.R_reads' HO_8.out).2.1); rintro e w49 ⟨rfl, hb⟩; refine ⟨_, rfl, ?_⟩; have n0_ := Aside0.mk (Kd.R_below (by (with_reducible repeat (first | apply Kd.R_alloc | apply Kd.R_drewN | apply Kd.R_drew)); exact HQ48.out) hb); have n1_ := Aside0.mk (below_step (by repeat (first | (with_reducible first | exact HB.out | apply below_alloc | apply pw_below_drewN | apply below_drew1 | refine below_set ?_ GB38.out | refine below_set ?_ GB38.out | refine below_set ?_ GB38.out | refine below_set ?_ GB38.out | refine below_set ?_ GB38.out | refine below_set ?_ GB38.out) | exact HB.out)) hb); clear HO_8; clear HB; have HO_8 := n0_; have HB := n1_; clear n0_ n1_; (try clear hb); (try clear hb2); (try clear hk); (try clear hi)) | (go_at_call 21; refine calls_of_args (args' := #[.int .i64 1, .slice (some ⟨go38, 0, none⟩) y465.length co15]) (by first | (rw [show y465.length = x8_1.length from (Kd.R_reads' HO_8.out).1.symm] <;> rfl) | rfl) ?_; (with_reducible refine (batch_Entries.calls kj17 1 _ _ y465 t467 _ ?side1 ?side2 A42.out).mono ?_); (case side1 => repeat (first | exact (Kd.R_reads' HO_8.out).2.2 | (with_reducible refine Kd.C_alloc ?_ _) | (with_reducible refine Kd.C_drewN ?_ _) | (with_reducible refine Kd.C_drew ?_))); (case side2 => rw [show y465.length = x8_1.length from (Kd.R_reads' HO_8.out).1.symm]; exact (Kd.R_reads' HO_8.out).2.1); rintro e w50 ⟨v468, rfl, ho0, hb⟩; have n0_ := Aside0.mk (Kd.R_below (by (with_reducible repeat (first | apply Kd.R_alloc | apply Kd.R_drewN | apply Kd.R_drew)); exact HO_8.out) hb); have n1_ := Aside0.mk (Kd.R_lower ho0 (below_size (by repeat (first | (with_reducible first | exact HB.out | apply below_alloc | apply pw_below_drewN | apply below_drew1) | exact HB.out)))); have n2_ := Aside0.mk (below_step (by repeat (first | (with_reducible first | exact HB.out | apply below_alloc | apply pw_below_drewN | apply below_drew1) | exact HB.out)) hb); clear HO_8; clear HB; have HO_8 := n0_; have HO469 := n1_; have HB := n2_; clear n0_ n1_ n2_; (try clear hb); (try clear hb2); (try clear hk); (try clear hi); (try clear ho0); obtain ⟨Ao51, co51, eo51⟩ := Kd.R_slice HO469.out; subst eo51) | (go_at_call 18; refine calls_of_args (args' := #[.slice (some ⟨go38, 0, none⟩) y465.length co15]) (by first | (rw [show y465.length = x8_1.length from (Kd.R_reads' HO_8.out).1.symm] <;> rfl) | rfl) ?_; (with_reducible refine (batch_Neat.calls kj17 _ _ y465 t470 _ ?side1 ?side2 A44.out).mono ?_); (case side1 => repeat (first | exact (Kd.R_reads' HO_8.out).2.2 | (with_reducible refine Kd.C_alloc ?_ _) | (with_reducible refine Kd.C_drewN ?_ _) | (with_reducible refine Kd.C_drew ?_))); (case side2 => rw [show y465.length = x8_1.length from (Kd.R_reads' HO_8.out).1.symm]; exact (Kd.R_reads' HO_8.out).2.1); rintro e w52 ⟨v471, rfl, ho0, hb⟩; have n0_ := Aside0.mk (Kd.R_elder' (by (with_reducible repeat (first | apply Kd.R_alloc | apply Kd.R_drewN | apply Kd.R_drew)); exact HO_8.out) (Kd.R_base ho0) hb); have n1_ := Aside0.mk (Kd.R_below (by (with_reducible repeat (first | apply Kd.R_alloc | apply Kd.R_drewN | apply Kd.R_drew)); exact HO469.out) hb); have n2_ := Aside0.mk (Kd.R_lower (Kd.R_new' ho0 (Kd.R_lt (by (with_reducible repeat (first | apply Kd.R_alloc | apply Kd.R_drewN | apply Kd.R_drew)); exact HO_8.out))) (below_size (by repeat (first | (with_reducible first | exact HB.out | apply below_alloc | apply pw_below_drewN | apply below_drew1) | exact HB.out)))); have n3_ := Aside0.mk (below_step (by repeat (first | (with_reducible first | exact HB.out | apply below_alloc | apply pw_below_drewN | apply below_drew1) | exact HB.out)) hb); clear HO_8; clear HO469; clear HB; have HO_8 := n0_; have HO469 := n1_; have HO472 := n2_; have HB := n3_; clear n0_ n1_ n2_ n3_; (try clear hb); (try clear hb2); (try clear hk); (try clear hi); (try clear ho0); obtain ⟨Ao53, co53, eo53⟩ := Kd.R_slice HO472.out; subst eo53))
                                      go_ret
                                      exact ⟨by first | rfl | (simp [errW_none, errW_some] <;> rfl) | (simp only [← hji32, ← hji35]; first | rfl | (simp [errW_none, errW_some] <;> rfl)) | (simp [*, errW_none, errW_some] <;> rfl), by repeat (first | (with_reducible first | exact HB.out | apply below_alloc | apply pw_below_drewN | apply below_drew1) | exact HB.out)⟩
                                    · rw [if_neg c45] at H
                                      have c45b0 : ((t470.length : Int) == (wrap64 ((wrap64 (Int.tmod a0 11)) + 1))) = false := beq_eq_false_iff_ne.mpr c45
                                      have c45b1 : ((t470.length : Int) != (wrap64 ((wrap64 (Int.tmod a0 11)) + 1))) = true := bne_iff_ne.mpr c45
                                      exact absurd ((Option.some.inj H).trans HR_.out) (by decide)
                                  · rw [if_neg c43] at H
                                    have c43b0 : ((t467.length : Int) == 0) = false := beq_eq_false_iff_ne.mpr c43
                                    have c43b1 : ((t467.length : Int) != 0) = true := bne_iff_ne.mpr c43
                                    have c43b2 : ¬ (t467 = []) := fun h_ => c43 (by rw [h_]; rfl)
                                    exact absurd ((Option.some.inj H).trans HR_.out) (by decide)
                              · rw [if_neg c37] at H
                                exact absurd H (by simp)
                            · rw [if_neg c36] at H
                              exact absurd H (by simp)
                          · rw [if_neg c34] at H
                            exact absurd H (by simp)
                        · rw [if_neg c33] at H
                          exact absurd H (by simp)
                    · rw [if_neg c30] at H
                      have c30b0 : decide (1 < (wrap64 ((wrap64 (Int.tmod a0 11)) + 1))) = false := decide_eq_false c30
                      clear c30
                      obtain rfl := Option.some.inj H
                      go_wp2
                      go_ret
                      exact ⟨by first | rfl | (simp [errW_none, errW_some] <;> rfl) | (simp [*, errW_none, errW_some] <;> rfl), by repeat (first | (with_reducible first | exact HB.out | apply below_alloc | apply pw_below_drewN | apply below_drew1) | exact HB.out)⟩
  · replace c5 := Bool.eq_false_iff.mpr c5
    subst c5
    have H1 : (some false) = some r := by rw [if_neg (show ¬ (false = true) by decide)] at H; exact H
    clear H
    have H := H1
    clear H1
    exact absurd ((Option.some.inj H).trans HR_.out) (by decide)

/-- THE ONE PURE STATEMENT of ravelinlaw12_BatchShapes: yours. -/
def ravelinlaw12_BatchShapes.Pure : Prop := ∀ (a0 : Int) (a1 : Int) (a2 : Int), (Lit.int .u8 a0).wf = true → (Lit.int .i64 a1).wf = true → (Lit.int .u8 a2).wf = true → ∃ k, ravelinlaw12_BatchShapes.f k a0 a1 a2 = some true
theorem ravelinlaw12_BatchShapes.walk (P : ravelinlaw12_BatchShapes.Pure) (a0 : Int) (a1 : Int) (a2 : Int) (w : World) (w0 : (Lit.int .u8 a0).wf = true) (w1 : (Lit.int .i64 a1).wf = true) (w2 : (Lit.int .u8 a2).wf = true) :
    Calls Try.prog 6 #[.int .u8 a0, .int .i64 a1, .int .u8 a2] w fun e w' => e = .returned (.bool true) ∧ Below w.heap.size w w' := by
  obtain ⟨k, h⟩ := P a0 a1 a2 w0 w1 w2
  refine (ravelinlaw12_BatchShapes.calls k a0 a1 a2 true w h rfl).mono ?_
  rintro e w' ⟨rfl, hd⟩
  exact ⟨rfl, hd⟩

end Go.Proofs.Ytnjbmcjhhadojaa.P
-- FIXED12b
