-- Printed by a changed copy of the kit's printer (wip/tools/ext.py); labels and more
import Derived.Test.YthohfmfgijckhaaM0
import Derived.Test.YthohfmfgijckhaaM3
import Derived.Test.YthohfmfgijckhaaM5
import Derived.Test.YthohfmfgijckhaaM6
namespace Go.Proofs.Ythohfmfgijckhaa.P
open Go.RowKit Go.Proofs.YthohfmfgijckhaaW.PrintWords Go.Proofs.YthohfmfgijckhaaW.PrintLast Go.Proofs.YthohfmfgijckhaaW.PrintMore
attribute [local go_sem] max2_int min2_int max_two min_two max_three min_three max_four min_four   -- for this text's walks alone
set_option linter.unusedVariables false
set_option linter.unusedSimpArgs false

/-! ### ravelinlaw8_BlockSmall: function 6 -/
mutual
def ravelinlaw8_BlockSmall.l0 : Nat → Int → Int → List (S45) → List (S45) → Int → Option (Bool)
  | 0, _, _, _, _, _ => none
  | k + 1, x5, x6, x7, x8, x9 => if x9 < x5 then ((some (([(wrap64 (97 + x9)) % 256] : List Int) : List Int)).bind fun y364 => (ravelinlaw8_BlockSmall.l1 k x5 x6 x7 x8 x9 (strOfNums y364) (⟨#[]⟩ : ByteArray) (strOfNums y364) 0)) else ((block_Make.f k x7).bind fun bt373 => ((block_Make.f k x8).bind fun bt375 => ((block_Read.f k bt373.1).bind fun bt377 => (if bt373.2 = 0 then (if bt375.2 = 0 then (if bt377.2 = 0 then ((ravelinref6_Same.f k bt377.1 x7).bind fun t381 => (if t381 = true then (some (decide ((wrap64 ((bt375.1.size : Int) - (bt373.1.size : Int))) ≥ (wrap64 ((wrap64 (x5 - 1)) * (wrap64 (x6 - 1))))))) else (some false))) else (some false)) else (some false)) else (some false)))))
def ravelinlaw8_BlockSmall.l1 : Nat → Int → Int → List (S45) → List (S45) → Int → ByteArray → ByteArray → ByteArray → Int → Option (Bool)
  | 0, _, _, _, _, _, _, _, _, _ => none
  | k + 1, x5, x6, x7, x8, x9, x10, x11, x12, x13 => if x13 < x6 then (if x11.size + 1 ≤ 9223372036854775807 then (if x12.size + 1 ≤ 9223372036854775807 then (ravelinlaw8_BlockSmall.l1 k x5 x6 x7 x8 x9 x10 (x11 ++ (⟨#[104]⟩ : ByteArray)) (x12 ++ (⟨#[104]⟩ : ByteArray)) (wrap64 (x13 + 1))) else (none)) else (none)) else (if x11.size + x10.size ≤ 9223372036854775807 then (if x7.length < 2932031007402 then (if x8.length < 2932031007402 then (ravelinlaw8_BlockSmall.l0 k x5 x6 (x7 ++ [(⟨x11 ++ x10, 1, false, (⟨#[118]⟩ : ByteArray)⟩ : S45)]) (x8 ++ [(⟨x12, 1, false, (⟨#[118]⟩ : ByteArray)⟩ : S45)]) (wrap64 (x9 + 1))) else (none)) else (none)) else (none))
end
def ravelinlaw8_BlockSmall.f (k : Nat) (a0 : Int) (a1 : Int) : Option (Bool) := (ravelinlaw8_known.f k).bind fun t363 => (if t363 = true then (ravelinlaw8_BlockSmall.l0 k (wrap64 ((wrap64 (Int.tmod a0 20)) + 2)) (wrap64 ((wrap64 (Int.tmod a1 9)) + 1)) ([] : List (S45)) ([] : List (S45)) 0) else (some false))
theorem ravelinlaw8_BlockSmall.mono_l : ∀ k, (∀ y0 y1 y2 y3 y4, LeO (ravelinlaw8_BlockSmall.l0 k y0 y1 y2 y3 y4) (ravelinlaw8_BlockSmall.l0 (k + 1) y0 y1 y2 y3 y4)) ∧ (∀ y0 y1 y2 y3 y4 y5 y6 y7 y8, LeO (ravelinlaw8_BlockSmall.l1 k y0 y1 y2 y3 y4 y5 y6 y7 y8) (ravelinlaw8_BlockSmall.l1 (k + 1) y0 y1 y2 y3 y4 y5 y6 y7 y8))
  | 0 => ⟨fun _ _ _ _ _ r h => by simp [ravelinlaw8_BlockSmall.l0] at h, fun _ _ _ _ _ _ _ _ _ r h => by simp [ravelinlaw8_BlockSmall.l1] at h⟩
  | k + 1 => by
    obtain ⟨ih0, ih1⟩ := ravelinlaw8_BlockSmall.mono_l k
    refine ⟨?_, ?_⟩
    · intro y0 y1 y2 y3 y4
      unfold ravelinlaw8_BlockSmall.l0
      repeat' first
      | (with_reducible exact ih0 _ _ _ _ _)
      | (with_reducible exact ih1 _ _ _ _ _ _ _ _ _)
      | (with_reducible exact block_Make.mono _ _)
      | (with_reducible exact block_Read.mono _ _)
      | (with_reducible exact ravelinlaw8_known.mono _)
      | (with_reducible exact ravelinref6_Same.mono _ _ _)
      | (with_reducible exact LeO.refl _)
      | (with_reducible exact LeO.none _)
      | (with_reducible refine LeO.ite ?_ ?_)
      | (with_reducible refine LeO.bind ?_ (fun _ => ?_))
      | exact ih0 _ _ _ _ _
      | exact ih1 _ _ _ _ _ _ _ _ _
      | exact block_Make.mono _ _
      | exact block_Read.mono _ _
      | exact ravelinlaw8_known.mono _
      | exact ravelinref6_Same.mono _ _ _
      | exact LeO.none _
      | refine LeO.ite ?_ ?_
      | refine LeO.bind ?_ (fun _ => ?_)
    · intro y0 y1 y2 y3 y4 y5 y6 y7 y8
      unfold ravelinlaw8_BlockSmall.l1
      repeat' first
      | (with_reducible exact ih0 _ _ _ _ _)
      | (with_reducible exact ih1 _ _ _ _ _ _ _ _ _)
      | (with_reducible exact block_Make.mono _ _)
      | (with_reducible exact block_Read.mono _ _)
      | (with_reducible exact ravelinlaw8_known.mono _)
      | (with_reducible exact ravelinref6_Same.mono _ _ _)
      | (with_reducible exact LeO.refl _)
      | (with_reducible exact LeO.none _)
      | (with_reducible refine LeO.ite ?_ ?_)
      | (with_reducible refine LeO.bind ?_ (fun _ => ?_))
      | exact ih0 _ _ _ _ _
      | exact ih1 _ _ _ _ _ _ _ _ _
      | exact block_Make.mono _ _
      | exact block_Read.mono _ _
      | exact ravelinlaw8_known.mono _
      | exact ravelinref6_Same.mono _ _ _
      | exact LeO.none _
      | refine LeO.ite ?_ ?_
      | refine LeO.bind ?_ (fun _ => ?_)
theorem ravelinlaw8_BlockSmall.mono : ∀ a0 a1 k, LeO (ravelinlaw8_BlockSmall.f k a0 a1) (ravelinlaw8_BlockSmall.f (k + 1) a0 a1) := by
  intro a0 a1 k
  obtain ⟨ih0, ih1⟩ := ravelinlaw8_BlockSmall.mono_l k
  unfold ravelinlaw8_BlockSmall.f
  repeat' first
      | (with_reducible exact ih0 _ _ _ _ _)
      | (with_reducible exact ih1 _ _ _ _ _ _ _ _ _)
      | (with_reducible exact block_Make.mono _ _)
      | (with_reducible exact block_Read.mono _ _)
      | (with_reducible exact ravelinlaw8_known.mono _)
      | (with_reducible exact ravelinref6_Same.mono _ _ _)
      | (with_reducible exact LeO.refl _)
      | (with_reducible exact LeO.none _)
      | (with_reducible refine LeO.ite ?_ ?_)
      | (with_reducible refine LeO.bind ?_ (fun _ => ?_))
      | exact ih0 _ _ _ _ _
      | exact ih1 _ _ _ _ _ _ _ _ _
      | exact block_Make.mono _ _
      | exact block_Read.mono _ _
      | exact ravelinlaw8_known.mono _
      | exact ravelinref6_Same.mono _ _ _
      | exact LeO.none _
      | refine LeO.ite ?_ ?_
      | refine LeO.bind ?_ (fun _ => ?_)
set_option maxHeartbeats 8000000 in
set_option maxRecDepth 100000 in
theorem ravelinlaw8_BlockSmall.calls (k : Nat) (a0 : Int) (a1 : Int) (r : Bool) (w : World) (h : ravelinlaw8_BlockSmall.f k a0 a1 = some r) (hr_ : r = true) :
    Calls Try.prog 6 #[.int .u8 a0, .int .u8 a1] w fun e w' => e = .returned (.bool r) ∧ Below w.heap.size w w' := by
  have hu45 := Try.underlying45
  have HB := Aside0.mk (Below.refl w.heap.size w)
  have H : ((ravelinlaw8_known.f k).bind fun t363 => (if t363 = true then (ravelinlaw8_BlockSmall.l0 k (wrap64 ((wrap64 (Int.tmod a0 20)) + 2)) (wrap64 ((wrap64 (Int.tmod a1 9)) + 1)) ([] : List (S45)) ([] : List (S45)) 0) else (some false))) = some r := h
  clear h
  have HR_ := Aside0.mk hr_
  clear hr_
  replace H := Option.bind_eq_some_iff.mp H
  obtain ⟨t363, A30, H⟩ := H
  replace H : (if t363 = true then (ravelinlaw8_BlockSmall.l0 k (wrap64 ((wrap64 (Int.tmod a0 20)) + 2)) (wrap64 ((wrap64 (Int.tmod a1 9)) + 1)) ([] : List (S45)) ([] : List (S45)) 0) else (some false)) = some r := H
  have A3 := Aside0.mk A30
  clear A30
  by_cases c4 : t363 = true
  · subst c4
    have H1 : (ravelinlaw8_BlockSmall.l0 k (wrap64 ((wrap64 (Int.tmod a0 20)) + 2)) (wrap64 ((wrap64 (Int.tmod a1 9)) + 1)) ([] : List (S45)) ([] : List (S45)) 0) = some r := by rw [if_pos rfl] at H; exact H
    clear H
    have H := H1
    clear H1
    have H' := Aside0.mk H
    clear H
    go_enter Try.func6, Try.ntmps6
    go_wp2_with (first | ((with_reducible refine gate_callee (f := 7) rfl ?_); refine goesL_ (some 20) rfl rfl Try.func7 (by kernel_rfl) rfl #[] rfl (by (try simp only [List.map_toArray, List.map_cons, List.map_nil]); first | done | rfl | (simp only [List.length_drop, List.length_take]; rfl)) ?_; (with_reducible refine (ravelinlaw8_known.calls k  true _ A3.out (by first | rfl | assumption | exact of_decide_eq_true (by assumption))).mono ?_); rintro e w5 ⟨rfl, hb⟩; refine ⟨_, rfl, ?_⟩; have n0_ := Aside0.mk (below_step (by repeat (first | (with_reducible first | exact HB.out | apply below_alloc | apply pw_below_drewN | apply below_drew1) | exact HB.out)) hb); clear HB; have HB := n0_; clear n0_; (try clear hb); (try clear hb2); (try clear hk); (try clear hi)))
    go_loopg [7, 8, 9] k (fun kq v7 v8 v9 w' => ∃ (x7_1 : List (S45)) (x8_1 : List (S45)) (x9_1 : Int), v9 = .int .i64 x9_1 ∧ Aside0 (ravelinlaw8_BlockSmall.l0 kq (wrap64 ((wrap64 (Int.tmod a0 20)) + 2)) (wrap64 ((wrap64 (Int.tmod a1 9)) + 1)) x7_1 x8_1 x9_1 = some r) ∧ Aside0 (kq ≤ k) ∧ Aside0 (Kd.R k45 45 w' w.heap.size (fun k_ => some k_ ≠ (v8 : Value).ownBlock) v7 x7_1) ∧ Aside0 (Kd.R k45 45 w' w.heap.size (fun k_ => some k_ ≠ (v7 : Value).ownBlock) v8 x8_1) ∧ Aside0 (Below w.heap.size w w'))
    case atStart => exact ⟨(([] : List (S45))), (([] : List (S45))), (0), (by first | rfl | (simp; done) | (simp [*]; done)), H', ⟨Nat.le_refl _⟩, ⟨by first | exact Kd.R_nil _ _ _ _ _ | exact Kd.N_nil _ _ _ _ _ | exact Kd.V_nil _ _ _ _ _ | exact Kd.Q_nil _ _ _ _ _ | exact Kd.S_nil _ _ _ _ _⟩, ⟨by first | exact Kd.R_nil _ _ _ _ _ | exact Kd.N_nil _ _ _ _ _ | exact Kd.V_nil _ _ _ _ _ | exact Kd.Q_nil _ _ _ _ _ | exact Kd.S_nil _ _ _ _ _⟩, ⟨by repeat (first | (with_reducible first | exact HB.out | apply below_alloc | apply pw_below_drewN | apply below_drew1) | exact HB.out)⟩⟩
    case round =>
      clear H'
      try clear p2
      try clear c4
      obtain ⟨x7_1, x8_1, x9_1, rfl, HA, HK1, HO_7, HO_8, HB⟩ := hrel
      cases gk with
      | zero => exact absurd HA.out (by simp [ravelinlaw8_BlockSmall.l0])
      | succ k1 =>
        have H := HA.out
        clear HA
        simp only [ravelinlaw8_BlockSmall.l0] at H
        by_cases c6 : x9_1 < (wrap64 ((wrap64 (Int.tmod a0 20)) + 2))
        · rw [if_pos c6] at H
          have c6b0 : decide (x9_1 < (wrap64 ((wrap64 (Int.tmod a0 20)) + 2))) = true := decide_eq_true c6
          clear c6
          obtain ⟨y364, hy364⟩ : ∃ y_ : List Int, y_ = (([(wrap64 (97 + x9_1)) % 256] : List Int)) := ⟨_, rfl⟩
          replace H : (ravelinlaw8_BlockSmall.l1 k1 (wrap64 ((wrap64 (Int.tmod a0 20)) + 2)) (wrap64 ((wrap64 (Int.tmod a1 9)) + 1)) x7_1 x8_1 x9_1 (strOfNums y364) (⟨#[]⟩ : ByteArray) (strOfNums y364) 0) = some r := by first | (rw [hy364]; with_reducible exact H) | (have H2_ := (Option.bind_some _ _).symm.trans H; rw [hy364]; with_reducible exact H2_) | (have H2_ := (Option.bind_some _ _).symm.trans H; with_reducible exact H2_) | with_reducible exact H | (rw [hy364]; exact H) | exact H
          have Ny364 := Aside0.mk hy364
          clear hy364
          have H' := Aside0.mk H
          clear H
          go_wp2_with (first | ((with_reducible refine gate_dst (N := 38) rfl ?_); (try (refine gate_guard (by rfl) ?_; dsimp only)); refine Kd.R_lit (Kd.int .u8) _ 5 ?hg (N := 38) ?hd (xs := ([(wrap64 (97 + x9_1)) % 256] : List Int)) (inner := [.int .u8 ((wrap64 (97 + x9_1)) % 256)]) (ok := fun _ => True) (okp := fun _ => True) ?hr ?hp (fun _ hk => hk) trivial (Below.refl _ _) (Nat.le_refl _) (by simp) ?_; (case hd => rfl); (case hg => rfl); (case hr => first | (go_simp; done) | (go_simp; rfl)); (case hp => exact (Reps.one (show Kd.M (Kd.int .u8) _ _ _ ((wrap64 (97 + x9_1)) % 256) [.int .u8 ((wrap64 (97 + x9_1)) % 256)] from rfl) (Reps.none _ _))); intro v365 w7 ho8 hb hg_ hnew_; clear hg_ hnew_; (first | rw [← Ny364.out] at ho8 | (simp only [Int.reduceToNat] at ho8; rw [← Ny364.out] at ho8)); have n0_ := Aside0.mk (Kd.R_below (by (with_reducible repeat (first | apply Kd.R_alloc | apply Kd.R_drewN | apply Kd.R_drew)); exact HO_7.out) hb); have n1_ := Aside0.mk (Kd.R_below (by (with_reducible repeat (first | apply Kd.R_alloc | apply Kd.R_drewN | apply Kd.R_drew)); exact HO_8.out) hb); have n2_ := Aside0.mk (Kd.R_lower ho8 (below_size (by repeat (first | (with_reducible first | exact HB.out | apply below_alloc | apply pw_below_drewN | apply below_drew1) | exact HB.out)))); have n3_ := Aside0.mk (below_step (by repeat (first | (with_reducible first | exact HB.out | apply below_alloc | apply pw_below_drewN | apply below_drew1) | exact HB.out)) hb); clear HO_7; clear HO_8; clear HB; have HO_7 := n0_; have HO_8 := n1_; have HO366 := n2_; have HB := n3_; clear n0_ n1_ n2_ n3_; clear hb ho8; have hcv9 := own_string (P := Try.prog) Try.underlying38 Try.underlying5 Try.underlying9 (Kd.own_of_R HO366.out)))
          go_loopg [11, 12, 13] k1 (fun kq v11 v12 v13 w' => ∃ (x11_2 : ByteArray) (x12_2 : ByteArray) (x13_2 : Int), v11 = .string x11_2 ∧ v12 = .string x12_2 ∧ v13 = .int .i64 x13_2 ∧ Aside0 (ravelinlaw8_BlockSmall.l1 kq (wrap64 ((wrap64 (Int.tmod a0 20)) + 2)) (wrap64 ((wrap64 (Int.tmod a1 9)) + 1)) x7_1 x8_1 x9_1 (strOfNums y364) x11_2 x12_2 x13_2 = some r) ∧ Aside0 (kq ≤ k1) ∧ Aside0 (Kd.R k45 45 w' w.heap.size (fun k_ => some k_ ≠ (u8 : Value).ownBlock) u7 x7_1) ∧ Aside0 (Kd.R k45 45 w' w.heap.size (fun k_ => some k_ ≠ (u7 : Value).ownBlock) u8 x8_1) ∧ Aside0 (Below w.heap.size w w'))
          case atStart => exact ⟨((⟨#[]⟩ : ByteArray)), (strOfNums y364), (0), (by first | rfl | (simp; done) | (simp [*]; done)), (by first | rfl | (simp; done) | (simp [*]; done)), (by first | rfl | (simp; done) | (simp [*]; done)), H', ⟨Nat.le_refl _⟩, ⟨by (with_reducible repeat (first | apply Kd.R_alloc | apply Kd.R_drewN | apply Kd.R_drew)); exact HO_7.out⟩, ⟨by (with_reducible repeat (first | apply Kd.R_alloc | apply Kd.R_drewN | apply Kd.R_drew)); exact HO_8.out⟩, ⟨by repeat (first | (with_reducible first | exact HB.out | apply below_alloc | apply pw_below_drewN | apply below_drew1) | exact HB.out)⟩⟩
          case round =>
            clear H'
            try clear p2
            try clear c4
            try clear c6
            try clear c6b0
            try clear p6
            try clear c7
            try clear hcv9
            try clear p2
            obtain ⟨x11_2, x12_2, x13_2, rfl, rfl, rfl, HA, HK2, HO_7, HO_8, HB⟩ := hrel
            cases gk with
            | zero => exact absurd HA.out (by simp [ravelinlaw8_BlockSmall.l1])
            | succ k2 =>
              have H := HA.out
              clear HA
              simp only [ravelinlaw8_BlockSmall.l1] at H
              by_cases c10 : x13_2 < (wrap64 ((wrap64 (Int.tmod a1 9)) + 1))
              · rw [if_pos c10] at H
                have c10b0 : decide (x13_2 < (wrap64 ((wrap64 (Int.tmod a1 9)) + 1))) = true := decide_eq_true c10
                clear c10
                by_cases c11 : x11_2.size + 1 ≤ 9223372036854775807
                · rw [if_pos c11] at H
                  have c11b0 := eq_true c11
                  have c11b1 : decide (x11_2.size + 1 ≤ 9223372036854775807) = true := decide_eq_true c11
                  try have c11b2 : (9223372036854775807 < x11_2.size + 1) = False := eq_false (Nat.not_lt.2 c11)
                  by_cases c12 : x12_2.size + 1 ≤ 9223372036854775807
                  · rw [if_pos c12] at H
                    have c12b0 := eq_true c12
                    have c12b1 : decide (x12_2.size + 1 ≤ 9223372036854775807) = true := decide_eq_true c12
                    try have c12b2 : (9223372036854775807 < x12_2.size + 1) = False := eq_false (Nat.not_lt.2 c12)
                    have H' := Aside0.mk H
                    clear H
                    go_wp2
                    go_roundg k2
                    case measure => have := HK1.out; have := HK2.out; omega
                    case rel => exact ⟨(x11_2 ++ (⟨#[104]⟩ : ByteArray)), (x12_2 ++ (⟨#[104]⟩ : ByteArray)), (wrap64 (x13_2 + 1)), (by first | rfl | (simp; done) | (simp [*]; done)), (by first | rfl | (simp; done) | (simp [*]; done)), (by first | rfl | (simp; done) | (simp [*]; done)), H', ⟨by have := HK1.out; have := HK2.out; omega⟩, ⟨by (with_reducible repeat (first | apply Kd.R_alloc | apply Kd.R_drewN | apply Kd.R_drew)); exact HO_7.out⟩, ⟨by (with_reducible repeat (first | apply Kd.R_alloc | apply Kd.R_drewN | apply Kd.R_drew)); exact HO_8.out⟩, ⟨by repeat (first | (with_reducible first | exact HB.out | apply below_alloc | apply pw_below_drewN | apply below_drew1) | exact HB.out)⟩⟩
                  · rw [if_neg c12] at H
                    exact absurd H (by simp)
                · rw [if_neg c11] at H
                  exact absurd H (by simp)
              · rw [if_neg c10] at H
                have c10b0 : decide (x13_2 < (wrap64 ((wrap64 (Int.tmod a1 9)) + 1))) = false := decide_eq_false c10
                clear c10
                by_cases c13 : x11_2.size + (strOfNums y364).size ≤ 9223372036854775807
                · rw [if_pos c13] at H
                  have c13b0 := eq_true c13
                  have c13b1 : decide (x11_2.size + (strOfNums y364).size ≤ 9223372036854775807) = true := decide_eq_true c13
                  try have c13b2 : (9223372036854775807 < x11_2.size + (strOfNums y364).size) = False := eq_false (Nat.not_lt.2 c13)
                  by_cases c14 : x7_1.length < 2932031007402
                  · rw [if_pos c14] at H
                    have LMc14 := Aside0.mk c14
                    clear c14
                    obtain ⟨y367, hy367⟩ : ∃ y_ : List (S45), y_ = (x7_1 ++ [(⟨x11_2 ++ (strOfNums y364), 1, false, (⟨#[118]⟩ : ByteArray)⟩ : S45)]) := ⟨_, rfl⟩
                    replace H : (if x8_1.length < 2932031007402 then (ravelinlaw8_BlockSmall.l0 k2 (wrap64 ((wrap64 (Int.tmod a0 20)) + 2)) (wrap64 ((wrap64 (Int.tmod a1 9)) + 1)) y367 (x8_1 ++ [(⟨x12_2, 1, false, (⟨#[118]⟩ : ByteArray)⟩ : S45)]) (wrap64 (x9_1 + 1))) else (none)) = some r := by first | (rw [hy367]; with_reducible exact H) | (have H2_ := (Option.bind_some _ _).symm.trans H; rw [hy367]; with_reducible exact H2_) | (have H2_ := (Option.bind_some _ _).symm.trans H; with_reducible exact H2_) | with_reducible exact H | (rw [hy367]; exact H) | exact H
                    have Ny367 := Aside0.mk hy367
                    clear hy367
                    by_cases c15 : x8_1.length < 2932031007402
                    · rw [if_pos c15] at H
                      have LMc15 := Aside0.mk c15
                      clear c15
                      obtain ⟨y370, hy370⟩ : ∃ y_ : List (S45), y_ = (x8_1 ++ [(⟨x12_2, 1, false, (⟨#[118]⟩ : ByteArray)⟩ : S45)]) := ⟨_, rfl⟩
                      replace H : (ravelinlaw8_BlockSmall.l0 k2 (wrap64 ((wrap64 (Int.tmod a0 20)) + 2)) (wrap64 ((wrap64 (Int.tmod a1 9)) + 1)) y367 y370 (wrap64 (x9_1 + 1))) = some r := by first | (rw [hy370]; with_reducible exact H) | (have H2_ := (Option.bind_some _ _).symm.trans H; rw [hy370]; with_reducible exact H2_) | (have H2_ := (Option.bind_some _ _).symm.trans H; with_reducible exact H2_) | with_reducible exact H | (rw [hy370]; exact H) | exact H
                      have Ny370 := Aside0.mk hy370
                      clear hy370
                      have H' := Aside0.mk H
                      clear H
                      go_wp2_with (first | ((with_reducible refine gate_builtin (b := .append) (xs := #[.tmp 50, .tmp 55]) rfl ?_); (try (refine gate_guard (by rfl) ?_; dsimp only)); at_builtin; refine Kd.R_append k45 (w0 := w) w.heap.size rfl (.tmp 50) (.tmp 55) 22 45 (.agg #[(.string ⟨#[]⟩), (.int .i64 0), (.bool false), (.string ⟨#[]⟩)]) 48 rfl Try.underlying22 info45 rfl (by decide) (by omega) u7 x7_1 (⟨x11_2 ++ (strOfNums y364), 1, false, (⟨#[118]⟩ : ByteArray)⟩ : S45) [.string (x11_2 ++ (strOfNums y364)), .int .i64 1, .bool false, .string (⟨#[118]⟩ : ByteArray)] (fun k_ => some k_ ≠ (u8 : Value).ownBlock) (fun _ => False) rfl rfl ?aP (fun _ hk => hk.elim) ?aF ?aO ?aB ?aS ?aL ?_; (case aP => exact k45_mkM _ _ _ (⟨x11_2 ++ (strOfNums y364), 1, false, (⟨#[118]⟩ : ByteArray)⟩ : S45)); (case aB => exact (by repeat (first | (with_reducible first | exact HB.out | apply below_alloc | apply pw_below_drewN | apply below_drew1) | exact HB.out))); (case aF => exact (fun k_ hk => Kd.fresh' (Kd.R_lt (by (with_reducible repeat (first | apply Kd.R_alloc | apply Kd.R_drewN | apply Kd.R_drew)); exact HO_8.out)) k_ hk)); (case aO => exact (by (with_reducible repeat (first | apply Kd.R_alloc | apply Kd.R_drewN | apply Kd.R_drew)); exact HO_7.out)); (case aS => exact (below_size (by repeat (first | (with_reducible first | exact HB.out | apply below_alloc | apply pw_below_drewN | apply below_drew1) | exact HB.out)))); (case aL => have := LMc14.out; omega); intro v368 w16 ho hb hg hat; rw [← Ny367.out] at ho; have n0_ := Aside0.mk (Kd.R_after (ok := (fun _ => True)) (by (with_reducible repeat (first | apply Kd.R_alloc | apply Kd.R_drewN | apply Kd.R_drew)); exact Kd.R_mono HO_8.out (fun _ hk => ⟨trivial, hk⟩)) hg hat); have n1_ := Aside0.mk (hb); have n2_ := Aside0.mk (ho); clear HO_8; clear HB; clear HO_7; have HO_8 := n0_; have HB := n1_; have HO369 := n2_; clear n0_ n1_ n2_; clear ho hb hg hat) | ((with_reducible refine gate_builtin (b := .append) (xs := #[.tmp 57, .tmp 60]) rfl ?_); (try (refine gate_guard (by rfl) ?_; dsimp only)); at_builtin; refine Kd.R_append k45 (w0 := w) w.heap.size rfl (.tmp 57) (.tmp 60) 22 45 (.agg #[(.string ⟨#[]⟩), (.int .i64 0), (.bool false), (.string ⟨#[]⟩)]) 48 rfl Try.underlying22 info45 rfl (by decide) (by omega) u8 x8_1 (⟨x12_2, 1, false, (⟨#[118]⟩ : ByteArray)⟩ : S45) [.string x12_2, .int .i64 1, .bool false, .string (⟨#[118]⟩ : ByteArray)] (fun k_ => some k_ ≠ (v368 : Value).ownBlock) (fun _ => False) rfl rfl ?aP (fun _ hk => hk.elim) ?aF ?aO ?aB ?aS ?aL ?_; (case aP => exact k45_mkM _ _ _ (⟨x12_2, 1, false, (⟨#[118]⟩ : ByteArray)⟩ : S45)); (case aB => exact (by repeat (first | (with_reducible first | exact HB.out | apply below_alloc | apply pw_below_drewN | apply below_drew1) | exact HB.out))); (case aF => exact (fun k_ hk => Kd.fresh' (Kd.R_lt (by (with_reducible repeat (first | apply Kd.R_alloc | apply Kd.R_drewN | apply Kd.R_drew)); exact HO369.out)) k_ hk)); (case aO => exact (by (with_reducible repeat (first | apply Kd.R_alloc | apply Kd.R_drewN | apply Kd.R_drew)); exact Kd.R_mono HO_8.out (fun _ hk => hk.2))); (case aS => exact (below_size (by repeat (first | (with_reducible first | exact HB.out | apply below_alloc | apply pw_below_drewN | apply below_drew1) | exact HB.out)))); (case aL => have := LMc15.out; omega); intro v371 w17 ho hb hg hat; rw [← Ny370.out] at ho; have n0_ := Aside0.mk (Kd.R_after (ok := (fun _ => True)) (by (with_reducible repeat (first | apply Kd.R_alloc | apply Kd.R_drewN | apply Kd.R_drew)); exact Kd.R_mono HO369.out (fun _ hk => ⟨trivial, hk⟩)) hg hat); have n1_ := Aside0.mk (hb); have n2_ := Aside0.mk (ho); clear HO369; clear HB; clear HO_8; have HO369 := n0_; have HB := n1_; have HO372 := n2_; clear n0_ n1_ n2_; clear ho hb hg hat))
                      go_roundg k2
                      case measure => have := HK1.out; have := HK2.out; omega
                      case rel => exact ⟨(y367), (y370), (wrap64 (x9_1 + 1)), (by first | rfl | (simp; done) | (simp [*]; done)), H', ⟨by have := HK1.out; have := HK2.out; omega⟩, ⟨by (with_reducible repeat (first | apply Kd.R_alloc | apply Kd.R_drewN | apply Kd.R_drew)); exact Kd.R_mono HO369.out (fun _ hk => hk.2)⟩, ⟨by (with_reducible repeat (first | apply Kd.R_alloc | apply Kd.R_drewN | apply Kd.R_drew)); exact HO372.out⟩, ⟨by repeat (first | (with_reducible first | exact HB.out | apply below_alloc | apply pw_below_drewN | apply below_drew1) | exact HB.out)⟩⟩
                    · rw [if_neg c15] at H
                      exact absurd H (by simp)
                  · rw [if_neg c14] at H
                    exact absurd H (by simp)
                · rw [if_neg c13] at H
                  exact absurd H (by simp)
        · rw [if_neg c6] at H
          have c6b0 : decide (x9_1 < (wrap64 ((wrap64 (Int.tmod a0 20)) + 2))) = false := decide_eq_false c6
          clear c6
          replace H := Option.bind_eq_some_iff.mp H
          obtain ⟨⟨t373, t374⟩, A180, H⟩ := H
          replace H : ((block_Make.f k1 x8_1).bind fun bt375 => ((block_Read.f k1 t373).bind fun bt377 => (if t374 = 0 then (if bt375.2 = 0 then (if bt377.2 = 0 then ((ravelinref6_Same.f k1 bt377.1 x7_1).bind fun t381 => (if t381 = true then (some (decide ((wrap64 ((bt375.1.size : Int) - (t373.size : Int))) ≥ (wrap64 ((wrap64 ((wrap64 ((wrap64 (Int.tmod a0 20)) + 2)) - 1)) * (wrap64 ((wrap64 ((wrap64 (Int.tmod a1 9)) + 1)) - 1))))))) else (some false))) else (some false)) else (some false)) else (some false)))) = some r := H
          have A18 := Aside0.mk A180
          clear A180
          replace H := Option.bind_eq_some_iff.mp H
          obtain ⟨⟨t375, t376⟩, A190, H⟩ := H
          replace H : ((block_Read.f k1 t373).bind fun bt377 => (if t374 = 0 then (if t376 = 0 then (if bt377.2 = 0 then ((ravelinref6_Same.f k1 bt377.1 x7_1).bind fun t381 => (if t381 = true then (some (decide ((wrap64 ((t375.size : Int) - (t373.size : Int))) ≥ (wrap64 ((wrap64 ((wrap64 ((wrap64 (Int.tmod a0 20)) + 2)) - 1)) * (wrap64 ((wrap64 ((wrap64 (Int.tmod a1 9)) + 1)) - 1))))))) else (some false))) else (some false)) else (some false)) else (some false))) = some r := H
          have A19 := Aside0.mk A190
          clear A190
          replace H := Option.bind_eq_some_iff.mp H
          obtain ⟨⟨t377, t378⟩, A200, H⟩ := H
          replace H : (if t374 = 0 then (if t376 = 0 then (if t378 = 0 then ((ravelinref6_Same.f k1 t377 x7_1).bind fun t381 => (if t381 = true then (some (decide ((wrap64 ((t375.size : Int) - (t373.size : Int))) ≥ (wrap64 ((wrap64 ((wrap64 ((wrap64 (Int.tmod a0 20)) + 2)) - 1)) * (wrap64 ((wrap64 ((wrap64 (Int.tmod a1 9)) + 1)) - 1))))))) else (some false))) else (some false)) else (some false)) else (some false)) = some r := H
          have A20 := Aside0.mk A200
          clear A200
          by_cases c21 : t374 = 0
          · rw [if_pos c21] at H
            have c21b0 : (t374 == 0) = true := beq_iff_eq.mpr c21
            have c21b1 : (t374 != 0) = false := bne_eq_false_iff_eq.mpr c21
            clear c21
            by_cases c22 : t376 = 0
            · rw [if_pos c22] at H
              have c22b0 : (t376 == 0) = true := beq_iff_eq.mpr c22
              have c22b1 : (t376 != 0) = false := bne_eq_false_iff_eq.mpr c22
              clear c22
              by_cases c23 : t378 = 0
              · rw [if_pos c23] at H
                have c23b0 : (t378 == 0) = true := beq_iff_eq.mpr c23
                have c23b1 : (t378 != 0) = false := bne_eq_false_iff_eq.mpr c23
                clear c23
                replace H := Option.bind_eq_some_iff.mp H
                obtain ⟨t381, A240, H⟩ := H
                replace H : (if t381 = true then (some (decide ((wrap64 ((t375.size : Int) - (t373.size : Int))) ≥ (wrap64 ((wrap64 ((wrap64 ((wrap64 (Int.tmod a0 20)) + 2)) - 1)) * (wrap64 ((wrap64 ((wrap64 (Int.tmod a1 9)) + 1)) - 1))))))) else (some false)) = some r := H
                have A24 := Aside0.mk A240
                clear A240
                by_cases c25 : t381 = true
                · subst c25
                  have H1 : (some (decide ((wrap64 ((t375.size : Int) - (t373.size : Int))) ≥ (wrap64 ((wrap64 ((wrap64 ((wrap64 (Int.tmod a0 20)) + 2)) - 1)) * (wrap64 ((wrap64 ((wrap64 (Int.tmod a1 9)) + 1)) - 1))))))) = some r := by rw [if_pos rfl] at H; exact H
                  clear H
                  have H := H1
                  clear H1
                  obtain rfl := Option.some.inj H
                  obtain ⟨Ao26, co26, eo26⟩ := Kd.R_slice HO_7.out
                  subst eo26
                  go_wp2_with (first | ((with_reducible refine gate_callee (f := 9) rfl ?_); refine goesL_ (some 64) rfl rfl Try.func9 (by kernel_rfl) rfl #[.slice Ao26 x7_1.length co26] rfl (by (try simp only [List.map_toArray, List.map_cons, List.map_nil]); first | done | rfl | (simp only [List.length_drop, List.length_take]; rfl)) ?_; (with_reducible refine (block_Make.calls k1 _ _ x7_1 t373 t374 _ ?side1 ?side2 A18.out).mono ?_); (case side1 => repeat (first | exact (Kd.R_reads' HO_7.out).2.2 | (with_reducible refine Kd.C_alloc ?_ _) | (with_reducible refine Kd.C_drewN ?_ _) | (with_reducible refine Kd.C_drew ?_))); (case side2 => exact (Kd.R_reads' HO_7.out).2.1); rintro e w27 ⟨rfl, hb⟩; refine ⟨_, rfl, ?_⟩; have n0_ := Aside0.mk (Kd.R_below (by (with_reducible repeat (first | apply Kd.R_alloc | apply Kd.R_drewN | apply Kd.R_drew)); exact HO_7.out) hb); have n1_ := Aside0.mk (Kd.R_below (by (with_reducible repeat (first | apply Kd.R_alloc | apply Kd.R_drewN | apply Kd.R_drew)); exact HO_8.out) hb); have n2_ := Aside0.mk (below_step (by repeat (first | (with_reducible first | exact HB.out | apply below_alloc | apply pw_below_drewN | apply below_drew1) | exact HB.out)) hb); clear HO_7; clear HO_8; clear HB; have HO_7 := n0_; have HO_8 := n1_; have HB := n2_; clear n0_ n1_ n2_; (try clear hb); (try clear hb2); (try clear hk); (try clear hi); obtain ⟨Ao28, co28, eo28⟩ := Kd.R_slice HO_8.out; subst eo28) | ((with_reducible refine gate_callee (f := 9) rfl ?_); refine goesL_ (some 69) rfl rfl Try.func9 (by kernel_rfl) rfl #[.slice Ao28 x8_1.length co28] rfl (by (try simp only [List.map_toArray, List.map_cons, List.map_nil]); first | done | rfl | (simp only [List.length_drop, List.length_take]; rfl)) ?_; (with_reducible refine (block_Make.calls k1 _ _ x8_1 t375 t376 _ ?side1 ?side2 A19.out).mono ?_); (case side1 => repeat (first | exact (Kd.R_reads' HO_8.out).2.2 | (with_reducible refine Kd.C_alloc ?_ _) | (with_reducible refine Kd.C_drewN ?_ _) | (with_reducible refine Kd.C_drew ?_))); (case side2 => exact (Kd.R_reads' HO_8.out).2.1); rintro e w29 ⟨rfl, hb⟩; refine ⟨_, rfl, ?_⟩; have n0_ := Aside0.mk (Kd.R_below (by (with_reducible repeat (first | apply Kd.R_alloc | apply Kd.R_drewN | apply Kd.R_drew)); exact HO_7.out) hb); have n1_ := Aside0.mk (Kd.R_below (by (with_reducible repeat (first | apply Kd.R_alloc | apply Kd.R_drewN | apply Kd.R_drew)); exact HO_8.out) hb); have n2_ := Aside0.mk (below_step (by repeat (first | (with_reducible first | exact HB.out | apply below_alloc | apply pw_below_drewN | apply below_drew1) | exact HB.out)) hb); clear HO_7; clear HO_8; clear HB; have HO_7 := n0_; have HO_8 := n1_; have HB := n2_; clear n0_ n1_ n2_; (try clear hb); (try clear hb2); (try clear hk); (try clear hi)) | ((with_reducible refine gate_callee (f := 11) rfl ?_); refine goesL_ (some 74) rfl rfl Try.func11 (by kernel_rfl) rfl #[.string t373] rfl (by (try simp only [List.map_toArray, List.map_cons, List.map_nil]); first | done | rfl | (simp only [List.length_drop, List.length_take]; rfl)) ?_; (with_reducible refine (block_Read.calls k1 t373 t377 t378 _ A20.out).mono ?_); rintro e w30 ⟨v379, rfl, ho0, hb⟩; refine ⟨_, rfl, ?_⟩; have n0_ := Aside0.mk (Kd.R_elder' (by (with_reducible repeat (first | apply Kd.R_alloc | apply Kd.R_drewN | apply Kd.R_drew)); exact HO_7.out) (Kd.R_base ho0) hb); have n1_ := Aside0.mk (Kd.R_elder' (by (with_reducible repeat (first | apply Kd.R_alloc | apply Kd.R_drewN | apply Kd.R_drew)); exact HO_8.out) (Kd.R_base ho0) hb); have n2_ := Aside0.mk (Kd.R_lower (Kd.R_new' (Kd.R_new' ho0 (Kd.R_lt (by (with_reducible repeat (first | apply Kd.R_alloc | apply Kd.R_drewN | apply Kd.R_drew)); exact HO_7.out))) (Kd.R_lt (by (with_reducible repeat (first | apply Kd.R_alloc | apply Kd.R_drewN | apply Kd.R_drew)); exact HO_8.out))) (below_size (by repeat (first | (with_reducible first | exact HB.out | apply below_alloc | apply pw_below_drewN | apply below_drew1) | exact HB.out)))); have n3_ := Aside0.mk (below_step (by repeat (first | (with_reducible first | exact HB.out | apply below_alloc | apply pw_below_drewN | apply below_drew1) | exact HB.out)) hb); clear HO_7; clear HO_8; clear HB; have HO_7 := n0_; have HO_8 := n1_; have HO380 := n2_; have HB := n3_; clear n0_ n1_ n2_ n3_; (try clear hb); (try clear hb2); (try clear hk); (try clear hi); (try clear ho0); obtain ⟨Ao31, co31, eo31⟩ := Kd.R_slice HO380.out; subst eo31) | (go_at_call 13; (with_reducible refine (ravelinref6_Same.calls k1 _ _ t377 _ _ x7_1 true _ ?side1 ?side2 ?side3 ?side4 A24.out).mono ?_); (case side1 => repeat (first | exact (Kd.R_reads' HO380.out).2.2 | (with_reducible refine Kd.C_alloc ?_ _) | (with_reducible refine Kd.C_drewN ?_ _) | (with_reducible refine Kd.C_drew ?_))); (case side2 => exact (Kd.R_reads' HO380.out).2.1); (case side3 => repeat (first | exact (Kd.R_reads' HO_7.out).2.2 | (with_reducible refine Kd.C_alloc ?_ _) | (with_reducible refine Kd.C_drewN ?_ _) | (with_reducible refine Kd.C_drew ?_))); (case side4 => exact (Kd.R_reads' HO_7.out).2.1); rintro e w' ⟨rfl, ⟨nd, rfl⟩⟩))
                  go_ret
                  exact ⟨by first | rfl | (simp [errW_none, errW_some] <;> rfl) | (simp [*, errW_none, errW_some] <;> rfl), by repeat (first | (with_reducible first | exact HB.out | apply below_alloc | apply pw_below_drewN | apply below_drew1) | exact HB.out)⟩
                · replace c25 := Bool.eq_false_iff.mpr c25
                  subst c25
                  have H1 : (some false) = some r := by rw [if_neg (show ¬ (false = true) by decide)] at H; exact H
                  clear H
                  have H := H1
                  clear H1
                  exact absurd ((Option.some.inj H).trans HR_.out) (by decide)
              · rw [if_neg c23] at H
                have c23b0 : (t378 == 0) = false := beq_eq_false_iff_ne.mpr c23
                have c23b1 : (t378 != 0) = true := bne_iff_ne.mpr c23
                exact absurd ((Option.some.inj H).trans HR_.out) (by decide)
            · rw [if_neg c22] at H
              have c22b0 : (t376 == 0) = false := beq_eq_false_iff_ne.mpr c22
              have c22b1 : (t376 != 0) = true := bne_iff_ne.mpr c22
              exact absurd ((Option.some.inj H).trans HR_.out) (by decide)
          · rw [if_neg c21] at H
            have c21b0 : (t374 == 0) = false := beq_eq_false_iff_ne.mpr c21
            have c21b1 : (t374 != 0) = true := bne_iff_ne.mpr c21
            exact absurd ((Option.some.inj H).trans HR_.out) (by decide)
  · replace c4 := Bool.eq_false_iff.mpr c4
    subst c4
    have H1 : (some false) = some r := by rw [if_neg (show ¬ (false = true) by decide)] at H; exact H
    clear H
    have H := H1
    clear H1
    exact absurd ((Option.some.inj H).trans HR_.out) (by decide)

/-- THE ONE PURE STATEMENT of ravelinlaw8_BlockSmall: yours. -/
def ravelinlaw8_BlockSmall.Pure : Prop := ∀ (a0 : Int) (a1 : Int), (Lit.int .u8 a0).wf = true → (Lit.int .u8 a1).wf = true → ∃ k, ravelinlaw8_BlockSmall.f k a0 a1 = some true
theorem ravelinlaw8_BlockSmall.walk (P : ravelinlaw8_BlockSmall.Pure) (a0 : Int) (a1 : Int) (w : World) (w0 : (Lit.int .u8 a0).wf = true) (w1 : (Lit.int .u8 a1).wf = true) :
    Calls Try.prog 6 #[.int .u8 a0, .int .u8 a1] w fun e w' => e = .returned (.bool true) ∧ Below w.heap.size w w' := by
  obtain ⟨k, h⟩ := P a0 a1 w0 w1
  refine (ravelinlaw8_BlockSmall.calls k a0 a1 true w h rfl).mono ?_
  rintro e w' ⟨rfl, hd⟩
  exact ⟨rfl, hd⟩

end Go.Proofs.Ythohfmfgijckhaa.P
