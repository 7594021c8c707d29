-- Printed by a changed copy of the kit's printer (wip/tools/ext.py); labels and more
import Derived.Test.YtdkdnfgpgedglaaQShort
import Derived.Test.YtdkdnfgpgedglaaPx0
import Derived.Test.YtdkdnfgpgedglaaPx1
import Derived.Test.YtdkdnfgpgedglaaPx3
namespace Go.Proofs.Ytdkdnfgpgedglaa.P
open Go.RowKit Go.Proofs.YtdkdnfgpgedglaaW.PrintWords Go.Proofs.YtdkdnfgpgedglaaW.PrintLast Go.Proofs.YtdkdnfgpgedglaaW.PrintMore
attribute [local go_sem] max2_int min2_int max_two min_two max_three min_three max_four min_four   -- for this text's walks alone
attribute [local go_sem high] string_leq string_geq string_gtr
set_option linter.unusedVariables false
set_option linter.unusedSimpArgs false

attribute [local go_sem high] eqA29
abbrev mkPx5_0 : Array Bool := #[false, false, false, false, false, false, false, false, false, false, false]
abbrev mkPx5_1 : Array Bool := #[true, false, false, false, false, false, false, false, false, false, false]
abbrev mkPx5_2 : Array Bool := #[true, true, false, false, false, false, false, false, false, false, false]
abbrev mkPx5_3 : Array Bool := #[true, true, true, false, false, false, false, false, false, false, false]
abbrev mkPx5_4 : Array Bool := #[true, true, true, true, false, false, false, false, false, false, false]
abbrev mkPx5_5 : Array Bool := #[true, true, true, true, false, true, false, false, false, false, false]
abbrev mkPx5_6 : Array Bool := #[true, true, true, true, false, true, true, false, false, false, false]
abbrev mkPx5_7 : Array Bool := #[true, true, true, true, false, true, true, true, false, false, false]
abbrev mkPx5_8 : Array Bool := #[true, true, true, true, true, true, true, true, false, false, false]
abbrev mkPx5_9 : Array Bool := #[true, true, true, true, true, true, true, true, true, false, false]
abbrev mkPx5_10 : Array Bool := #[true, true, true, true, true, true, true, true, true, true, false]
abbrev mkPx5_11 : Array Bool := #[true, true, true, true, true, true, true, true, true, true, true]
/-! ### ravelinref6_Sorted: function 28 -/
def ravelinref6_Sorted.l0 : Nat → List (S29) → Int → Option (Bool)
  | 0, _, _ => none
  | k + 1, x0, x3 => if x3 < (x0.length : Int) then (if 0 ≤ (wrap64 (x3 - 1)) then (if (wrap64 (x3 - 1)) < (x0.length : Int) then (if 0 ≤ x3 then ((ravelinref6_Less.f ((rd_T29 x0 (wrap64 (x3 - 1))).f0) ((rd_T29 x0 (wrap64 (x3 - 1))).f1) ((rd_T29 x0 (wrap64 (x3 - 1))).f2) ((rd_T29 x0 (wrap64 (x3 - 1))).f3) ((rd_T29 x0 x3).f0) ((rd_T29 x0 x3).f1) ((rd_T29 x0 x3).f2) ((rd_T29 x0 x3).f3)).bind fun t187 => (if t187 = true then (ravelinref6_Sorted.l0 k x0 (wrap64 (x3 + 1))) else (some false))) else (none)) else (none)) else (none)) else (some true)
def ravelinref6_Sorted.f (k : Nat) (l0 : List (S29)) : Option (Bool) := ravelinref6_Sorted.l0 k l0 1
theorem ravelinref6_Sorted.mono_l : ∀ k, (∀ y0 y1, LeO (ravelinref6_Sorted.l0 k y0 y1) (ravelinref6_Sorted.l0 (k + 1) y0 y1))
  | 0 => fun _ _ r h => by simp [ravelinref6_Sorted.l0] at h
  | k + 1 => by
    have ih0 := ravelinref6_Sorted.mono_l k
    · intro y0 y1
      unfold ravelinref6_Sorted.l0
      repeat' first
      | (with_reducible exact ih0 _ _)
      | (with_reducible exact LeO.refl _)
      | (with_reducible exact LeO.none _)
      | (with_reducible refine LeO.ite ?_ ?_)
      | (with_reducible refine LeO.bind ?_ (fun _ => ?_))
      | exact ih0 _ _
      | exact LeO.none _
      | refine LeO.ite ?_ ?_
      | refine LeO.bind ?_ (fun _ => ?_)
theorem ravelinref6_Sorted.mono : ∀ a0 k, LeO (ravelinref6_Sorted.f k a0) (ravelinref6_Sorted.f (k + 1) a0) := by
  intro a0 k
  have ih0 := ravelinref6_Sorted.mono_l k
  unfold ravelinref6_Sorted.f
  repeat' first
      | (with_reducible exact ih0 _ _)
      | (with_reducible exact LeO.refl _)
      | (with_reducible exact LeO.none _)
      | (with_reducible refine LeO.ite ?_ ?_)
      | (with_reducible refine LeO.bind ?_ (fun _ => ?_))
      | exact ih0 _ _
      | exact LeO.none _
      | refine LeO.ite ?_ ?_
      | refine LeO.bind ?_ (fun _ => ?_)
def ravelinref6_Sorted.T4 : Bool × List (List Nat × List Nat) := (true, [([], []), ([], []), ([1], [1]), ([0, 2], [0, 2]), ([3], [3]), ([], []), ([], []), ([5, 6], [5, 6]), ([7], [7]), ([4, 8], [4, 8]), ([9], [9])])
def ravelinref6_Sorted.B4 : List Nat := [0, 0, 2, 7, 15, 0, 0, 96, 224, 511, 1023]
theorem ravelinref6_Sorted.tab4 : rtab .any (opsOf Try.f28 4) = ravelinref6_Sorted.T4 := by kernel_rfl
theorem ravelinref6_Sorted.bits4 : waitsOk ravelinref6_Sorted.T4.2 ravelinref6_Sorted.B4 = true := by kernel_rfl
set_option maxHeartbeats 8000000 in
set_option maxRecDepth 100000 in
theorem ravelinref6_Sorted.calls (k : Nat) (A0 : Option Addr) (c0 : Nat) (l0 : List (S29)) (r : Bool) (w : World) (hr0 : Kd.C k29 w A0 l0.length l0) (hc0 : l0.length ≤ c0) (h : ravelinref6_Sorted.f k l0 = some r) :
    Calls Try.prog 28 #[.slice A0 l0.length c0] w fun e w' => e = .returned (.bool r) ∧ Below w.heap.size w w' := by
  have hu29 := Try.underlying29
  have HR0 := Aside0.mk hr0
  have HC0 := Aside0.mk hc0
  clear hr0 hc0
  have HB := Aside0.mk (Below.refl w.heap.size w)
  have H : (ravelinref6_Sorted.l0 k l0 1) = some r := h
  clear h
  have H' := Aside0.mk H
  clear H
  go_enter Try.func28, Try.ntmps28
  go_wp2
  go_loopg [3] k (fun kq v3 w' => ∃ (x3_1 : Int), v3 = .int .i64 x3_1 ∧ Aside0 (ravelinref6_Sorted.l0 kq l0 x3_1 = some r) ∧ Aside0 (kq ≤ k) ∧ Aside0 (Below w.heap.size w w'))
  case atStart => exact ⟨(1), (by first | rfl | (simp; done) | (simp [*]; done)), H', ⟨Nat.le_refl _⟩, ⟨gw_ HB⟩⟩
  clear H'
  obtain ⟨x3_1, rfl, HA, HK1, HB⟩ := hrel
  cases gk with
  | zero => exact absurd HA.out (by simp [ravelinref6_Sorted.l0])
  | succ k1 => ?_
  have H := HA.out
  clear HA
  simp only [ravelinref6_Sorted.l0] at H
  by_cases c2 : x3_1 < (l0.length : Int)
  rotate_left
  · rw [if_neg c2] at H
    have c2b0 : decide (x3_1 < (l0.length : Int)) = false := decide_eq_false c2
    clear c2
    obtain rfl := Option.some.inj H
    go_wp2
    go_ret
    exact ⟨by first | rfl | (simp [*, errW_none, errW_some] <;> rfl), gw_ HB⟩
  rw [if_pos c2] at H
  have c2b0 : decide (x3_1 < (l0.length : Int)) = true := decide_eq_true c2
  clear c2
  obtain ⟨ji3, hji3⟩ : ∃ j_ : Int, (wrap64 (x3_1 - 1)) = j_ := ⟨_, rfl⟩
  replace H : (if 0 ≤ (ji3) then (if (ji3) < (l0.length : Int) then (if 0 ≤ x3_1 then ((ravelinref6_Less.f ((rd_T29 l0 (ji3)).f0) ((rd_T29 l0 (ji3)).f1) ((rd_T29 l0 (ji3)).f2) ((rd_T29 l0 (ji3)).f3) ((rd_T29 l0 x3_1).f0) ((rd_T29 l0 x3_1).f1) ((rd_T29 l0 x3_1).f2) ((rd_T29 l0 x3_1).f3)).bind fun t187 => (if t187 = true then (ravelinref6_Sorted.l0 k1 l0 (wrap64 (x3_1 + 1))) else (some false))) else (none)) else (none)) else (none)) = some r := by first | (rw [hji3] at H; exact H) | (simp only [hji3] at H ⊢; exact H)
  have hji3w : (IntKind.i64.wrap (x3_1 - 1)) = ji3 := (i64_w _).trans hji3
  by_cases c4 : 0 ≤ (ji3)
  rotate_left
  · rw [if_neg c4] at H
    exact absurd H (by simp)
  rw [if_pos c4] at H
  have c4b0 : decide (0 ≤ (ji3)) = true := decide_eq_true c4
  clear c4
  by_cases c5 : (ji3) < (l0.length : Int)
  rotate_left
  · rw [if_neg c5] at H
    exact absurd H (by simp)
  rw [if_pos c5] at H
  have c5b0 : decide ((ji3) < (l0.length : Int)) = true := decide_eq_true c5
  clear c5
  by_cases c6 : 0 ≤ x3_1
  rotate_left
  · rw [if_neg c6] at H
    exact absurd H (by simp)
  rw [if_pos c6] at H
  have c6b0 : decide (0 ≤ x3_1) = true := decide_eq_true c6
  clear c6
  replace H := Option.bind_eq_some_iff.mp H
  obtain ⟨t187, A70, H⟩ := H
  try dsimp only at H
  have A7 := Aside0.mk A70
  clear A70
  by_cases c8 : t187 = true
  · subst c8
    have H1 : (ravelinref6_Sorted.l0 k1 l0 (wrap64 (x3_1 + 1))) = some r := by rw [if_pos rfl] at H; exact H
    clear H
    have H := H1
    clear H1
    have H' := Aside0.mk H
    clear H
    try go_wp2
    have n0_ := Aside0.mk (below_drew1 HB.out)
    clear HB
    have HB := n0_
    clear n0_
    have p185 : 0 ≤ ((ji3) : Int) := of_decide_eq_true (by assumption)
    have q185 : (ji3) < (l0.length : Int) := of_decide_eq_true (by assumption)
    obtain ⟨ad185, e185, hx185_0, hx185_1, hx185_2, hx185_3⟩ := at_T29 HR0.out (ji3) p185 q185
    have hw185_3 := hx185_3
    have hw185_2 := hx185_2
    have hw185_1 := hx185_1
    have hw185_0 := hx185_0
    cases e185
    replace hx185_0 := hc_ HB hx185_0
    replace hx185_1 := hc_ HB hx185_1
    replace hx185_2 := hc_ HB hx185_2
    replace hx185_3 := hc_ HB hx185_3
    replace p185 := eq_true p185
    replace q185 := eq_true q185
    have p186 : 0 ≤ (x3_1 : Int) := of_decide_eq_true (by assumption)
    have q186 : x3_1 < (l0.length : Int) := of_decide_eq_true (by assumption)
    obtain ⟨ad186, e186, hx186_0, hx186_1, hx186_2, hx186_3⟩ := at_T29 HR0.out x3_1 p186 q186
    have hw186_3 := hx186_3
    have hw186_2 := hx186_2
    have hw186_1 := hx186_1
    have hw186_0 := hx186_0
    obtain rfl : ad185 = ad186 := (by injection e186)
    replace hx186_0 := hc_ HB hx186_0
    replace hx186_1 := hc_ HB hx186_1
    replace hx186_2 := hc_ HB hx186_2
    replace hx186_3 := hc_ HB hx186_3
    replace p186 := eq_true p186
    replace q186 := eq_true q186
    refine start_ (n := 11) (S := fun w' => w'.cell? (ad185.add (((ji3)).toNat * 4)) = some (.string ((rd_T29 l0 (ji3)).f0)) ∧ w'.cell? ⟨(ad185.add (((ji3)).toNat * 4)).block, (ad185.add (((ji3)).toNat * 4)).off + 1, none⟩ = some (.int .i64 ((rd_T29 l0 (ji3)).f1)) ∧ w'.cell? ⟨(ad185.add (((ji3)).toNat * 4)).block, (ad185.add (((ji3)).toNat * 4)).off + 2, none⟩ = some (.bool ((rd_T29 l0 (ji3)).f2)) ∧ w'.cell? ⟨(ad185.add (((ji3)).toNat * 4)).block, (ad185.add (((ji3)).toNat * 4)).off + 3, none⟩ = some (.string ((rd_T29 l0 (ji3)).f3)) ∧ w'.cell? (ad185.add ((x3_1).toNat * 4)) = some (.string ((rd_T29 l0 x3_1).f0)) ∧ w'.cell? ⟨(ad185.add ((x3_1).toNat * 4)).block, (ad185.add ((x3_1).toNat * 4)).off + 1, none⟩ = some (.int .i64 ((rd_T29 l0 x3_1).f1)) ∧ w'.cell? ⟨(ad185.add ((x3_1).toNat * 4)).block, (ad185.add ((x3_1).toNat * 4)).off + 2, none⟩ = some (.bool ((rd_T29 l0 x3_1).f2)) ∧ w'.cell? ⟨(ad185.add ((x3_1).toNat * 4)).block, (ad185.add ((x3_1).toNat * 4)).off + 3, none⟩ = some (.string ((rd_T29 l0 x3_1).f3))) (ds := []) mkPx5_0 (by kernel_rfl) rfl rfl ⟨((HB.out.cell (World.block_lt_of_cell? w _ hw185_0)).trans hw185_0), ((HB.out.cell (World.block_lt_of_cell? w _ hw185_1)).trans hw185_1), ((HB.out.cell (World.block_lt_of_cell? w _ hw185_2)).trans hw185_2), ((HB.out.cell (World.block_lt_of_cell? w _ hw185_3)).trans hw185_3), ((HB.out.cell (World.block_lt_of_cell? w _ hw186_0)).trans hw186_0), ((HB.out.cell (World.block_lt_of_cell? w _ hw186_1)).trans hw186_1), ((HB.out.cell (World.block_lt_of_cell? w _ hw186_2)).trans hw186_2), ((HB.out.cell (World.block_lt_of_cell? w _ hw186_3)).trans hw186_3)⟩ (fun hHeld => ?_); refine with_tabW ravelinref6_Sorted.tab4 ravelinref6_Sorted.bits4 (fun HT_ HW_ => ?_)
    generalize wr.drew = w9 at HB hx185_0 hx185_1 hx185_2 hx185_3 hx186_0 hx186_1 hx186_2 hx186_3 hHeld ⊢
    refine pu_ 0 (some 10) mkPx5_1 HT_ ?_ rfl rfl (by kernel_rfl) (fun _ _ _ h => h) (Or.inl ⟨by rfl, ?_⟩) ?_ ?_ ?_
    rotate_left
    · intro w'
      go_simp
      with_reducible rfl
    rotate_left
    · simp only [Act.put, lists_, i64_w, i32_w]
      rfl
    refine pu_ 1 (some 11) mkPx5_2 HT_ ?_ rfl rfl (by kernel_rfl) (fun _ _ _ h => h) (Or.inl ⟨by rfl, ?_⟩) ?_ ?_ ?_
    rotate_left
    · intro w'
      go_simp
      with_reducible rfl
    rotate_left
    · simp only [Act.put, lists_, i64_w, i32_w]
      rfl
    refine pu_ 2 (some 12) mkPx5_3 HT_ ?_ rfl rfl (by kernel_rfl) (fun _ _ _ h => h) (Or.inl ⟨by rfl, ?_⟩) ?_ ?_ ?_
    rotate_left
    · intro w'
      go_simp
      with_reducible rfl
    rotate_left
    · simp only [Act.put, lists_, i64_w, i32_w]
      rfl
    refine pu_ 3 (some 13) mkPx5_4 HT_ ?_ rfl rfl (by kernel_rfl) (fun _ _ _ h => h) (Or.inl ⟨by rfl, ?_⟩) ?_ ?_ ?_
    rotate_left
    · intro w'
      go_simp
      with_reducible rfl
    rotate_left
    · simp only [Act.put, lists_, i64_w, i32_w]
      rfl
    refine pu_ 5 (some 15) mkPx5_5 HT_ ?_ rfl rfl (by kernel_rfl) (fun _ _ _ h => h) (Or.inl ⟨by rfl, ?_⟩) ?_ ?_ ?_
    rotate_left
    · intro w'
      go_simp
      with_reducible rfl
    rotate_left
    · simp only [Act.put, lists_, i64_w, i32_w]
      rfl
    refine pu_ 6 (some 16) mkPx5_6 HT_ ?_ rfl rfl (by kernel_rfl) (fun _ _ _ h => h) (Or.inl ⟨by rfl, ?_⟩) ?_ ?_ ?_
    rotate_left
    · intro w'
      go_simp
      with_reducible rfl
    rotate_left
    · simp only [Act.put, lists_, i64_w, i32_w]
      rfl
    refine pu_ 7 (some 17) mkPx5_7 HT_ ?_ rfl rfl (by kernel_rfl) (fun _ _ _ h => h) (Or.inl ⟨by rfl, ?_⟩) ?_ ?_ ?_
    rotate_left
    · intro w'
      go_simp
      with_reducible rfl
    rotate_left
    · simp only [Act.put, lists_, i64_w, i32_w]
      rfl
    refine take_ (i := 4) (N := some 14) (v := ?_) (a' := ?_) mkPx5_8 rfl rfl (take_ofW HT_.out HW_.out (by kernel_rfl)) (fun _ _ _ h => h) (Or.inl ⟨by rfl, ?_⟩) hHeld ?_ ?_
    rotate_left
    · rintro w' ⟨s0, s1, s2, s3, s4, s5, s6, s7⟩
      go_simp
      with_reducible rfl
    rotate_left
    · simp only [Act.put, lists_, i64_w, i32_w]
      rfl
    refine take_ (i := 8) (N := some 18) (v := ?_) (a' := ?_) mkPx5_9 rfl rfl (take_ofW HT_.out HW_.out (by kernel_rfl)) (fun _ _ _ h => h) (Or.inl ⟨by rfl, ?_⟩) hHeld ?_ ?_
    rotate_left
    · rintro w' ⟨s0, s1, s2, s3, s4, s5, s6, s7⟩
      go_simp
      with_reducible rfl
    rotate_left
    · simp only [Act.put, lists_, i64_w, i32_w]
      rfl
    refine one_ (i := 9) (N := some 19) mkPx5_10 rfl rfl (one_of HT_.out (by kernel_rfl)) (by decide) (fun K hK => ?_)
    refine goes_ Try.func22 (by kernel_rfl) rfl #[.agg #[.string ((rd_T29 l0 (ji3)).f0), .int .i64 ((rd_T29 l0 (ji3)).f1), .bool ((rd_T29 l0 (ji3)).f2), .string ((rd_T29 l0 (ji3)).f3)], .agg #[.string ((rd_T29 l0 x3_1).f0), .int .i64 ((rd_T29 l0 x3_1).f1), .bool ((rd_T29 l0 x3_1).f2), .string ((rd_T29 l0 x3_1).f3)]] (by rfl) rfl rfl (by (try simp only [List.map_toArray, List.map_cons, List.map_nil]); first | done | (simp only [hji3]; rfl) | rfl | (simp only [List.length_drop, List.length_take]; rfl)) ?_
    with_reducible refine (ravelinref6_Less.calls ((rd_T29 l0 (ji3)).f0) ((rd_T29 l0 (ji3)).f1) ((rd_T29 l0 (ji3)).f2) ((rd_T29 l0 (ji3)).f3) ((rd_T29 l0 x3_1).f0) ((rd_T29 l0 x3_1).f1) ((rd_T29 l0 x3_1).f2) ((rd_T29 l0 x3_1).f3) true _ A7.out).mono ?_
    rintro e w10 ⟨rfl, hb⟩
    refine ⟨_, rfl, ?_⟩
    have n0_ := bs_ HB hb
    clear HB
    have HB := n0_
    clear n0_
    (try clear hb)
    (try clear hb2)
    (try clear hk)
    (try clear hi)
    refine hK.out _ _ ⟨((HB.out.cell (World.block_lt_of_cell? w _ hw185_0)).trans hw185_0), ((HB.out.cell (World.block_lt_of_cell? w _ hw185_1)).trans hw185_1), ((HB.out.cell (World.block_lt_of_cell? w _ hw185_2)).trans hw185_2), ((HB.out.cell (World.block_lt_of_cell? w _ hw185_3)).trans hw185_3), ((HB.out.cell (World.block_lt_of_cell? w _ hw186_0)).trans hw186_0), ((HB.out.cell (World.block_lt_of_cell? w _ hw186_1)).trans hw186_1), ((HB.out.cell (World.block_lt_of_cell? w _ hw186_2)).trans hw186_2), ((HB.out.cell (World.block_lt_of_cell? w _ hw186_3)).trans hw186_3)⟩ (fun hHeld => ?_)
    clear hK K
    refine norm_ (a' := ?_) ?_ ?_
    rotate_left
    · show Act.put _ (some 19) _ = _
      simp only [Act.put, lists_, i64_w, i32_w]
      rfl
    refine pu_ 10 (some 20) mkPx5_11 HT_ ?_ rfl rfl (by kernel_rfl) (fun _ _ _ h => h) (Or.inl ⟨by rfl, ?_⟩) ?_ ?_ ?_
    rotate_left
    · intro w'
      go_simp
      with_reducible rfl
    rotate_left
    · simp only [Act.put, lists_, i64_w, i32_w]
      rfl
    refine done_ (done_of HT_.out (by kernel_rfl)) ?_
    try go_wp2
    go_roundg k1
    case measure => have := HK1.out; omega
    case rel => exact ⟨(wrap64 (x3_1 + 1)), (by first | rfl | (simp; done) | (simp [*]; done)), H', ⟨by have := HK1.out; omega⟩, ⟨gw_ HB⟩⟩
  replace c8 := Bool.eq_false_iff.mpr c8
  subst c8
  have H1 : (some false) = some r := by rw [if_neg (show ¬ (false = true) by decide)] at H; exact H
  clear H
  have H := H1
  clear H1
  obtain rfl := Option.some.inj H
  try go_wp2
  have n0_ := Aside0.mk (below_drew1 HB.out)
  clear HB
  have HB := n0_
  clear n0_
  have p185 : 0 ≤ ((ji3) : Int) := of_decide_eq_true (by assumption)
  have q185 : (ji3) < (l0.length : Int) := of_decide_eq_true (by assumption)
  obtain ⟨ad185, e185, hx185_0, hx185_1, hx185_2, hx185_3⟩ := at_T29 HR0.out (ji3) p185 q185
  have hw185_3 := hx185_3
  have hw185_2 := hx185_2
  have hw185_1 := hx185_1
  have hw185_0 := hx185_0
  cases e185
  replace hx185_0 := hc_ HB hx185_0
  replace hx185_1 := hc_ HB hx185_1
  replace hx185_2 := hc_ HB hx185_2
  replace hx185_3 := hc_ HB hx185_3
  replace p185 := eq_true p185
  replace q185 := eq_true q185
  have p186 : 0 ≤ (x3_1 : Int) := of_decide_eq_true (by assumption)
  have q186 : x3_1 < (l0.length : Int) := of_decide_eq_true (by assumption)
  obtain ⟨ad186, e186, hx186_0, hx186_1, hx186_2, hx186_3⟩ := at_T29 HR0.out x3_1 p186 q186
  have hw186_3 := hx186_3
  have hw186_2 := hx186_2
  have hw186_1 := hx186_1
  have hw186_0 := hx186_0
  obtain rfl : ad185 = ad186 := (by injection e186)
  replace hx186_0 := hc_ HB hx186_0
  replace hx186_1 := hc_ HB hx186_1
  replace hx186_2 := hc_ HB hx186_2
  replace hx186_3 := hc_ HB hx186_3
  replace p186 := eq_true p186
  replace q186 := eq_true q186
  refine start_ (n := 11) (S := fun w' => w'.cell? (ad185.add (((ji3)).toNat * 4)) = some (.string ((rd_T29 l0 (ji3)).f0)) ∧ w'.cell? ⟨(ad185.add (((ji3)).toNat * 4)).block, (ad185.add (((ji3)).toNat * 4)).off + 1, none⟩ = some (.int .i64 ((rd_T29 l0 (ji3)).f1)) ∧ w'.cell? ⟨(ad185.add (((ji3)).toNat * 4)).block, (ad185.add (((ji3)).toNat * 4)).off + 2, none⟩ = some (.bool ((rd_T29 l0 (ji3)).f2)) ∧ w'.cell? ⟨(ad185.add (((ji3)).toNat * 4)).block, (ad185.add (((ji3)).toNat * 4)).off + 3, none⟩ = some (.string ((rd_T29 l0 (ji3)).f3)) ∧ w'.cell? (ad185.add ((x3_1).toNat * 4)) = some (.string ((rd_T29 l0 x3_1).f0)) ∧ w'.cell? ⟨(ad185.add ((x3_1).toNat * 4)).block, (ad185.add ((x3_1).toNat * 4)).off + 1, none⟩ = some (.int .i64 ((rd_T29 l0 x3_1).f1)) ∧ w'.cell? ⟨(ad185.add ((x3_1).toNat * 4)).block, (ad185.add ((x3_1).toNat * 4)).off + 2, none⟩ = some (.bool ((rd_T29 l0 x3_1).f2)) ∧ w'.cell? ⟨(ad185.add ((x3_1).toNat * 4)).block, (ad185.add ((x3_1).toNat * 4)).off + 3, none⟩ = some (.string ((rd_T29 l0 x3_1).f3))) (ds := []) mkPx5_0 (by kernel_rfl) rfl rfl ⟨((HB.out.cell (World.block_lt_of_cell? w _ hw185_0)).trans hw185_0), ((HB.out.cell (World.block_lt_of_cell? w _ hw185_1)).trans hw185_1), ((HB.out.cell (World.block_lt_of_cell? w _ hw185_2)).trans hw185_2), ((HB.out.cell (World.block_lt_of_cell? w _ hw185_3)).trans hw185_3), ((HB.out.cell (World.block_lt_of_cell? w _ hw186_0)).trans hw186_0), ((HB.out.cell (World.block_lt_of_cell? w _ hw186_1)).trans hw186_1), ((HB.out.cell (World.block_lt_of_cell? w _ hw186_2)).trans hw186_2), ((HB.out.cell (World.block_lt_of_cell? w _ hw186_3)).trans hw186_3)⟩ (fun hHeld => ?_); refine with_tabW ravelinref6_Sorted.tab4 ravelinref6_Sorted.bits4 (fun HT_ HW_ => ?_)
  generalize wr.drew = w11 at HB hx185_0 hx185_1 hx185_2 hx185_3 hx186_0 hx186_1 hx186_2 hx186_3 hHeld ⊢
  refine pu_ 0 (some 10) mkPx5_1 HT_ ?_ rfl rfl (by kernel_rfl) (fun _ _ _ h => h) (Or.inl ⟨by rfl, ?_⟩) ?_ ?_ ?_
  rotate_left
  · intro w'
    go_simp
    with_reducible rfl
  rotate_left
  · simp only [Act.put, lists_, i64_w, i32_w]
    rfl
  refine pu_ 1 (some 11) mkPx5_2 HT_ ?_ rfl rfl (by kernel_rfl) (fun _ _ _ h => h) (Or.inl ⟨by rfl, ?_⟩) ?_ ?_ ?_
  rotate_left
  · intro w'
    go_simp
    with_reducible rfl
  rotate_left
  · simp only [Act.put, lists_, i64_w, i32_w]
    rfl
  refine pu_ 2 (some 12) mkPx5_3 HT_ ?_ rfl rfl (by kernel_rfl) (fun _ _ _ h => h) (Or.inl ⟨by rfl, ?_⟩) ?_ ?_ ?_
  rotate_left
  · intro w'
    go_simp
    with_reducible rfl
  rotate_left
  · simp only [Act.put, lists_, i64_w, i32_w]
    rfl
  refine pu_ 3 (some 13) mkPx5_4 HT_ ?_ rfl rfl (by kernel_rfl) (fun _ _ _ h => h) (Or.inl ⟨by rfl, ?_⟩) ?_ ?_ ?_
  rotate_left
  · intro w'
    go_simp
    with_reducible rfl
  rotate_left
  · simp only [Act.put, lists_, i64_w, i32_w]
    rfl
  refine pu_ 5 (some 15) mkPx5_5 HT_ ?_ rfl rfl (by kernel_rfl) (fun _ _ _ h => h) (Or.inl ⟨by rfl, ?_⟩) ?_ ?_ ?_
  rotate_left
  · intro w'
    go_simp
    with_reducible rfl
  rotate_left
  · simp only [Act.put, lists_, i64_w, i32_w]
    rfl
  refine pu_ 6 (some 16) mkPx5_6 HT_ ?_ rfl rfl (by kernel_rfl) (fun _ _ _ h => h) (Or.inl ⟨by rfl, ?_⟩) ?_ ?_ ?_
  rotate_left
  · intro w'
    go_simp
    with_reducible rfl
  rotate_left
  · simp only [Act.put, lists_, i64_w, i32_w]
    rfl
  refine pu_ 7 (some 17) mkPx5_7 HT_ ?_ rfl rfl (by kernel_rfl) (fun _ _ _ h => h) (Or.inl ⟨by rfl, ?_⟩) ?_ ?_ ?_
  rotate_left
  · intro w'
    go_simp
    with_reducible rfl
  rotate_left
  · simp only [Act.put, lists_, i64_w, i32_w]
    rfl
  refine take_ (i := 4) (N := some 14) (v := ?_) (a' := ?_) mkPx5_8 rfl rfl (take_ofW HT_.out HW_.out (by kernel_rfl)) (fun _ _ _ h => h) (Or.inl ⟨by rfl, ?_⟩) hHeld ?_ ?_
  rotate_left
  · rintro w' ⟨s0, s1, s2, s3, s4, s5, s6, s7⟩
    go_simp
    with_reducible rfl
  rotate_left
  · simp only [Act.put, lists_, i64_w, i32_w]
    rfl
  refine take_ (i := 8) (N := some 18) (v := ?_) (a' := ?_) mkPx5_9 rfl rfl (take_ofW HT_.out HW_.out (by kernel_rfl)) (fun _ _ _ h => h) (Or.inl ⟨by rfl, ?_⟩) hHeld ?_ ?_
  rotate_left
  · rintro w' ⟨s0, s1, s2, s3, s4, s5, s6, s7⟩
    go_simp
    with_reducible rfl
  rotate_left
  · simp only [Act.put, lists_, i64_w, i32_w]
    rfl
  refine one_ (i := 9) (N := some 19) mkPx5_10 rfl rfl (one_of HT_.out (by kernel_rfl)) (by decide) (fun K hK => ?_)
  refine goes_ Try.func22 (by kernel_rfl) rfl #[.agg #[.string ((rd_T29 l0 (ji3)).f0), .int .i64 ((rd_T29 l0 (ji3)).f1), .bool ((rd_T29 l0 (ji3)).f2), .string ((rd_T29 l0 (ji3)).f3)], .agg #[.string ((rd_T29 l0 x3_1).f0), .int .i64 ((rd_T29 l0 x3_1).f1), .bool ((rd_T29 l0 x3_1).f2), .string ((rd_T29 l0 x3_1).f3)]] (by rfl) rfl rfl (by (try simp only [List.map_toArray, List.map_cons, List.map_nil]); first | done | (simp only [hji3]; rfl) | rfl | (simp only [List.length_drop, List.length_take]; rfl)) ?_
  with_reducible refine (ravelinref6_Less.calls ((rd_T29 l0 (ji3)).f0) ((rd_T29 l0 (ji3)).f1) ((rd_T29 l0 (ji3)).f2) ((rd_T29 l0 (ji3)).f3) ((rd_T29 l0 x3_1).f0) ((rd_T29 l0 x3_1).f1) ((rd_T29 l0 x3_1).f2) ((rd_T29 l0 x3_1).f3) false _ A7.out).mono ?_
  rintro e w12 ⟨rfl, hb⟩
  refine ⟨_, rfl, ?_⟩
  have n0_ := bs_ HB hb
  clear HB
  have HB := n0_
  clear n0_
  (try clear hb)
  (try clear hb2)
  (try clear hk)
  (try clear hi)
  refine hK.out _ _ ⟨((HB.out.cell (World.block_lt_of_cell? w _ hw185_0)).trans hw185_0), ((HB.out.cell (World.block_lt_of_cell? w _ hw185_1)).trans hw185_1), ((HB.out.cell (World.block_lt_of_cell? w _ hw185_2)).trans hw185_2), ((HB.out.cell (World.block_lt_of_cell? w _ hw185_3)).trans hw185_3), ((HB.out.cell (World.block_lt_of_cell? w _ hw186_0)).trans hw186_0), ((HB.out.cell (World.block_lt_of_cell? w _ hw186_1)).trans hw186_1), ((HB.out.cell (World.block_lt_of_cell? w _ hw186_2)).trans hw186_2), ((HB.out.cell (World.block_lt_of_cell? w _ hw186_3)).trans hw186_3)⟩ (fun hHeld => ?_)
  clear hK K
  refine norm_ (a' := ?_) ?_ ?_
  rotate_left
  · show Act.put _ (some 19) _ = _
    simp only [Act.put, lists_, i64_w, i32_w]
    rfl
  refine pu_ 10 (some 20) mkPx5_11 HT_ ?_ rfl rfl (by kernel_rfl) (fun _ _ _ h => h) (Or.inl ⟨by rfl, ?_⟩) ?_ ?_ ?_
  rotate_left
  · intro w'
    go_simp
    with_reducible rfl
  rotate_left
  · simp only [Act.put, lists_, i64_w, i32_w]
    rfl
  refine done_ (done_of HT_.out (by kernel_rfl)) ?_
  try go_wp2
  go_ret
  exact ⟨by first | rfl | (simp [errW_none, errW_some] <;> rfl) | (simp only [← hji3]; first | rfl | (simp [errW_none, errW_some] <;> rfl)) | (simp [*, errW_none, errW_some] <;> rfl), gw_ HB⟩

/-! ### ravelinref6_Newest: function 15 -/
mutual
def ravelinref6_Newest.l0 : Nat → List (S29) → ByteArray → Int → Int → Option (ByteArray × Int × Bool × ByteArray × Bool)
  | 0, _, _, _, _ => none
  | k + 1, x0, x1, x2, x8 => if x8 < (x0.length : Int) then ((ravelinref6_Sorted.f k x0).bind fun t189 => (ravelinref6_Newest.j1 k x0 x1 x2 x8 t189)) else (ravelinref6_Newest.j1 k x0 x1 x2 x8 false)
def ravelinref6_Newest.j1 : Nat → List (S29) → ByteArray → Int → Int → Bool → Option (ByteArray × Int × Bool × ByteArray × Bool)
  | 0, _, _, _, _, _ => none
  | k + 1, x0, x1, x2, x8, x16 => if x16 = true then (if 0 ≤ x8 then (if x8 < (x0.length : Int) then (if ((rd_T29 x0 x8).f0).toList = x1.toList then (if ((rd_T29 x0 x8).f1) ≤ x2 then (some ((rd_T29 x0 x8).f0, (rd_T29 x0 x8).f1, (rd_T29 x0 x8).f2, (rd_T29 x0 x8).f3, true)) else (ravelinref6_Newest.l0 k x0 x1 x2 (wrap64 (x8 + 1)))) else (ravelinref6_Newest.l0 k x0 x1 x2 (wrap64 (x8 + 1)))) else (none)) else (none)) else (some ((⟨#[]⟩ : ByteArray), 0, false, (⟨#[]⟩ : ByteArray), false))
end
def ravelinref6_Newest.f (k : Nat) (l0 : List (S29)) (a1 : ByteArray) (a2 : Int) : Option (ByteArray × Int × Bool × ByteArray × Bool) := ravelinref6_Newest.l0 k l0 a1 a2 0
theorem ravelinref6_Newest.mono_l : ∀ k, (∀ y0 y1 y2 y3, LeO (ravelinref6_Newest.l0 k y0 y1 y2 y3) (ravelinref6_Newest.l0 (k + 1) y0 y1 y2 y3)) ∧ (∀ y0 y1 y2 y3 y4, LeO (ravelinref6_Newest.j1 k y0 y1 y2 y3 y4) (ravelinref6_Newest.j1 (k + 1) y0 y1 y2 y3 y4))
  | 0 => ⟨fun _ _ _ _ r h => by simp [ravelinref6_Newest.l0] at h, fun _ _ _ _ _ r h => by simp [ravelinref6_Newest.j1] at h⟩
  | k + 1 => by
    obtain ⟨ih0, ih1⟩ := ravelinref6_Newest.mono_l k
    refine ⟨?_, ?_⟩
    all_goals
      intros
      first | unfold ravelinref6_Newest.l0 | unfold ravelinref6_Newest.j1
      repeat' first
      | (with_reducible exact ih0 _ _ _ _)
      | (with_reducible exact ih1 _ _ _ _ _)
      | (with_reducible exact ravelinref6_Sorted.mono _ _)
      | (with_reducible exact LeO.refl _)
      | (with_reducible exact LeO.none _)
      | (with_reducible refine LeO.ite ?_ ?_)
      | (with_reducible refine LeO.bind ?_ (fun _ => ?_))
      | exact ih0 _ _ _ _
      | exact ih1 _ _ _ _ _
      | exact ravelinref6_Sorted.mono _ _
      | exact LeO.none _
      | refine LeO.ite ?_ ?_
      | refine LeO.bind ?_ (fun _ => ?_)
theorem ravelinref6_Newest.mono : ∀ a0 a1 a2 k, LeO (ravelinref6_Newest.f k a0 a1 a2) (ravelinref6_Newest.f (k + 1) a0 a1 a2) := by
  intro a0 a1 a2 k
  obtain ⟨ih0, ih1⟩ := ravelinref6_Newest.mono_l k
  unfold ravelinref6_Newest.f
  repeat' first
      | (with_reducible exact ih0 _ _ _ _)
      | (with_reducible exact ih1 _ _ _ _ _)
      | (with_reducible exact ravelinref6_Sorted.mono _ _)
      | (with_reducible exact LeO.refl _)
      | (with_reducible exact LeO.none _)
      | (with_reducible refine LeO.ite ?_ ?_)
      | (with_reducible refine LeO.bind ?_ (fun _ => ?_))
      | exact ih0 _ _ _ _
      | exact ih1 _ _ _ _ _
      | exact ravelinref6_Sorted.mono _ _
      | exact LeO.none _
      | refine LeO.ite ?_ ?_
      | refine LeO.bind ?_ (fun _ => ?_)
set_option maxHeartbeats 8000000 in
set_option maxRecDepth 100000 in
theorem ravelinref6_Newest.calls (k : Nat) (A0 : Option Addr) (c0 : Nat) (l0 : List (S29)) (a1 : ByteArray) (a2 : Int) (r1 : ByteArray) (r2 : Int) (r3 : Bool) (r4 : ByteArray) (r5 : Bool) (w : World) (hr0 : Kd.C k29 w A0 l0.length l0) (hc0 : l0.length ≤ c0) (h : ravelinref6_Newest.f k l0 a1 a2 = some (r1, r2, r3, r4, r5)) :
    Calls Try.prog 15 #[.slice A0 l0.length c0, .string a1, .int .i64 a2] w fun e w' => e = .returned (.tuple #[.agg #[.string r1, .int .i64 r2, .bool r3, .string r4], .bool r5]) ∧ Below w.heap.size w w' := by
  have hu29 := Try.underlying29
  have HR0 := Aside0.mk hr0
  have HC0 := Aside0.mk hc0
  clear hr0 hc0
  have HB := Aside0.mk (Below.refl w.heap.size w)
  have H : (ravelinref6_Newest.l0 k l0 a1 a2 0) = some (r1, r2, r3, r4, r5) := h
  clear h
  have H' := Aside0.mk H
  clear H
  go_enter Try.func15, Try.ntmps15
  go_wp2_with (first | ((with_reducible refine gate_dst (N := 6) rfl ?_); refine box_event ?hg (N := 6) ?hd (cs := #[.string (⟨#[]⟩ : ByteArray), .int .i64 0, .bool false, .string (⟨#[]⟩ : ByteArray)]) (t := 29) ?hr ?_; (case hd => rfl); (case hg => rfl); (case hr => first | (go_simp; done) | (go_simp; rfl)); intro gb188 hg w4 hbox hb; have n0_ := bs_ HB hb; have n1_ := Aside0.mk (hbox); have n2_ := gz_ HB hg; have n3_ := gz_ HB hg; clear HB; have HB := n0_; have BK188 := n1_; have GW188 := n2_; have GE188 := n3_; clear n0_ n1_ n2_ n3_; clear hb hbox hg))
  go_loopg [8] k (fun kq v8 w' => ∃ (x8_1 : Int) (x189000_1 : ByteArray) (x189001_1 : Int) (x189002_1 : Bool) (x189003_1 : ByteArray), v8 = .int .i64 x8_1 ∧ Aside0 (ravelinref6_Newest.l0 kq l0 a1 a2 x8_1 = some (r1, r2, r3, r4, r5)) ∧ Aside0 (kq ≤ k) ∧ Aside0 (w'.heap[gb188]? = some (.cells #[.string x189000_1, .int .i64 x189001_1, .bool x189002_1, .string x189003_1] 29 (0, 0))) ∧ Aside0 (Below w.heap.size w w'))
  case atStart => exact ⟨(0), ((⟨#[]⟩ : ByteArray)), (0), (false), ((⟨#[]⟩ : ByteArray)), (by first | rfl | (simp; done) | (simp [*]; done)), H', ⟨Nat.le_refl _⟩, ⟨gb_ BK188⟩, ⟨gwl_ [gb188] HB ⟨GE188, ⟨⟩⟩⟩⟩
  clear H'
  try clear c1
  try clear p2
  obtain ⟨x8_1, x189000_1, x189001_1, x189002_1, x189003_1, rfl, HA, HK1, BK188, HB⟩ := hrel
  cases gk with
  | zero => exact absurd HA.out (by simp [ravelinref6_Newest.l0])
  | succ k1 => ?_
  have H := HA.out
  clear HA
  simp only [ravelinref6_Newest.l0] at H
  have HC5 := Aside0.mk H
  clear H
  go_upto_region 2 with (fail)
  go_cut [16] (fun v16 wc => ∃ (kq : Nat) (x16_4 : Bool), v16 = .bool x16_4 ∧ Aside0 (ravelinref6_Newest.j1 kq l0 a1 a2 x8_1 x16_4 = some (r1, r2, r3, r4, r5)) ∧ Aside0 (kq ≤ k1) ∧ Aside0 (wc.heap[gb188]? = some (.cells #[.string x189000_1, .int .i64 x189001_1, .bool x189002_1, .string x189003_1] 29 (0, 0))) ∧ Aside0 (Below w.heap.size w wc))
  case first =>
    have H := HC5.out
    clear HC5
    by_cases c6 : x8_1 < (l0.length : Int)
    rotate_left
    · rw [if_neg c6] at H
      have c6b0 : decide (x8_1 < (l0.length : Int)) = false := decide_eq_false c6
      clear c6
      (first | rw [c6b0] | (simp only [i64_w, i32_w]; rw [c6b0]) | skip)
      have H' := Aside0.mk H
      clear H
      go_wp2
      go_meet
      case rel => exact ⟨_, (false), (by first | rfl | (simp; done) | (simp [*]; done)), H', ⟨by have := HK1.out; first | omega | exact Nat.le_refl _⟩, ⟨gb_ BK188⟩, ⟨gwl_ [gb188] HB ⟨GE188, ⟨⟩⟩⟩⟩
    rw [if_pos c6] at H
    have c6b0 : decide (x8_1 < (l0.length : Int)) = true := decide_eq_true c6
    clear c6
    (first | rw [c6b0] | (simp only [i64_w, i32_w]; rw [c6b0]) | skip)
    replace H := Option.bind_eq_some_iff.mp H
    obtain ⟨t189, A70, H⟩ := H
    try dsimp only at H
    have A7 := Aside0.mk A70
    clear A70
    have H' := Aside0.mk H
    clear H
    go_wp2_with (first | (go_at_call 28; (with_reducible refine (ravelinref6_Sorted.calls k1 _ _ l0 t189 _ ?side1 ?side2 A7.out).mono ?_); (case side1 => exact cb_ HR0 HB); (case side2 => exact HC0.out); rintro e w8 ⟨rfl, hb⟩; have n0_ := bb_ BK188 hb; have n1_ := bl_ [gb188] HB ⟨GE188, ⟨⟩⟩ hb; clear BK188; clear HB; have BK188 := n0_; have HB := n1_; clear n0_ n1_; (try clear hb); (try clear hb2); (try clear hk); (try clear hi)))
    go_meet
    case rel => exact ⟨_, (t189), (by first | rfl | (simp; done) | (simp [*]; done)), H', ⟨by have := HK1.out; first | omega | exact Nat.le_refl _⟩, ⟨gb_ BK188⟩, ⟨gwl_ [gb188] HB ⟨GE188, ⟨⟩⟩⟩⟩
  clear HC5
  try clear c1
  try clear p2
  try clear c6
  try clear c6b0
  try clear p2
  obtain ⟨kq, x16_4, rfl, HA, HJ4, BK188, HB⟩ := hcut
  cases kq with
  | zero => exact absurd HA.out (by simp [ravelinref6_Newest.j1])
  | succ kj4 => ?_
  have H := HA.out
  clear HA
  simp only [ravelinref6_Newest.j1] at H
  by_cases c9 : x16_4 = true
  rotate_left
  · replace c9 := Bool.eq_false_iff.mpr c9
    subst c9
    have H1 : (some ((⟨#[]⟩ : ByteArray), 0, false, (⟨#[]⟩ : ByteArray), false)) = some (r1, r2, r3, r4, r5) := by rw [if_neg (show ¬ (false = true) by decide)] at H; exact H
    clear H
    have H := H1
    clear H1
    simp only [Option.some.injEq, Prod.mk.injEq] at H
    obtain ⟨rfl, rfl, rfl, rfl, rfl⟩ := H
    have hcz15_0 := bc0 BK188
    have hcz15_1 := bc1 BK188
    have hcz15_2 := bc2 BK188
    have hcz15_3 := bc3 BK188
    have hfz15_0 := bf_ BK188 0
    have hfz15_1 := bf_ BK188 1
    have hfz15_2 := bf_ BK188 2
    have hfz15_3 := bf_ BK188 3
    go_wp2
    refine bodyPost_ret (results_ct rfl _ _ gb188 29 #[.string (⟨#[]⟩ : ByteArray), .int .i64 0, .bool false, .string (⟨#[]⟩ : ByteArray)] (0, 0) _ rfl (by (with_reducible repeat (first | refine blk_drewN ?_ _ | refine blk_drew ?_ | refine blk_alloc ?_ _)); refine blk_put (cs := #[.string (⟨#[]⟩ : ByteArray), .int .i64 0, .bool false, .string x189003_1]) ?_ 3 _ rfl; refine blk_put (cs := #[.string (⟨#[]⟩ : ByteArray), .int .i64 0, .bool x189002_1, .string x189003_1]) ?_ 2 _ rfl; refine blk_put (cs := #[.string (⟨#[]⟩ : ByteArray), .int .i64 x189001_1, .bool x189002_1, .string x189003_1]) ?_ 1 _ rfl; refine blk_put (cs := #[.string x189000_1, .int .i64 x189001_1, .bool x189002_1, .string x189003_1]) ?_ 0 _ rfl; exact gb_ BK188) Try.underlying29 rfl (by kernel_rfl)) rfl ?_
    exact ⟨by first | rfl | (simp [*, errW_none, errW_some] <;> rfl), gwl_ [gb188] HB ⟨GE188, ⟨⟩⟩⟩
  subst c9
  have H1 : (if 0 ≤ x8_1 then (if x8_1 < (l0.length : Int) then (if ((rd_T29 l0 x8_1).f0).toList = a1.toList then (if ((rd_T29 l0 x8_1).f1) ≤ a2 then (some ((rd_T29 l0 x8_1).f0, (rd_T29 l0 x8_1).f1, (rd_T29 l0 x8_1).f2, (rd_T29 l0 x8_1).f3, true)) else (ravelinref6_Newest.l0 kj4 l0 a1 a2 (wrap64 (x8_1 + 1)))) else (ravelinref6_Newest.l0 kj4 l0 a1 a2 (wrap64 (x8_1 + 1)))) else (none)) else (none)) = some (r1, r2, r3, r4, r5) := by rw [if_pos rfl] at H; exact H
  clear H
  have H := H1
  clear H1
  by_cases c10 : 0 ≤ x8_1
  rotate_left
  · rw [if_neg c10] at H
    exact absurd H (by simp)
  rw [if_pos c10] at H
  have c10b0 : decide (0 ≤ x8_1) = true := decide_eq_true c10
  clear c10
  by_cases c11 : x8_1 < (l0.length : Int)
  rotate_left
  · rw [if_neg c11] at H
    exact absurd H (by simp)
  rw [if_pos c11] at H
  have c11b0 : decide (x8_1 < (l0.length : Int)) = true := decide_eq_true c11
  clear c11
  by_cases c12 : ((rd_T29 l0 x8_1).f0).toList = a1.toList
  rotate_left
  · rw [if_neg c12] at H
    have c12b0 : (((rd_T29 l0 x8_1).f0).toList == a1.toList) = false := beq_eq_false_iff_ne.mpr c12
    have c12b1 : (((rd_T29 l0 x8_1).f0).toList != a1.toList) = true := bne_iff_ne.mpr c12
    have H' := Aside0.mk H
    clear H
    have p190 : 0 ≤ (x8_1 : Int) := of_decide_eq_true (by assumption)
    have q190 : x8_1 < (l0.length : Int) := of_decide_eq_true (by assumption)
    obtain ⟨ad190, e190, hx190_0, hx190_1, hx190_2, hx190_3⟩ := at_T29 HR0.out x8_1 p190 q190
    cases e190
    replace hx190_0 := hc_ HB hx190_0
    replace hx190_1 := hc_ HB hx190_1
    replace hx190_2 := hc_ HB hx190_2
    replace hx190_3 := hc_ HB hx190_3
    replace p190 := eq_true p190
    replace q190 := eq_true q190
    go_wp2
    go_roundg kj4
    case measure => have := HK1.out; have := HJ4.out; omega
    case rel => exact ⟨(wrap64 (x8_1 + 1)), (x189000_1), (x189001_1), (x189002_1), (x189003_1), (by first | rfl | (simp; done) | (simp [*]; done)), H', ⟨by have := HK1.out; have := HJ4.out; omega⟩, ⟨gb_ BK188⟩, ⟨gwl_ [gb188] HB ⟨GE188, ⟨⟩⟩⟩⟩
  rw [if_pos c12] at H
  have c12b0 : (((rd_T29 l0 x8_1).f0).toList == a1.toList) = true := beq_iff_eq.mpr c12
  have c12b1 : (((rd_T29 l0 x8_1).f0).toList != a1.toList) = false := bne_eq_false_iff_eq.mpr c12
  clear c12
  by_cases c13 : ((rd_T29 l0 x8_1).f1) ≤ a2
  rotate_left
  · rw [if_neg c13] at H
    have c13b0 : decide (((rd_T29 l0 x8_1).f1) ≤ a2) = false := decide_eq_false c13
    clear c13
    have H' := Aside0.mk H
    clear H
    have p190 : 0 ≤ (x8_1 : Int) := of_decide_eq_true (by assumption)
    have q190 : x8_1 < (l0.length : Int) := of_decide_eq_true (by assumption)
    obtain ⟨ad190, e190, hx190_0, hx190_1, hx190_2, hx190_3⟩ := at_T29 HR0.out x8_1 p190 q190
    cases e190
    replace hx190_0 := hc_ HB hx190_0
    replace hx190_1 := hc_ HB hx190_1
    replace hx190_2 := hc_ HB hx190_2
    replace hx190_3 := hc_ HB hx190_3
    replace p190 := eq_true p190
    replace q190 := eq_true q190
    have p191 : 0 ≤ (x8_1 : Int) := of_decide_eq_true (by assumption)
    have q191 : x8_1 < (l0.length : Int) := of_decide_eq_true (by assumption)
    obtain ⟨ad191, e191, hx191_0, hx191_1, hx191_2, hx191_3⟩ := at_T29 HR0.out x8_1 p191 q191
    obtain rfl : ad190 = ad191 := (by injection e191)
    replace hx191_0 := hc_ HB hx191_0
    replace hx191_1 := hc_ HB hx191_1
    replace hx191_2 := hc_ HB hx191_2
    replace hx191_3 := hc_ HB hx191_3
    replace p191 := eq_true p191
    replace q191 := eq_true q191
    go_wp2
    go_roundg kj4
    case measure => have := HK1.out; have := HJ4.out; omega
    case rel => exact ⟨(wrap64 (x8_1 + 1)), (x189000_1), (x189001_1), (x189002_1), (x189003_1), (by first | rfl | (simp; done) | (simp [*]; done)), H', ⟨by have := HK1.out; have := HJ4.out; omega⟩, ⟨gb_ BK188⟩, ⟨gwl_ [gb188] HB ⟨GE188, ⟨⟩⟩⟩⟩
  rw [if_pos c13] at H
  have c13b0 : decide (((rd_T29 l0 x8_1).f1) ≤ a2) = true := decide_eq_true c13
  clear c13
  simp only [Option.some.injEq, Prod.mk.injEq] at H
  obtain ⟨rfl, rfl, rfl, rfl, rfl⟩ := H
  have p190 : 0 ≤ (x8_1 : Int) := of_decide_eq_true (by assumption)
  have q190 : x8_1 < (l0.length : Int) := of_decide_eq_true (by assumption)
  obtain ⟨ad190, e190, hx190_0, hx190_1, hx190_2, hx190_3⟩ := at_T29 HR0.out x8_1 p190 q190
  cases e190
  replace hx190_0 := hc_ HB hx190_0
  replace hx190_1 := hc_ HB hx190_1
  replace hx190_2 := hc_ HB hx190_2
  replace hx190_3 := hc_ HB hx190_3
  replace p190 := eq_true p190
  replace q190 := eq_true q190
  have p191 : 0 ≤ (x8_1 : Int) := of_decide_eq_true (by assumption)
  have q191 : x8_1 < (l0.length : Int) := of_decide_eq_true (by assumption)
  obtain ⟨ad191, e191, hx191_0, hx191_1, hx191_2, hx191_3⟩ := at_T29 HR0.out x8_1 p191 q191
  obtain rfl : ad190 = ad191 := (by injection e191)
  replace hx191_0 := hc_ HB hx191_0
  replace hx191_1 := hc_ HB hx191_1
  replace hx191_2 := hc_ HB hx191_2
  replace hx191_3 := hc_ HB hx191_3
  replace p191 := eq_true p191
  replace q191 := eq_true q191
  have p192 : 0 ≤ (x8_1 : Int) := of_decide_eq_true (by assumption)
  have q192 : x8_1 < (l0.length : Int) := of_decide_eq_true (by assumption)
  obtain ⟨ad192, e192, hx192_0, hx192_1, hx192_2, hx192_3⟩ := at_T29 HR0.out x8_1 p192 q192
  obtain rfl : ad190 = ad192 := (by injection e192)
  replace hx192_0 := hc_ HB hx192_0
  replace hx192_1 := hc_ HB hx192_1
  replace hx192_2 := hc_ HB hx192_2
  replace hx192_3 := hc_ HB hx192_3
  replace p192 := eq_true p192
  replace q192 := eq_true q192
  have hcz14_0 := bc0 BK188
  have hcz14_1 := bc1 BK188
  have hcz14_2 := bc2 BK188
  have hcz14_3 := bc3 BK188
  have hfz14_0 := bf_ BK188 0
  have hfz14_1 := bf_ BK188 1
  have hfz14_2 := bf_ BK188 2
  have hfz14_3 := bf_ BK188 3
  go_wp2
  refine bodyPost_ret (results_ct rfl _ _ gb188 29 #[.string ((rd_T29 l0 x8_1).f0), .int .i64 ((rd_T29 l0 x8_1).f1), .bool ((rd_T29 l0 x8_1).f2), .string ((rd_T29 l0 x8_1).f3)] (0, 0) _ rfl (by (with_reducible repeat (first | refine blk_drewN ?_ _ | refine blk_drew ?_ | refine blk_alloc ?_ _)); refine blk_put (cs := #[.string ((rd_T29 l0 x8_1).f0), .int .i64 ((rd_T29 l0 x8_1).f1), .bool ((rd_T29 l0 x8_1).f2), .string x189003_1]) ?_ 3 _ rfl; refine blk_put (cs := #[.string ((rd_T29 l0 x8_1).f0), .int .i64 ((rd_T29 l0 x8_1).f1), .bool x189002_1, .string x189003_1]) ?_ 2 _ rfl; refine blk_put (cs := #[.string ((rd_T29 l0 x8_1).f0), .int .i64 x189001_1, .bool x189002_1, .string x189003_1]) ?_ 1 _ rfl; refine blk_put (cs := #[.string x189000_1, .int .i64 x189001_1, .bool x189002_1, .string x189003_1]) ?_ 0 _ rfl; exact gb_ BK188) Try.underlying29 rfl (by kernel_rfl)) rfl ?_
  exact ⟨by first | rfl | (simp [*, errW_none, errW_some] <;> rfl), gwl_ [gb188] HB ⟨GE188, ⟨⟩⟩⟩

/-! ### ravelinref6_Same: function 16 -/
def ravelinref6_Same.l0 : Nat → List (S29) → List (S29) → Int → Option (Bool)
  | 0, _, _, _ => none
  | k + 1, x0, x1, x5 => if x5 < (x0.length : Int) then (if 0 ≤ x5 then (if x5 < (x1.length : Int) then (if (!((((rd_T29 x0 x5).f0).toList) == (((rd_T29 x1 x5).f0).toList)) || (!(((rd_T29 x0 x5).f1) == ((rd_T29 x1 x5).f1)) || (!(((rd_T29 x0 x5).f2) == ((rd_T29 x1 x5).f2)) || (!((((rd_T29 x0 x5).f3).toList) == (((rd_T29 x1 x5).f3).toList)))))) = true then (some false) else (ravelinref6_Same.l0 k x0 x1 (wrap64 (x5 + 1)))) else (none)) else (none)) else (some true)
def ravelinref6_Same.f (k : Nat) (l0 : List (S29)) (l1 : List (S29)) : Option (Bool) := if (l0.length : Int) = (l1.length : Int) then (ravelinref6_Same.l0 k l0 l1 0) else (some false)
theorem ravelinref6_Same.mono_l : ∀ k, (∀ y0 y1 y2, LeO (ravelinref6_Same.l0 k y0 y1 y2) (ravelinref6_Same.l0 (k + 1) y0 y1 y2))
  | 0 => fun _ _ _ r h => by simp [ravelinref6_Same.l0] at h
  | k + 1 => by
    have ih0 := ravelinref6_Same.mono_l k
    · intro y0 y1 y2
      unfold ravelinref6_Same.l0
      repeat' first
      | (with_reducible exact ih0 _ _ _)
      | (with_reducible exact LeO.refl _)
      | (with_reducible exact LeO.none _)
      | (with_reducible refine LeO.ite ?_ ?_)
      | (with_reducible refine LeO.bind ?_ (fun _ => ?_))
      | exact ih0 _ _ _
      | exact LeO.none _
      | refine LeO.ite ?_ ?_
      | refine LeO.bind ?_ (fun _ => ?_)
theorem ravelinref6_Same.mono : ∀ a0 a1 k, LeO (ravelinref6_Same.f k a0 a1) (ravelinref6_Same.f (k + 1) a0 a1) := by
  intro a0 a1 k
  have ih0 := ravelinref6_Same.mono_l k
  unfold ravelinref6_Same.f
  repeat' first
      | (with_reducible exact ih0 _ _ _)
      | (with_reducible exact LeO.refl _)
      | (with_reducible exact LeO.none _)
      | (with_reducible refine LeO.ite ?_ ?_)
      | (with_reducible refine LeO.bind ?_ (fun _ => ?_))
      | exact ih0 _ _ _
      | exact LeO.none _
      | refine LeO.ite ?_ ?_
      | refine LeO.bind ?_ (fun _ => ?_)
set_option maxHeartbeats 8000000 in
set_option maxRecDepth 100000 in
theorem ravelinref6_Same.calls (k : Nat) (A0 : Option Addr) (c0 : Nat) (l0 : List (S29)) (A1 : Option Addr) (c1 : Nat) (l1 : List (S29)) (r : Bool) (w : World) (hr0 : Kd.C k29 w A0 l0.length l0) (hc0 : l0.length ≤ c0) (hr1 : Kd.C k29 w A1 l1.length l1) (hc1 : l1.length ≤ c1) (h : ravelinref6_Same.f k l0 l1 = some r) :
    Calls Try.prog 16 #[.slice A0 l0.length c0, .slice A1 l1.length c1] w fun e w' => e = .returned (.bool r) ∧ Drawn0 w w' := by
  have hu29 := Try.underlying29
  have HR0 := Aside0.mk hr0
  have HC0 := Aside0.mk hc0
  clear hr0 hc0
  have HR1 := Aside0.mk hr1
  have HC1 := Aside0.mk hc1
  clear hr1 hc1
  have H : (if (l0.length : Int) = (l1.length : Int) then (ravelinref6_Same.l0 k l0 l1 0) else (some false)) = some r := h
  clear h
  by_cases c3 : (l0.length : Int) = (l1.length : Int)
  rotate_left
  · rw [if_neg c3] at H
    have c3b0 : ((l0.length : Int) == (l1.length : Int)) = false := beq_eq_false_iff_ne.mpr c3
    have c3b1 : ((l0.length : Int) != (l1.length : Int)) = true := bne_iff_ne.mpr c3
    have c3b2 : (l0.length == l1.length) = false := by first | simpa using c3 | (simp at c3 ⊢; omega)
    obtain rfl := Option.some.inj H
    go_enter Try.func16, Try.ntmps16
    go_wp2
    repeat (go_quiet (fail); try go_wp2)
    go_ret
    exact ⟨by first | rfl | (simp; done) | (simp [*]; done), by repeat (first | exact Drawn0.refl _ | apply Drawn0.step)⟩
  rw [if_pos c3] at H
  have c3b0 : ((l0.length : Int) == (l1.length : Int)) = true := beq_iff_eq.mpr c3
  have c3b1 : ((l0.length : Int) != (l1.length : Int)) = false := bne_eq_false_iff_eq.mpr c3
  have c3b2 : (l0.length == l1.length) = true := by first | simpa using c3 | (simp at c3 ⊢; omega)
  clear c3
  have H' := Aside0.mk H
  clear H
  go_enter Try.func16, Try.ntmps16
  go_wp2
  repeat (go_quiet (fail); try go_wp2)
  go_loopg [5] k (fun kq v5 w' => ∃ (x5_1 : Int), v5 = .int .i64 x5_1 ∧ Aside0 (ravelinref6_Same.l0 kq l0 l1 x5_1 = some r) ∧ Aside0 (kq ≤ k) ∧ Drawn0 w w')
  case atStart => exact ⟨(0), (by first | rfl | (simp; done) | (simp [*]; done)), H', ⟨Nat.le_refl _⟩, by repeat (first | exact Drawn0.refl _ | apply Drawn0.step)⟩
  clear H'
  try clear c1
  try clear p2
  try clear c3
  try clear c3b0
  try clear c3b1
  try clear c3b2
  obtain ⟨x5_1, rfl, HA, HK1, ⟨m1, rfl⟩⟩ := hrel
  cases gk with
  | zero => exact absurd HA.out (by simp [ravelinref6_Same.l0])
  | succ k1 => ?_
  have H := HA.out
  clear HA
  simp only [ravelinref6_Same.l0] at H
  by_cases c4 : x5_1 < (l0.length : Int)
  rotate_left
  · rw [if_neg c4] at H
    have c4b0 : decide (x5_1 < (l0.length : Int)) = false := decide_eq_false c4
    clear c4
    obtain rfl := Option.some.inj H
    go_wp2
    repeat (go_quiet (fail); try go_wp2)
    go_ret
    exact ⟨by first | rfl | (simp; done) | (simp [*]; done), by repeat (first | exact Drawn0.refl _ | apply Drawn0.step)⟩
  rw [if_pos c4] at H
  have c4b0 : decide (x5_1 < (l0.length : Int)) = true := decide_eq_true c4
  clear c4
  by_cases c5 : 0 ≤ x5_1
  rotate_left
  · rw [if_neg c5] at H
    exact absurd H (by simp)
  rw [if_pos c5] at H
  have c5b0 : decide (0 ≤ x5_1) = true := decide_eq_true c5
  clear c5
  by_cases c6 : x5_1 < (l1.length : Int)
  rotate_left
  · rw [if_neg c6] at H
    exact absurd H (by simp)
  rw [if_pos c6] at H
  have c6b0 : decide (x5_1 < (l1.length : Int)) = true := decide_eq_true c6
  clear c6
  by_cases c7 : (!((((rd_T29 l0 x5_1).f0).toList) == (((rd_T29 l1 x5_1).f0).toList)) || (!(((rd_T29 l0 x5_1).f1) == ((rd_T29 l1 x5_1).f1)) || (!(((rd_T29 l0 x5_1).f2) == ((rd_T29 l1 x5_1).f2)) || (!((((rd_T29 l0 x5_1).f3).toList) == (((rd_T29 l1 x5_1).f3).toList)))))) = true
  · rw [if_pos c7] at H
    have c7b0 : (!((((rd_T29 l0 x5_1).f0).toList) == (((rd_T29 l1 x5_1).f0).toList)) || (!(((rd_T29 l0 x5_1).f1) == ((rd_T29 l1 x5_1).f1)) || (!(((rd_T29 l0 x5_1).f2) == ((rd_T29 l1 x5_1).f2)) || (!((((rd_T29 l0 x5_1).f3).toList) == (((rd_T29 l1 x5_1).f3).toList)))))) = true := c7
    clear c7
    obtain rfl := Option.some.inj H
    have p193 : 0 ≤ (x5_1 : Int) := of_decide_eq_true (by assumption)
    have q193 : x5_1 < (l0.length : Int) := of_decide_eq_true (by assumption)
    obtain ⟨ad193, e193, hx193_0, hx193_1, hx193_2, hx193_3⟩ := at_T29 HR0.out x5_1 p193 q193
    cases e193
    replace p193 := eq_true p193
    replace q193 := eq_true q193
    have p194 : 0 ≤ (x5_1 : Int) := of_decide_eq_true (by assumption)
    have q194 : x5_1 < (l1.length : Int) := of_decide_eq_true (by assumption)
    obtain ⟨ad194, e194, hx194_0, hx194_1, hx194_2, hx194_3⟩ := at_T29 HR1.out x5_1 p194 q194
    cases e194
    replace p194 := eq_true p194
    replace q194 := eq_true q194
    go_wp2
    repeat (go_quiet (fail); try go_wp2)
    go_ret
    exact ⟨by first | rfl | (simp; done) | (simp [*]; done), by repeat (first | exact Drawn0.refl _ | apply Drawn0.step)⟩
  rw [if_neg c7] at H
  have c7b0 : (!((((rd_T29 l0 x5_1).f0).toList) == (((rd_T29 l1 x5_1).f0).toList)) || (!(((rd_T29 l0 x5_1).f1) == ((rd_T29 l1 x5_1).f1)) || (!(((rd_T29 l0 x5_1).f2) == ((rd_T29 l1 x5_1).f2)) || (!((((rd_T29 l0 x5_1).f3).toList) == (((rd_T29 l1 x5_1).f3).toList)))))) = false := by simpa using c7
  clear c7
  have H' := Aside0.mk H
  clear H
  have p193 : 0 ≤ (x5_1 : Int) := of_decide_eq_true (by assumption)
  have q193 : x5_1 < (l0.length : Int) := of_decide_eq_true (by assumption)
  obtain ⟨ad193, e193, hx193_0, hx193_1, hx193_2, hx193_3⟩ := at_T29 HR0.out x5_1 p193 q193
  cases e193
  replace p193 := eq_true p193
  replace q193 := eq_true q193
  have p194 : 0 ≤ (x5_1 : Int) := of_decide_eq_true (by assumption)
  have q194 : x5_1 < (l1.length : Int) := of_decide_eq_true (by assumption)
  obtain ⟨ad194, e194, hx194_0, hx194_1, hx194_2, hx194_3⟩ := at_T29 HR1.out x5_1 p194 q194
  cases e194
  replace p194 := eq_true p194
  replace q194 := eq_true q194
  go_wp2
  repeat (go_quiet (fail); try go_wp2)
  go_roundg k1
  case measure => have := HK1.out; omega
  case rel => exact ⟨(wrap64 (x5_1 + 1)), (by first | rfl | (simp; done) | (simp [*]; done)), H', ⟨by have := HK1.out; omega⟩, by repeat (first | exact Drawn0.refl _ | apply Drawn0.step)⟩

end Go.Proofs.Ytdkdnfgpgedglaa.P
