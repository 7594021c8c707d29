-- Printed by a changed copy of the kit's printer (wip/tools/ext.py); labels and more
import Derived.Test.YtjcpdbekdimceaaM0
import Derived.Test.YtjcpdbekdimceaaM1
namespace Go.Proofs.Ytjcpdbekdimceaa.P
open Go.RowKit Go.Proofs.YtjcpdbekdimceaaW.PrintWords Go.Proofs.YtjcpdbekdimceaaW.PrintLast Go.Proofs.YtjcpdbekdimceaaW.PrintMore
attribute [local go_sem] max2_int min2_int max_two min_two max_three min_three max_four min_four   -- for this text's walks alone
attribute [local go_sem high] string_leq string_geq string_gtr
set_option linter.unusedVariables false
set_option linter.unusedSimpArgs false

/-! ### merge_Rows: function 11 -/
-- by hand
mutual
def merge_Rows.l0 : Nat → List (List (S39)) → List (List (S39)) → Int → Int → Option ((List (S39)) × Int)
  | 0, _, _, _, _ => none
  | k + 1, x4, x15, x16, x17 => if x17 < x16 then (if 0 ≤ x17 then (if x17 < (x15.length : Int) then ((entry_Sorted.f k (rd_L4 x15 x17)).bind fun t123 => (if t123 = true then (merge_Rows.l0 k x4 x15 x16 (wrap64 (x17 + 1))) else (some (([] : List (S39)), 16)))) else (none)) else (none)) else (merge_Rows.l1 k x4 ([] : List (S39)))
def merge_Rows.l1 : Nat → List (List (S39)) → List (S39) → Option ((List (S39)) × Int)
  | 0, _, _ => none
  | k + 1, x4, x7 => merge_Rows.l2 k x4 x7 (-1) x4 (x4.length : Int) 0
def merge_Rows.l2 : Nat → List (List (S39)) → List (S39) → Int → List (List (S39)) → Int → Int → Option ((List (S39)) × Int)
  | 0, _, _, _, _, _, _ => none
  | k + 1, x4, x7, x8, x25, x26, x27 => if x27 < x26 then (if 0 ≤ x27 then (if x27 < (x25.length : Int) then (if ((rd_L4 x25 x27).length : Int) = 0 then (merge_Rows.l2 k x4 x7 x8 x25 x26 (wrap64 (x27 + 1))) else (if x8 < 0 then (merge_Rows.l2 k x4 x7 x27 x25 x26 (wrap64 (x27 + 1))) else (if 0 < ((rd_L4 x25 x27).length : Int) then (if 0 ≤ x8 then (if x8 < (x4.length : Int) then (if 0 < ((rd_L4 x4 x8).length : Int) then ((entry_Less.f k ((rd_T39 (rd_L4 x25 x27) 0).f0) ((rd_T39 (rd_L4 x25 x27) 0).f1) ((rd_T39 (rd_L4 x25 x27) 0).f2) ((rd_T39 (rd_L4 x25 x27) 0).f3) ((rd_T39 (rd_L4 x4 x8) 0).f0) ((rd_T39 (rd_L4 x4 x8) 0).f1) ((rd_T39 (rd_L4 x4 x8) 0).f2) ((rd_T39 (rd_L4 x4 x8) 0).f3)).bind fun t128 => (if t128 = true then (merge_Rows.l2 k x4 x7 x27 x25 x26 (wrap64 (x27 + 1))) else (merge_Rows.l2 k x4 x7 x8 x25 x26 (wrap64 (x27 + 1))))) else (none)) else (none)) else (none)) else (none)))) else (none)) else (none)) else (if x8 < 0 then (some (x7, 0)) else (if 0 ≤ x8 then (if x8 < (x4.length : Int) then (if 0 < ((rd_L4 x4 x8).length : Int) then (if 1 ≤ ((rd_L4 x4 x8).length : Int) then ((some (x4.set (x8 : Int).toNat ((rd_L4 x4 x8).drop 1) : List (List (S39)))).bind fun y137 => (if (x7.length : Int) = 0 then (if x7.length < 2932031007402 then (merge_Rows.l1 k y137 (x7 ++ [(⟨(rd_T39 (rd_L4 x4 x8) 0).f0, (rd_T39 (rd_L4 x4 x8) 0).f1, (rd_T39 (rd_L4 x4 x8) 0).f2, (rd_T39 (rd_L4 x4 x8) 0).f3⟩ : S39)])) else (none)) else (if 0 ≤ (wrap64 ((x7.length : Int) - 1)) then (if (wrap64 ((x7.length : Int) - 1)) < (x7.length : Int) then ((entry_Compare.f k ((rd_T39 x7 (wrap64 ((x7.length : Int) - 1))).f0) ((rd_T39 x7 (wrap64 ((x7.length : Int) - 1))).f1) ((rd_T39 x7 (wrap64 ((x7.length : Int) - 1))).f2) ((rd_T39 x7 (wrap64 ((x7.length : Int) - 1))).f3) ((rd_T39 (rd_L4 x4 x8) 0).f0) ((rd_T39 (rd_L4 x4 x8) 0).f1) ((rd_T39 (rd_L4 x4 x8) 0).f2) ((rd_T39 (rd_L4 x4 x8) 0).f3)).bind fun t142 => (if t142 = 0 then (merge_Rows.l1 k y137 x7) else (if x7.length < 2932031007402 then (merge_Rows.l1 k y137 (x7 ++ [(⟨(rd_T39 (rd_L4 x4 x8) 0).f0, (rd_T39 (rd_L4 x4 x8) 0).f1, (rd_T39 (rd_L4 x4 x8) 0).f2, (rd_T39 (rd_L4 x4 x8) 0).f3⟩ : S39)])) else (none)))) else (none)) else (none)))) else (none)) else (none)) else (none)) else (none)))
end
def merge_Rows.f (k : Nat) (l0 : List (List (S39))) : Option ((List (S39)) × Int) := (api_Entry_21.f l0).bind fun t119 => (merge_Rows.l0 k t119 l0 (l0.length : Int) 0)
theorem merge_Rows.mono_l : ∀ k, (∀ y0 y1 y2 y3, LeO (merge_Rows.l0 k y0 y1 y2 y3) (merge_Rows.l0 (k + 1) y0 y1 y2 y3)) ∧ (∀ y0 y1, LeO (merge_Rows.l1 k y0 y1) (merge_Rows.l1 (k + 1) y0 y1)) ∧ (∀ y0 y1 y2 y3 y4 y5, LeO (merge_Rows.l2 k y0 y1 y2 y3 y4 y5) (merge_Rows.l2 (k + 1) y0 y1 y2 y3 y4 y5))
  | 0 => ⟨fun _ _ _ _ r h => by simp [merge_Rows.l0] at h, fun _ _ r h => by simp [merge_Rows.l1] at h, fun _ _ _ _ _ _ r h => by simp [merge_Rows.l2] at h⟩
  | k + 1 => by
    obtain ⟨ih0, ih1, ih2⟩ := merge_Rows.mono_l k
    refine ⟨?_, ?_, ?_⟩
    all_goals
      intros
      first | unfold merge_Rows.l0 | unfold merge_Rows.l1 | unfold merge_Rows.l2
      repeat' first
      | (with_reducible exact ih0 _ _ _ _)
      | (with_reducible exact ih1 _ _)
      | (with_reducible exact ih2 _ _ _ _ _ _)
      | (with_reducible exact entry_Compare.mono _ _ _ _ _ _ _ _ _)
      | (with_reducible exact entry_Less.mono _ _ _ _ _ _ _ _ _)
      | (with_reducible exact entry_Sorted.mono _ _)
      | (with_reducible exact LeO.refl _)
      | (with_reducible exact LeO.none _)
      | (with_reducible refine LeO.ite ?_ ?_)
      | (with_reducible refine LeO.bind ?_ (fun _ => ?_))
      | exact ih0 _ _ _ _
      | exact ih1 _ _
      | exact ih2 _ _ _ _ _ _
      | exact entry_Compare.mono _ _ _ _ _ _ _ _ _
      | exact entry_Less.mono _ _ _ _ _ _ _ _ _
      | exact entry_Sorted.mono _ _
      | exact LeO.none _
      | refine LeO.ite ?_ ?_
      | refine LeO.bind ?_ (fun _ => ?_)
theorem merge_Rows.mono : ∀ a0 k, LeO (merge_Rows.f k a0) (merge_Rows.f (k + 1) a0) := by
  intro a0 k
  obtain ⟨ih0, ih1, ih2⟩ := merge_Rows.mono_l k
  unfold merge_Rows.f
  repeat' first
      | (with_reducible exact ih0 _ _ _ _)
      | (with_reducible exact ih1 _ _)
      | (with_reducible exact ih2 _ _ _ _ _ _)
      | (with_reducible exact entry_Compare.mono _ _ _ _ _ _ _ _ _)
      | (with_reducible exact entry_Less.mono _ _ _ _ _ _ _ _ _)
      | (with_reducible exact entry_Sorted.mono _ _)
      | (with_reducible exact LeO.refl _)
      | (with_reducible exact LeO.none _)
      | (with_reducible refine LeO.ite ?_ ?_)
      | (with_reducible refine LeO.bind ?_ (fun _ => ?_))
      | exact ih0 _ _ _ _
      | exact ih1 _ _
      | exact ih2 _ _ _ _ _ _
      | exact entry_Compare.mono _ _ _ _ _ _ _ _ _
      | exact entry_Less.mono _ _ _ _ _ _ _ _ _
      | exact entry_Sorted.mono _ _
      | exact LeO.none _
      | refine LeO.ite ?_ ?_
      | refine LeO.bind ?_ (fun _ => ?_)
def merge_Rows.T14 : Bool × List (List Nat × List Nat) := (true, [([], []), ([0], [0]), ([1], [1]), ([2], [2]), ([3, 2], [2, 3]), ([4, 2], [2, 4]), ([2], [2]), ([2], [2]), ([6, 7, 2], [2, 6, 7]), ([8, 2], [2, 8]), ([9, 2], [2, 9]), ([10, 2], [2, 10]), ([5, 11, 2, 2], [2, 5, 11]), ([2, 12], [2, 12])])
def merge_Rows.B14 : List Nat := [0, 1, 3, 7, 15, 31, 7, 7, 199, 455, 967, 1991, 4095, 8191]
theorem merge_Rows.tab14 : rtab .any (opsOf Try.f11 14) = merge_Rows.T14 := by kernel_rfl
theorem merge_Rows.bits14 : waitsOk merge_Rows.T14.2 merge_Rows.B14 = true := by kernel_rfl
def merge_Rows.T22 : Bool × List (List Nat × List Nat) := (true, [([], []), ([0], [0]), ([1], [1]), ([2], [2]), ([2], [2]), ([4, 2], [2, 4]), ([3, 5, 2], [2, 3, 5]), ([6, 2], [2, 6]), ([2], [2]), ([7, 8, 2, 2], [2, 7, 8]), ([9, 2], [2, 9]), ([2, 10], [2, 10])])
def merge_Rows.B22 : List Nat := [0, 1, 3, 7, 7, 23, 63, 127, 7, 511, 1023, 2047]
theorem merge_Rows.tab22 : rtab .any (opsOf Try.f11 22) = merge_Rows.T22 := by kernel_rfl
theorem merge_Rows.bits22 : waitsOk merge_Rows.T22.2 merge_Rows.B22 = true := by kernel_rfl
set_option maxHeartbeats 8000000 in
set_option maxRecDepth 100000 in
theorem merge_Rows.calls (k : Nat) (A0 : Option Addr) (c0 : Nat) (l0 : List (List (S39))) (r1 : List (S39)) (r2 : Int) (w : World) (hr0 : Kd.C (Kd.slice 39 k39) w A0 l0.length l0) (hc0 : l0.length ≤ c0) (h : merge_Rows.f k l0 = some (r1, r2)) :
    Calls Try.prog 11 #[.slice A0 l0.length c0] w fun e w' => ∃ v0_ : Value, e = .returned (.tuple #[v0_, .int .i64 r2]) ∧ Kd.R k39 39 w' w.heap.size (fun _ => True) v0_ r1 ∧ Below w.heap.size w w' := by
  have hu39 := Try.underlying39
  have HR0 := Aside0.mk hr0
  have HC0 := Aside0.mk hc0
  clear hr0 hc0
  have HB := Aside0.mk (Below.refl w.heap.size w)
  have H : ((api_Entry_21.f l0).bind fun t119 => (merge_Rows.l0 k t119 l0 (l0.length : Int) 0)) = some (r1, r2) := h
  clear h
  replace H := Option.bind_eq_some_iff.mp H
  obtain ⟨t119, A20, H⟩ := H
  replace H : (merge_Rows.l0 k t119 l0 (l0.length : Int) 0) = some (r1, r2) := H
  have A2 := Aside0.mk A20
  clear A20
  have H' := Aside0.mk H
  clear H
  go_enter Try.func11, Try.ntmps11
  go_wp2_with (first | go_step3 | ((with_reducible refine gate_callee (f := 21) rfl ?_); refine goesL_ (some 14) rfl rfl Try.func21 (by kernel_rfl) rfl #[.slice A0 l0.length c0] rfl (by (try simp only [List.map_toArray, List.map_cons, List.map_nil]); first | done | rfl | (simp only [List.length_drop, List.length_take]; rfl)) ?_; (with_reducible refine (api_Entry_21.calls _ _ l0 t119 _ ?side1 ?side2 A2.out).mono ?_); (case side1 => repeat (first | exact HR0.out | (with_reducible refine Kd.C_alloc ?_ _) | (with_reducible refine Kd.C_drewN ?_ _) | (with_reducible refine Kd.C_drew ?_))); (case side2 => exact HC0.out); rintro e w3 ⟨v120, rfl, ho0, hb⟩; refine ⟨_, rfl, ?_⟩; have n0_ := Aside0.mk (Kd.S_lower (kGL_S ho0) (below_size (by repeat (first | (with_reducible first | exact HB.out | apply below_alloc | apply pw_below_drewN | apply below_drew1) | exact HB.out)))); have n1_ := Aside0.mk (below_step (by repeat (first | (with_reducible first | exact HB.out | apply below_alloc | apply pw_below_drewN | apply below_drew1) | exact HB.out)) hb); clear HB; have HO121 := n0_; have HB := n1_; clear n0_ n1_; (try clear hb); (try clear hb2); (try clear hk); (try clear hi); (try clear ho0)))
  go_loopg [17] k (fun kq v17 w' => ∃ (x17_1 : Int), v17 = .int .i64 x17_1 ∧ Aside0 (merge_Rows.l0 kq t119 l0 (l0.length : Int) x17_1 = some (r1, r2)) ∧ Aside0 (kq ≤ k) ∧ Aside0 (Kd.S (kGL w) 23 w' w.heap.size (fun _ => True) v120 t119) ∧ Aside0 (Below w.heap.size w w'))
  case atStart => exact ⟨(0), (by first | rfl | (simp; done) | (simp [*]; done)), H', ⟨Nat.le_refl _⟩, ⟨by (with_reducible repeat (first | apply Kd.S_alloc | apply Kd.S_drewN | apply Kd.S_drew)); exact HO121.out⟩, ⟨by repeat (first | (with_reducible first | exact HB.out | apply below_alloc | apply pw_below_drewN | apply below_drew1) | exact HB.out)⟩⟩
  clear H'
  try clear c1
  try clear c2
  try clear p2
  try clear p3
  obtain ⟨x17_1, rfl, HA, HK1, HO_4, HB⟩ := hrel
  cases gk with
  | zero => exact absurd HA.out (by simp [merge_Rows.l0])
  | succ k1 => ?_
  have H := HA.out
  clear HA
  simp only [merge_Rows.l0] at H
  by_cases c4 : x17_1 < (l0.length : Int)
  · rw [if_pos c4] at H
    have c4b0 : decide (x17_1 < (l0.length : Int)) = true := decide_eq_true c4
    clear c4
    by_cases c5 : 0 ≤ x17_1
    rotate_left
    · rw [if_neg c5] at H
      exact absurd H (by simp)
    rw [if_pos c5] at H
    have c5b0 : decide (0 ≤ x17_1) = true := decide_eq_true c5
    clear c5
    by_cases c6 : x17_1 < (l0.length : Int)
    rotate_left
    · rw [if_neg c6] at H
      exact absurd H (by simp)
    rw [if_pos c6] at H
    have c6b0 : decide (x17_1 < (l0.length : Int)) = true := decide_eq_true c6
    clear c6
    replace H := Option.bind_eq_some_iff.mp H
    obtain ⟨t123, A70, H⟩ := H
    replace H : (if t123 = true then (merge_Rows.l0 k1 t119 l0 (l0.length : Int) (wrap64 (x17_1 + 1))) else (some (([] : List (S39)), 16))) = some (r1, r2) := H
    have A7 := Aside0.mk A70
    clear A70
    by_cases c8 : t123 = true
    · subst c8
      have H1 : (merge_Rows.l0 k1 t119 l0 (l0.length : Int) (wrap64 (x17_1 + 1))) = some (r1, r2) := by rw [if_pos rfl] at H; exact H
      clear H
      have H := H1
      clear H1
      have H' := Aside0.mk H
      clear H
      have p122 : 0 ≤ (x17_1 : Int) := of_decide_eq_true (by first | (with_reducible assumption) | assumption)
      have q122 : x17_1 < (l0.length : Int) := of_decide_eq_true (by first | (with_reducible assumption) | assumption)
      obtain ⟨ad122, A122_0, c122_0, e122, hx122_0, hl122_0, hi122_0⟩ := at_L4 HR0.out x17_1 p122 q122
      cases e122
      replace hx122_0 := (HB.out.cell (World.block_lt_of_cell? w _ hx122_0)).trans hx122_0
      have HR122_0 := Aside0.mk hi122_0
      have HC122_0 := Aside0.mk hl122_0
      clear hi122_0 hl122_0
      replace p122 := eq_true p122
      replace q122 := eq_true q122
      go_wp2_with (first | go_step3 | ((with_reducible refine gate_callee (f := 22) rfl ?_); refine goesL_ (some 22) rfl rfl Try.func22 (by kernel_rfl) rfl #[.slice A122_0 (rd_L4 l0 x17_1).length c122_0] rfl (by (try simp only [List.map_toArray, List.map_cons, List.map_nil]); first | done | rfl | (simp only [List.length_drop, List.length_take]; rfl)) ?_; (with_reducible refine (entry_Sorted.calls k1 _ _ (rd_L4 l0 x17_1) true _ ?side1 ?side2 A7.out).mono ?_); (case side1 => repeat (first | exact (Kd.C_below HR122_0.out HB.out) | (with_reducible refine Kd.C_alloc ?_ _) | (with_reducible refine Kd.C_drewN ?_ _) | (with_reducible refine Kd.C_drew ?_))); (case side2 => exact HC122_0.out); rintro e w9 ⟨rfl, hb⟩; refine ⟨_, rfl, ?_⟩; have n0_ := Aside0.mk (Kd.S_below (by (with_reducible repeat (first | apply Kd.S_alloc | apply Kd.S_drewN | apply Kd.S_drew)); exact HO_4.out) hb); have n1_ := Aside0.mk (below_step (by repeat (first | (with_reducible first | exact HB.out | apply below_alloc | apply pw_below_drewN | apply below_drew1) | exact HB.out)) hb); clear HO_4; clear HB; have HO_4 := n0_; have HB := n1_; clear n0_ n1_; (try clear hb); (try clear hb2); (try clear hk); (try clear hi)))
      (try (rw [Exit.noGoto_normal]; go_wp2_with go_step3))
      go_roundg k1
      case measure => have := HK1.out; omega
      case rel => exact ⟨(wrap64 (x17_1 + 1)), (by first | rfl | (simp; done) | (simp [*]; done)), H', ⟨by have := HK1.out; omega⟩, ⟨by (with_reducible repeat (first | apply Kd.S_alloc | apply Kd.S_drewN | apply Kd.S_drew)); exact HO_4.out⟩, ⟨by repeat (first | (with_reducible first | exact HB.out | apply below_alloc | apply pw_below_drewN | apply below_drew1) | exact HB.out)⟩⟩
    replace c8 := Bool.eq_false_iff.mpr c8
    subst c8
    have H1 : (some (([] : List (S39)), 16)) = some (r1, r2) := by rw [if_neg (show ¬ (false = true) by decide)] at H; exact H
    clear H
    have H := H1
    clear H1
    simp only [Option.some.injEq, Prod.mk.injEq] at H
    obtain ⟨rfl, rfl⟩ := H
    have p122 : 0 ≤ (x17_1 : Int) := of_decide_eq_true (by first | (with_reducible assumption) | assumption)
    have q122 : x17_1 < (l0.length : Int) := of_decide_eq_true (by first | (with_reducible assumption) | assumption)
    obtain ⟨ad122, A122_0, c122_0, e122, hx122_0, hl122_0, hi122_0⟩ := at_L4 HR0.out x17_1 p122 q122
    cases e122
    replace hx122_0 := (HB.out.cell (World.block_lt_of_cell? w _ hx122_0)).trans hx122_0
    have HR122_0 := Aside0.mk hi122_0
    have HC122_0 := Aside0.mk hl122_0
    clear hi122_0 hl122_0
    replace p122 := eq_true p122
    replace q122 := eq_true q122
    go_wp2_with (first | go_step3 | ((with_reducible refine gate_callee (f := 22) rfl ?_); refine goesL_ (some 22) rfl rfl Try.func22 (by kernel_rfl) rfl #[.slice A122_0 (rd_L4 l0 x17_1).length c122_0] rfl (by (try simp only [List.map_toArray, List.map_cons, List.map_nil]); first | done | rfl | (simp only [List.length_drop, List.length_take]; rfl)) ?_; (with_reducible refine (entry_Sorted.calls k1 _ _ (rd_L4 l0 x17_1) false _ ?side1 ?side2 A7.out).mono ?_); (case side1 => repeat (first | exact (Kd.C_below HR122_0.out HB.out) | (with_reducible refine Kd.C_alloc ?_ _) | (with_reducible refine Kd.C_drewN ?_ _) | (with_reducible refine Kd.C_drew ?_))); (case side2 => exact HC122_0.out); rintro e w10 ⟨rfl, hb⟩; refine ⟨_, rfl, ?_⟩; have n0_ := Aside0.mk (Kd.S_below (by (with_reducible repeat (first | apply Kd.S_alloc | apply Kd.S_drewN | apply Kd.S_drew)); exact HO_4.out) hb); have n1_ := Aside0.mk (below_step (by repeat (first | (with_reducible first | exact HB.out | apply below_alloc | apply pw_below_drewN | apply below_drew1) | exact HB.out)) hb); clear HO_4; clear HB; have HO_4 := n0_; have HB := n1_; clear n0_ n1_; (try clear hb); (try clear hb2); (try clear hk); (try clear hi)))
    ((try rw [Exit.noGoto_ret]); go_ret2)
    exact ⟨_, by first | rfl | (simp [errW_none, errW_some] <;> rfl) | (simp [*, errW_none, errW_some] <;> rfl), by first | exact Kd.R_nil _ _ _ _ _ | exact Kd.N_nil _ _ _ _ _ | exact Kd.V_nil _ _ _ _ _ | exact Kd.Q_nil _ _ _ _ _ | exact Kd.S_nil _ _ _ _ _, by repeat (first | (with_reducible first | exact HB.out | apply below_alloc | apply pw_below_drewN | apply below_drew1) | exact HB.out)⟩
  rw [if_neg c4] at H
  have c4b0 : decide (x17_1 < (l0.length : Int)) = false := decide_eq_false c4
  clear c4
  have H' := Aside0.mk H
  clear H
  go_wp2_with (first | go_step3 | go_in)
  go_loopg [7] k1 (fun kq v7 w' => ∃ (x4_2 : List (List (S39))) (x7_2 : List (S39)), Aside0 (merge_Rows.l1 kq x4_2 x7_2 = some (r1, r2)) ∧ Aside0 (kq ≤ k1) ∧ Aside0 (Kd.S (kGL w) 23 w' w.heap.size (fun k_ => some k_ ≠ (v7 : Value).ownBlock) v120 x4_2) ∧ Aside0 (Kd.R k39 39 w' w.heap.size (fun _ => True) v7 x7_2) ∧ Aside0 (Below w.heap.size w w'))
  case atStart => exact ⟨(t119), (([] : List (S39))), H', ⟨Nat.le_refl _⟩, ⟨by (with_reducible repeat (first | apply Kd.S_alloc | apply Kd.S_drewN | apply Kd.S_drew)); exact Kd.S_mono HO_4.out (fun _ hk => (by simp [Value.ownBlock]))⟩, ⟨by first | exact Kd.R_nil _ _ _ _ _ | exact Kd.N_nil _ _ _ _ _ | exact Kd.V_nil _ _ _ _ _ | exact Kd.Q_nil _ _ _ _ _ | exact Kd.S_nil _ _ _ _ _⟩, ⟨by repeat (first | (with_reducible first | exact HB.out | apply below_alloc | apply pw_below_drewN | apply below_drew1) | exact HB.out)⟩⟩
  clear H'
  try clear c1
  try clear p1
  try clear q1
  try clear hx1
  try clear c2
  try clear p2
  try clear p3
  try clear c4
  try clear c4b0
  try clear c5
  try clear c5b0
  try clear c6
  try clear c6b0
  try clear p6
  try clear c8
  try clear hx122_0
  try clear p122
  try clear p2
  try clear p3
  try clear q122
  obtain ⟨x4_2, x7_2, HA, HK2, HO_4, HO_7, HB⟩ := hrel
  cases gk with
  | zero => exact absurd HA.out (by simp [merge_Rows.l1])
  | succ k2 => ?_
  have H := HA.out
  clear HA
  simp only [merge_Rows.l1] at H
  have H' := Aside0.mk H
  clear H
  obtain ⟨Ao11, co11, eo11⟩ := Kd.S_slice HO_4.out
  subst eo11
  go_wp2_with (first | go_step3 | go_in)
  go_loopg [8, 27] k2 (fun kq v8 v27 w' => ∃ (x8_3 : Int) (x27_3 : Int), v8 = .int .i64 x8_3 ∧ v27 = .int .i64 x27_3 ∧ Aside0 (merge_Rows.l2 kq x4_2 x7_2 x8_3 x4_2 (x4_2.length : Int) x27_3 = some (r1, r2)) ∧ Aside0 (kq ≤ k2) ∧ Aside0 (Kd.S (kGL w) 23 w' w.heap.size (fun k_ => some k_ ≠ (u7 : Value).ownBlock) (.slice Ao11 x4_2.length co11) x4_2) ∧ Aside0 (Kd.R k39 39 w' w.heap.size (fun _ => True) u7 x7_2) ∧ Aside0 (Kd.S (kGL w) 23 w' w.heap.size (fun k_ => some k_ ≠ (u7 : Value).ownBlock) (.slice Ao11 x4_2.length co11) x4_2) ∧ Aside0 (Below w.heap.size w w'))
  case atStart => exact ⟨((-1)), (0), (by first | rfl | (simp; done) | (simp [*]; done)), (by first | rfl | (simp; done) | (simp [*]; done)), H', ⟨Nat.le_refl _⟩, ⟨by (with_reducible repeat (first | apply Kd.S_alloc | apply Kd.S_drewN | apply Kd.S_drew)); exact HO_4.out⟩, ⟨by (with_reducible repeat (first | apply Kd.R_alloc | apply Kd.R_drewN | apply Kd.R_drew)); exact HO_7.out⟩, ⟨by (with_reducible repeat (first | apply Kd.S_alloc | apply Kd.S_drewN | apply Kd.S_drew)); exact HO_4.out⟩, ⟨by repeat (first | (with_reducible first | exact HB.out | apply below_alloc | apply pw_below_drewN | apply below_drew1) | exact HB.out)⟩⟩
  clear H'
  try clear c1
  try clear p1
  try clear q1
  try clear hx1
  try clear c2
  try clear p2
  try clear p3
  try clear c4
  try clear c4b0
  try clear c5
  try clear c5b0
  try clear c6
  try clear c6b0
  try clear p6
  try clear c8
  try clear c11
  try clear hx122_0
  try clear p1
  try clear p122
  try clear p2
  try clear p3
  try clear p6
  try clear q1
  try clear q122
  obtain ⟨x8_3, x27_3, rfl, rfl, HA, HK3, HO_4, HO_7, HO_25, HB⟩ := hrel
  cases gk with
  | zero => exact absurd HA.out (by simp [merge_Rows.l2])
  | succ k3 => ?_
  have H := HA.out
  clear HA
  simp only [merge_Rows.l2] at H
  by_cases c12 : x27_3 < (x4_2.length : Int)
  · rw [if_pos c12] at H
    have c12b0 : decide (x27_3 < (x4_2.length : Int)) = true := decide_eq_true c12
    clear c12
    by_cases c13 : 0 ≤ x27_3
    rotate_left
    · rw [if_neg c13] at H
      exact absurd H (by simp)
    rw [if_pos c13] at H
    have c13b0 : decide (0 ≤ x27_3) = true := decide_eq_true c13
    clear c13
    by_cases c14 : x27_3 < (x4_2.length : Int)
    rotate_left
    · rw [if_neg c14] at H
      exact absurd H (by simp)
    rw [if_pos c14] at H
    have c14b0 : decide (x27_3 < (x4_2.length : Int)) = true := decide_eq_true c14
    clear c14
    by_cases c15 : ((rd_L4 x4_2 x27_3).length : Int) = 0
    · rw [if_pos c15] at H
      have c15b0 : (((rd_L4 x4_2 x27_3).length : Int) == 0) = true := beq_iff_eq.mpr c15
      have c15b1 : (((rd_L4 x4_2 x27_3).length : Int) != 0) = false := bne_eq_false_iff_eq.mpr c15
      clear c15
      have H' := Aside0.mk H
      clear H
      have p124 : 0 ≤ (x27_3 : Int) := of_decide_eq_true (by first | (with_reducible assumption) | assumption)
      have q124 : x27_3 < (x4_2.length : Int) := of_decide_eq_true (by first | (with_reducible assumption) | assumption)
      obtain ⟨ad124, A124_0, c124_0, e124, hx124_0, hl124_0, hi124_0⟩ := at_GL (Kd.S_reads' HO_25.out).2.2 x27_3 p124 q124 (by repeat (first | (with_reducible first | exact HB.out | apply below_alloc | apply pw_below_drewN | apply below_drew1) | exact HB.out))
      cases e124
      have HR124_0 := Aside0.mk hi124_0
      have HC124_0 := Aside0.mk hl124_0
      clear hi124_0 hl124_0
      replace p124 := eq_true p124
      replace q124 := eq_true q124
      go_wp2_with (first | go_step3 | go_in)
      (try (rw [Exit.noGoto_normal]; go_wp2_with go_step3))
      go_roundg k3
      case measure => have := HK1.out; have := HK2.out; have := HK3.out; omega
      case rel => exact ⟨(x8_3), (wrap64 (x27_3 + 1)), (by first | rfl | (simp; done) | (simp [*]; done)), (by first | rfl | (simp; done) | (simp [*]; done)), H', ⟨by have := HK1.out; have := HK2.out; have := HK3.out; omega⟩, ⟨by (with_reducible repeat (first | apply Kd.S_alloc | apply Kd.S_drewN | apply Kd.S_drew)); exact HO_4.out⟩, ⟨by (with_reducible repeat (first | apply Kd.R_alloc | apply Kd.R_drewN | apply Kd.R_drew)); exact HO_7.out⟩, ⟨by (with_reducible repeat (first | apply Kd.S_alloc | apply Kd.S_drewN | apply Kd.S_drew)); exact HO_25.out⟩, ⟨by repeat (first | (with_reducible first | exact HB.out | apply below_alloc | apply pw_below_drewN | apply below_drew1) | exact HB.out)⟩⟩
    rw [if_neg c15] at H
    have c15b0 : (((rd_L4 x4_2 x27_3).length : Int) == 0) = false := beq_eq_false_iff_ne.mpr c15
    have c15b1 : (((rd_L4 x4_2 x27_3).length : Int) != 0) = true := bne_iff_ne.mpr c15
    have c15b2 : ¬ ((rd_L4 x4_2 x27_3) = []) := fun h_ => c15 (by rw [h_]; rfl)
    by_cases c16 : x8_3 < 0
    · rw [if_pos c16] at H
      have c16b0 : decide (x8_3 < 0) = true := decide_eq_true c16
      clear c16
      have H' := Aside0.mk H
      clear H
      have p124 : 0 ≤ (x27_3 : Int) := of_decide_eq_true (by first | (with_reducible assumption) | assumption)
      have q124 : x27_3 < (x4_2.length : Int) := of_decide_eq_true (by first | (with_reducible assumption) | assumption)
      obtain ⟨ad124, A124_0, c124_0, e124, hx124_0, hl124_0, hi124_0⟩ := at_GL (Kd.S_reads' HO_25.out).2.2 x27_3 p124 q124 (by repeat (first | (with_reducible first | exact HB.out | apply below_alloc | apply pw_below_drewN | apply below_drew1) | exact HB.out))
      cases e124
      have HR124_0 := Aside0.mk hi124_0
      have HC124_0 := Aside0.mk hl124_0
      clear hi124_0 hl124_0
      replace p124 := eq_true p124
      replace q124 := eq_true q124
      try go_wp2_with (first | go_step3 | go_in)
      have n0_ := Aside0.mk (Kd.S_drew HO_4.out)
      have n1_ := Aside0.mk (Kd.R_drew HO_7.out)
      have n2_ := Aside0.mk (Kd.S_drew HO_25.out)
      have n4_ := Aside0.mk (Kd.C_drew HR124_0.out)
      have n5_ := Aside0.mk (below_drew1 HB.out)
      clear HO_4
      clear HO_7
      clear HO_25
      clear HR124_0
      clear HB
      have HO_4 := n0_
      have HO_7 := n1_
      have HO_25 := n2_
      have HR124_0 := n4_
      have HB := n5_
      clear n0_ n1_ n2_ n4_ n5_
      refine start_ (n := 14) (S := fun w' => True) (ds := []) #[false, false, false, false, false, false, false, false, false, false, false, false, false, false] (by kernel_rfl) rfl rfl trivial (fun hHeld => ?_); refine with_tabW merge_Rows.tab14 merge_Rows.bits14 (fun HT_ HW_ => ?_)
      generalize wr.drew = w17 at HO_4 HO_7 HO_25 HR124_0 HB hHeld ⊢
      refine pure_ (i := 0) (N := some 35) (v := ?_) (a' := ?_) #[true, false, false, false, false, false, false, false, false, false, false, false, false, false] rfl rfl (any_of HT_.out (by kernel_rfl)) (fun _ _ _ h => h) (Or.inl ⟨by rfl, ?_⟩) ?_ ?_
      rotate_left
      · intro w'
        go_simp
        with_reducible rfl
      rotate_left
      · simp only [Act.put, List.setIfInBounds_toArray, List.set_cons_zero, List.set_cons_succ, i64_w, i32_w]
        rfl
      refine pure_ (i := 1) (N := some 36) (v := ?_) (a' := ?_) #[true, true, false, false, false, false, false, false, false, false, false, false, false, false] rfl rfl (any_of HT_.out (by kernel_rfl)) (fun _ _ _ h => h) (Or.inl ⟨by rfl, ?_⟩) ?_ ?_
      rotate_left
      · intro w'
        go_simp
        with_reducible rfl
      rotate_left
      · simp only [Act.put, List.setIfInBounds_toArray, List.set_cons_zero, List.set_cons_succ, i64_w, i32_w]
        rfl
      refine pure_ (i := 2) (N := some 37) (v := ?_) (a' := ?_) #[true, true, true, false, false, false, false, false, false, false, false, false, false, false] rfl rfl (any_of HT_.out (by kernel_rfl)) (fun _ _ _ h => h) (Or.inl ⟨by rfl, ?_⟩) ?_ ?_
      rotate_left
      · intro w'
        go_simp
        with_reducible rfl
      rotate_left
      · simp only [Act.put, List.setIfInBounds_toArray, List.set_cons_zero, List.set_cons_succ, i64_w, i32_w]
        rfl
      refine pure_ (i := 3) (N := some 38) (v := undef) (a' := ?_) #[true, true, true, true, false, false, false, false, false, false, false, false, false, false] rfl rfl (any_of HT_.out (by kernel_rfl)) (fun _ _ _ h => h) (Or.inr ⟨by rfl, rfl⟩) ?_ ?_
      rotate_left
      · simp only [Act.put, List.setIfInBounds_toArray, List.set_cons_zero, List.set_cons_succ, i64_w, i32_w]
        rfl
      refine pure_ (i := 4) (N := some 39) (v := undef) (a' := ?_) #[true, true, true, true, true, false, false, false, false, false, false, false, false, false] rfl rfl (any_of HT_.out (by kernel_rfl)) (fun _ _ _ h => h) (Or.inr ⟨by rfl, rfl⟩) ?_ ?_
      rotate_left
      · simp only [Act.put, List.setIfInBounds_toArray, List.set_cons_zero, List.set_cons_succ, i64_w, i32_w]
        rfl
      refine pure_ (i := 5) (N := some 40) (v := undef) (a' := ?_) #[true, true, true, true, true, true, false, false, false, false, false, false, false, false] rfl rfl (any_of HT_.out (by kernel_rfl)) (fun _ _ _ h => h) (Or.inr ⟨by rfl, rfl⟩) ?_ ?_
      rotate_left
      · simp only [Act.put, List.setIfInBounds_toArray, List.set_cons_zero, List.set_cons_succ, i64_w, i32_w]
        rfl
      refine pure_ (i := 6) (N := some 41) (v := undef) (a' := ?_) #[true, true, true, true, true, true, true, false, false, false, false, false, false, false] rfl rfl (any_of HT_.out (by kernel_rfl)) (fun _ _ _ h => h) (Or.inr ⟨by rfl, rfl⟩) ?_ ?_
      rotate_left
      · simp only [Act.put, List.setIfInBounds_toArray, List.set_cons_zero, List.set_cons_succ, i64_w, i32_w]
        rfl
      refine pure_ (i := 7) (N := some 42) (v := undef) (a' := ?_) #[true, true, true, true, true, true, true, true, false, false, false, false, false, false] rfl rfl (any_of HT_.out (by kernel_rfl)) (fun _ _ _ h => h) (Or.inr ⟨by rfl, rfl⟩) ?_ ?_
      rotate_left
      · simp only [Act.put, List.setIfInBounds_toArray, List.set_cons_zero, List.set_cons_succ, i64_w, i32_w]
        rfl
      refine pure_ (i := 8) (N := some 43) (v := undef) (a' := ?_) #[true, true, true, true, true, true, true, true, true, false, false, false, false, false] rfl rfl (any_of HT_.out (by kernel_rfl)) (fun _ _ _ h => h) (Or.inr ⟨by rfl, rfl⟩) ?_ ?_
      rotate_left
      · simp only [Act.put, List.setIfInBounds_toArray, List.set_cons_zero, List.set_cons_succ, i64_w, i32_w]
        rfl
      refine pure_ (i := 9) (N := some 44) (v := undef) (a' := ?_) #[true, true, true, true, true, true, true, true, true, true, false, false, false, false] rfl rfl (any_of HT_.out (by kernel_rfl)) (fun _ _ _ h => h) (Or.inr ⟨by rfl, rfl⟩) ?_ ?_
      rotate_left
      · simp only [Act.put, List.setIfInBounds_toArray, List.set_cons_zero, List.set_cons_succ, i64_w, i32_w]
        rfl
      refine pure_ (i := 10) (N := some 45) (v := undef) (a' := ?_) #[true, true, true, true, true, true, true, true, true, true, true, false, false, false] rfl rfl (any_of HT_.out (by kernel_rfl)) (fun _ _ _ h => h) (Or.inr ⟨by rfl, rfl⟩) ?_ ?_
      rotate_left
      · simp only [Act.put, List.setIfInBounds_toArray, List.set_cons_zero, List.set_cons_succ, i64_w, i32_w]
        rfl
      refine pure_ (i := 11) (N := some 46) (v := undef) (a' := ?_) #[true, true, true, true, true, true, true, true, true, true, true, true, false, false] rfl rfl (any_of HT_.out (by kernel_rfl)) (fun _ _ _ h => h) (Or.inr ⟨by rfl, rfl⟩) ?_ ?_
      rotate_left
      · simp only [Act.put, List.setIfInBounds_toArray, List.set_cons_zero, List.set_cons_succ, i64_w, i32_w]
        rfl
      refine pure_ (i := 12) (N := some 47) (v := undef) (a' := ?_) #[true, true, true, true, true, true, true, true, true, true, true, true, true, false] rfl rfl (any_of HT_.out (by kernel_rfl)) (fun _ _ _ h => h) (Or.inr ⟨by rfl, rfl⟩) ?_ ?_
      rotate_left
      · simp only [Act.put, List.setIfInBounds_toArray, List.set_cons_zero, List.set_cons_succ, i64_w, i32_w]
        rfl
      refine pure_ (i := 13) (N := some 48) (v := ?_) (a' := ?_) #[true, true, true, true, true, true, true, true, true, true, true, true, true, true] rfl rfl (any_of HT_.out (by kernel_rfl)) (fun _ _ _ h => h) (Or.inl ⟨by rfl, ?_⟩) ?_ ?_
      rotate_left
      · intro w'
        go_simp
        with_reducible rfl
      rotate_left
      · simp only [Act.put, List.setIfInBounds_toArray, List.set_cons_zero, List.set_cons_succ, i64_w, i32_w]
        rfl
      refine done_ (done_of HT_.out (by kernel_rfl)) ?_
      try go_wp2_with (first | go_step3 | go_in)
      (try (rw [Exit.noGoto_normal]; go_wp2_with go_step3))
      go_roundg k3
      case measure => have := HK1.out; have := HK2.out; have := HK3.out; omega
      case rel => exact ⟨(x27_3), (wrap64 (x27_3 + 1)), (by first | rfl | (simp; done) | (simp [*]; done)), (by first | rfl | (simp; done) | (simp [*]; done)), H', ⟨by have := HK1.out; have := HK2.out; have := HK3.out; omega⟩, ⟨by (with_reducible repeat (first | apply Kd.S_alloc | apply Kd.S_drewN | apply Kd.S_drew)); exact HO_4.out⟩, ⟨by (with_reducible repeat (first | apply Kd.R_alloc | apply Kd.R_drewN | apply Kd.R_drew)); exact HO_7.out⟩, ⟨by (with_reducible repeat (first | apply Kd.S_alloc | apply Kd.S_drewN | apply Kd.S_drew)); exact HO_25.out⟩, ⟨by repeat (first | (with_reducible first | exact HB.out | apply below_alloc | apply pw_below_drewN | apply below_drew1) | exact HB.out)⟩⟩
    rw [if_neg c16] at H
    have c16b0 : decide (x8_3 < 0) = false := decide_eq_false c16
    clear c16
    by_cases c18 : 0 < ((rd_L4 x4_2 x27_3).length : Int)
    rotate_left
    · rw [if_neg c18] at H
      exact absurd H (by simp)
    rw [if_pos c18] at H
    have c18b0 : decide (0 < ((rd_L4 x4_2 x27_3).length : Int)) = true := decide_eq_true c18
    have c18b1 : decide (0 < (rd_L4 x4_2 x27_3).length) = true := decide_eq_true (by omega)
    clear c18
    by_cases c19 : 0 ≤ x8_3
    rotate_left
    · rw [if_neg c19] at H
      exact absurd H (by simp)
    rw [if_pos c19] at H
    have c19b0 : decide (0 ≤ x8_3) = true := decide_eq_true c19
    clear c19
    by_cases c20 : x8_3 < (x4_2.length : Int)
    rotate_left
    · rw [if_neg c20] at H
      exact absurd H (by simp)
    rw [if_pos c20] at H
    have c20b0 : decide (x8_3 < (x4_2.length : Int)) = true := decide_eq_true c20
    clear c20
    by_cases c21 : 0 < ((rd_L4 x4_2 x8_3).length : Int)
    rotate_left
    · rw [if_neg c21] at H
      exact absurd H (by simp)
    rw [if_pos c21] at H
    have c21b0 : decide (0 < ((rd_L4 x4_2 x8_3).length : Int)) = true := decide_eq_true c21
    have c21b1 : decide (0 < (rd_L4 x4_2 x8_3).length) = true := decide_eq_true (by omega)
    clear c21
    replace H := Option.bind_eq_some_iff.mp H
    obtain ⟨t128, A220, H⟩ := H
    replace H : (if t128 = true then (merge_Rows.l2 k3 x4_2 x7_2 x27_3 x4_2 (x4_2.length : Int) (wrap64 (x27_3 + 1))) else (merge_Rows.l2 k3 x4_2 x7_2 x8_3 x4_2 (x4_2.length : Int) (wrap64 (x27_3 + 1)))) = some (r1, r2) := H
    have A22 := Aside0.mk A220
    clear A220
    by_cases c23 : t128 = true
    · subst c23
      have H1 : (merge_Rows.l2 k3 x4_2 x7_2 x27_3 x4_2 (x4_2.length : Int) (wrap64 (x27_3 + 1))) = some (r1, r2) := by rw [if_pos rfl] at H; exact H
      clear H
      have H := H1
      clear H1
      have H' := Aside0.mk H
      clear H
      have p124 : 0 ≤ (x27_3 : Int) := of_decide_eq_true (by first | (with_reducible assumption) | assumption)
      have q124 : x27_3 < (x4_2.length : Int) := of_decide_eq_true (by first | (with_reducible assumption) | assumption)
      obtain ⟨ad124, A124_0, c124_0, e124, hx124_0, hl124_0, hi124_0⟩ := at_GL (Kd.S_reads' HO_25.out).2.2 x27_3 p124 q124 (by repeat (first | (with_reducible first | exact HB.out | apply below_alloc | apply pw_below_drewN | apply below_drew1) | exact HB.out))
      cases e124
      have HR124_0 := Aside0.mk hi124_0
      have HC124_0 := Aside0.mk hl124_0
      clear hi124_0 hl124_0
      replace p124 := eq_true p124
      replace q124 := eq_true q124
      try go_wp2_with (first | go_step3 | go_in)
      have n0_ := Aside0.mk (Kd.S_drew HO_4.out)
      have n1_ := Aside0.mk (Kd.R_drew HO_7.out)
      have n2_ := Aside0.mk (Kd.S_drew HO_25.out)
      have n4_ := Aside0.mk (Kd.C_drew HR124_0.out)
      have n5_ := Aside0.mk (below_drew1 HB.out)
      clear HO_4
      clear HO_7
      clear HO_25
      clear HR124_0
      clear HB
      have HO_4 := n0_
      have HO_7 := n1_
      have HO_25 := n2_
      have HR124_0 := n4_
      have HB := n5_
      clear n0_ n1_ n2_ n4_ n5_
      have p125 : 0 ≤ (0 : Int) := (by omega)
      have q125 : 0 < ((rd_L4 x4_2 x27_3).length : Int) := of_decide_eq_true (by first | (with_reducible assumption) | assumption)
      obtain ⟨ad125, e125, hx125_0, hx125_1, hx125_2, hx125_3⟩ := at_T39 (by repeat (first | (with_reducible exact HR124_0.out) | (with_reducible refine Kd.C_alloc ?_ _) | (with_reducible refine Kd.C_drewN ?_ _) | (with_reducible refine Kd.C_drew ?_) | exact HR124_0.out)) 0 p125 q125
      cases e125
      have qi125 : (0 < (rd_L4 x4_2 x27_3).length) = True := eq_true (by omega)
      (try rw [show ((0 : Int)).toNat = 0 from rfl] at hx125_0)
      (try rw [show 0 * 4 = 0 from rfl] at hx125_0)
      (try rw [Addr.add_zero'] at hx125_0)
      (try rw [show ((0 : Int)).toNat = 0 from rfl] at hx125_1)
      (try rw [show 0 * 4 = 0 from rfl] at hx125_1)
      (try rw [Addr.add_zero'] at hx125_1)
      (try rw [show ((0 : Int)).toNat = 0 from rfl] at hx125_2)
      (try rw [show 0 * 4 = 0 from rfl] at hx125_2)
      (try rw [Addr.add_zero'] at hx125_2)
      (try rw [show ((0 : Int)).toNat = 0 from rfl] at hx125_3)
      (try rw [show 0 * 4 = 0 from rfl] at hx125_3)
      (try rw [Addr.add_zero'] at hx125_3)
      replace p125 := eq_true p125
      replace q125 := eq_true q125
      have p126 : 0 ≤ (x8_3 : Int) := of_decide_eq_true (by first | (with_reducible assumption) | assumption)
      have q126 : x8_3 < (x4_2.length : Int) := of_decide_eq_true (by first | (with_reducible assumption) | assumption)
      obtain ⟨ad126, A126_0, c126_0, e126, hx126_0, hl126_0, hi126_0⟩ := at_GL (Kd.S_reads' HO_4.out).2.2 x8_3 p126 q126 (by repeat (first | (with_reducible first | exact HB.out | apply below_alloc | apply pw_below_drewN | apply below_drew1) | exact HB.out))
      obtain rfl : ad124 = ad126 := (by injection e126)
      have HR126_0 := Aside0.mk hi126_0
      have HC126_0 := Aside0.mk hl126_0
      clear hi126_0 hl126_0
      replace p126 := eq_true p126
      replace q126 := eq_true q126
      have p127 : 0 ≤ (0 : Int) := (by omega)
      have q127 : 0 < ((rd_L4 x4_2 x8_3).length : Int) := of_decide_eq_true (by first | (with_reducible assumption) | assumption)
      obtain ⟨ad127, e127, hx127_0, hx127_1, hx127_2, hx127_3⟩ := at_T39 (by repeat (first | (with_reducible exact HR126_0.out) | (with_reducible refine Kd.C_alloc ?_ _) | (with_reducible refine Kd.C_drewN ?_ _) | (with_reducible refine Kd.C_drew ?_) | exact HR126_0.out)) 0 p127 q127
      cases e127
      have qi127 : (0 < (rd_L4 x4_2 x8_3).length) = True := eq_true (by omega)
      (try rw [show ((0 : Int)).toNat = 0 from rfl] at hx127_0)
      (try rw [show 0 * 4 = 0 from rfl] at hx127_0)
      (try rw [Addr.add_zero'] at hx127_0)
      (try rw [show ((0 : Int)).toNat = 0 from rfl] at hx127_1)
      (try rw [show 0 * 4 = 0 from rfl] at hx127_1)
      (try rw [Addr.add_zero'] at hx127_1)
      (try rw [show ((0 : Int)).toNat = 0 from rfl] at hx127_2)
      (try rw [show 0 * 4 = 0 from rfl] at hx127_2)
      (try rw [Addr.add_zero'] at hx127_2)
      (try rw [show ((0 : Int)).toNat = 0 from rfl] at hx127_3)
      (try rw [show 0 * 4 = 0 from rfl] at hx127_3)
      (try rw [Addr.add_zero'] at hx127_3)
      replace p127 := eq_true p127
      replace q127 := eq_true q127
      refine start_ (n := 14) (S := fun w' => w'.cell? ad125 = some (.string ((rd_T39 (rd_L4 x4_2 x27_3) 0).f0)) ∧ w'.cell? ⟨ad125.block, ad125.off + 1, none⟩ = some (.int .i64 ((rd_T39 (rd_L4 x4_2 x27_3) 0).f1)) ∧ w'.cell? ⟨ad125.block, ad125.off + 2, none⟩ = some (.bool ((rd_T39 (rd_L4 x4_2 x27_3) 0).f2)) ∧ w'.cell? ⟨ad125.block, ad125.off + 3, none⟩ = some (.string ((rd_T39 (rd_L4 x4_2 x27_3) 0).f3)) ∧ w'.cell? (ad124.add (x8_3).toNat) = some (.slice (some ad127) (rd_L4 x4_2 x8_3).length c126_0) ∧ w'.cell? ad127 = some (.string ((rd_T39 (rd_L4 x4_2 x8_3) 0).f0)) ∧ w'.cell? ⟨ad127.block, ad127.off + 1, none⟩ = some (.int .i64 ((rd_T39 (rd_L4 x4_2 x8_3) 0).f1)) ∧ w'.cell? ⟨ad127.block, ad127.off + 2, none⟩ = some (.bool ((rd_T39 (rd_L4 x4_2 x8_3) 0).f2)) ∧ w'.cell? ⟨ad127.block, ad127.off + 3, none⟩ = some (.string ((rd_T39 (rd_L4 x4_2 x8_3) 0).f3))) (ds := []) #[false, false, false, false, false, false, false, false, false, false, false, false, false, false] (by kernel_rfl) rfl rfl ⟨hx125_0, hx125_1, hx125_2, hx125_3, hx126_0, hx127_0, hx127_1, hx127_2, hx127_3⟩ (fun hHeld => ?_); refine with_tabW merge_Rows.tab14 merge_Rows.bits14 (fun HT_ HW_ => ?_)
      generalize wr.drew = w24 at HO_4 HO_7 HO_25 HR124_0 HB HR126_0 hx125_0 hx125_1 hx125_2 hx125_3 hx126_0 hx127_0 hx127_1 hx127_2 hx127_3 hHeld ⊢
      refine pure_ (i := 0) (N := some 35) (v := ?_) (a' := ?_) #[true, false, false, false, false, false, false, false, false, false, false, false, false, false] rfl rfl (any_of HT_.out (by kernel_rfl)) (fun _ _ _ h => h) (Or.inl ⟨by rfl, ?_⟩) ?_ ?_
      rotate_left
      · intro w'
        go_simp
        with_reducible rfl
      rotate_left
      · simp only [Act.put, List.setIfInBounds_toArray, List.set_cons_zero, List.set_cons_succ, i64_w, i32_w]
        rfl
      refine pure_ (i := 1) (N := some 36) (v := ?_) (a' := ?_) #[true, true, false, false, false, false, false, false, false, false, false, false, false, false] rfl rfl (any_of HT_.out (by kernel_rfl)) (fun _ _ _ h => h) (Or.inl ⟨by rfl, ?_⟩) ?_ ?_
      rotate_left
      · intro w'
        go_simp
        with_reducible rfl
      rotate_left
      · simp only [Act.put, List.setIfInBounds_toArray, List.set_cons_zero, List.set_cons_succ, i64_w, i32_w]
        rfl
      refine pure_ (i := 2) (N := some 37) (v := ?_) (a' := ?_) #[true, true, true, false, false, false, false, false, false, false, false, false, false, false] rfl rfl (any_of HT_.out (by kernel_rfl)) (fun _ _ _ h => h) (Or.inl ⟨by rfl, ?_⟩) ?_ ?_
      rotate_left
      · intro w'
        go_simp
        with_reducible rfl
      rotate_left
      · simp only [Act.put, List.setIfInBounds_toArray, List.set_cons_zero, List.set_cons_succ, i64_w, i32_w]
        rfl
      refine pure_ (i := 3) (N := some 38) (v := ?_) (a' := ?_) #[true, true, true, true, false, false, false, false, false, false, false, false, false, false] rfl rfl (any_of HT_.out (by kernel_rfl)) (fun _ _ _ h => h) (Or.inl ⟨by rfl, ?_⟩) ?_ ?_
      rotate_left
      · intro w'
        go_simp
        with_reducible rfl
      rotate_left
      · simp only [Act.put, List.setIfInBounds_toArray, List.set_cons_zero, List.set_cons_succ, i64_w, i32_w]
        rfl
      refine pure_ (i := 4) (N := some 39) (v := ?_) (a' := ?_) #[true, true, true, true, true, false, false, false, false, false, false, false, false, false] rfl rfl (any_of HT_.out (by kernel_rfl)) (fun _ _ _ h => h) (Or.inl ⟨by rfl, ?_⟩) ?_ ?_
      rotate_left
      · intro w'
        go_simp
        with_reducible rfl
      rotate_left
      · simp only [Act.put, List.setIfInBounds_toArray, List.set_cons_zero, List.set_cons_succ, i64_w, i32_w]
        rfl
      refine pure_ (i := 6) (N := some 41) (v := ?_) (a' := ?_) #[true, true, true, true, true, false, true, false, false, false, false, false, false, false] rfl rfl (any_of HT_.out (by kernel_rfl)) (fun _ _ _ h => h) (Or.inl ⟨by rfl, ?_⟩) ?_ ?_
      rotate_left
      · intro w'
        go_simp
        with_reducible rfl
      rotate_left
      · simp only [Act.put, List.setIfInBounds_toArray, List.set_cons_zero, List.set_cons_succ, i64_w, i32_w]
        rfl
      refine pure_ (i := 7) (N := some 42) (v := ?_) (a' := ?_) #[true, true, true, true, true, false, true, true, false, false, false, false, false, false] rfl rfl (any_of HT_.out (by kernel_rfl)) (fun _ _ _ h => h) (Or.inl ⟨by rfl, ?_⟩) ?_ ?_
      rotate_left
      · intro w'
        go_simp
        with_reducible rfl
      rotate_left
      · simp only [Act.put, List.setIfInBounds_toArray, List.set_cons_zero, List.set_cons_succ, i64_w, i32_w]
        rfl
      refine pure_ (i := 8) (N := some 43) (v := ?_) (a' := ?_) #[true, true, true, true, true, false, true, true, true, false, false, false, false, false] rfl rfl (any_of HT_.out (by kernel_rfl)) (fun _ _ _ h => h) (Or.inl ⟨by rfl, ?_⟩) ?_ ?_
      rotate_left
      · intro w'
        go_simp
        with_reducible rfl
      rotate_left
      · simp only [Act.put, List.setIfInBounds_toArray, List.set_cons_zero, List.set_cons_succ, i64_w, i32_w]
        rfl
      refine take_ (i := 5) (N := some 40) (v := ?_) (a' := ?_) #[true, true, true, true, true, true, true, true, true, false, false, false, false, false] rfl rfl (take_ofW HT_.out HW_.out (by kernel_rfl)) (fun _ _ _ h => h) (Or.inl ⟨by rfl, ?_⟩) hHeld ?_ ?_
      rotate_left
      · rintro w' ⟨s0, s1, s2, s3, s4, s5, s6, s7, s8⟩
        go_simp
        with_reducible rfl
      rotate_left
      · simp only [Act.put, List.setIfInBounds_toArray, List.set_cons_zero, List.set_cons_succ, i64_w, i32_w]
        rfl
      refine take_ (i := 9) (N := some 44) (v := ?_) (a' := ?_) #[true, true, true, true, true, true, true, true, true, true, false, false, false, false] rfl rfl (take_ofW HT_.out HW_.out (by kernel_rfl)) (fun _ _ _ h => h) (Or.inl ⟨by rfl, ?_⟩) hHeld ?_ ?_
      rotate_left
      · rintro w' ⟨s0, s1, s2, s3, s4, s5, s6, s7, s8⟩
        go_simp
        with_reducible rfl
      rotate_left
      · simp only [Act.put, List.setIfInBounds_toArray, List.set_cons_zero, List.set_cons_succ, i64_w, i32_w]
        rfl
      refine pure_ (i := 10) (N := some 45) (v := ?_) (a' := ?_) #[true, true, true, true, true, true, true, true, true, true, true, false, false, false] rfl rfl (any_of HT_.out (by kernel_rfl)) (fun _ _ _ h => h) (Or.inl ⟨by rfl, ?_⟩) ?_ ?_
      rotate_left
      · intro w'
        go_simp
        with_reducible rfl
      rotate_left
      · simp only [Act.put, List.setIfInBounds_toArray, List.set_cons_zero, List.set_cons_succ, i64_w, i32_w]
        rfl
      refine take_ (i := 11) (N := some 46) (v := ?_) (a' := ?_) #[true, true, true, true, true, true, true, true, true, true, true, true, false, false] rfl rfl (take_ofW HT_.out HW_.out (by kernel_rfl)) (fun _ _ _ h => h) (Or.inl ⟨by rfl, ?_⟩) hHeld ?_ ?_
      rotate_left
      · rintro w' ⟨s0, s1, s2, s3, s4, s5, s6, s7, s8⟩
        go_simp
        with_reducible rfl
      rotate_left
      · simp only [Act.put, List.setIfInBounds_toArray, List.set_cons_zero, List.set_cons_succ, i64_w, i32_w]
        rfl
      refine one_ (i := 12) (N := some 47) #[true, true, true, true, true, true, true, true, true, true, true, true, true, false] rfl rfl (one_of HT_.out (by kernel_rfl)) (by decide) (fun K hK => ?_)
      refine goes_ Try.func23 (by kernel_rfl) rfl #[.agg #[.string ((rd_T39 (rd_L4 x4_2 x27_3) 0).f0), .int .i64 ((rd_T39 (rd_L4 x4_2 x27_3) 0).f1), .bool ((rd_T39 (rd_L4 x4_2 x27_3) 0).f2), .string ((rd_T39 (rd_L4 x4_2 x27_3) 0).f3)], .agg #[.string ((rd_T39 (rd_L4 x4_2 x8_3) 0).f0), .int .i64 ((rd_T39 (rd_L4 x4_2 x8_3) 0).f1), .bool ((rd_T39 (rd_L4 x4_2 x8_3) 0).f2), .string ((rd_T39 (rd_L4 x4_2 x8_3) 0).f3)]] (by rfl) rfl rfl (by (try simp only [List.map_toArray, List.map_cons, List.map_nil]); first | done | rfl | (simp only [List.length_drop, List.length_take]; rfl)) ?_
      with_reducible refine (entry_Less.calls k3 ((rd_T39 (rd_L4 x4_2 x27_3) 0).f0) ((rd_T39 (rd_L4 x4_2 x27_3) 0).f1) ((rd_T39 (rd_L4 x4_2 x27_3) 0).f2) ((rd_T39 (rd_L4 x4_2 x27_3) 0).f3) ((rd_T39 (rd_L4 x4_2 x8_3) 0).f0) ((rd_T39 (rd_L4 x4_2 x8_3) 0).f1) ((rd_T39 (rd_L4 x4_2 x8_3) 0).f2) ((rd_T39 (rd_L4 x4_2 x8_3) 0).f3) true _ A22.out).mono ?_
      rintro e w25 ⟨rfl, hb⟩
      have HS0_ := (hb.cell (World.block_lt_of_cell? _ _ (hHeld.1))).trans (hHeld.1)
      have HS1_ := (hb.cell (World.block_lt_of_cell? _ _ (hHeld.2.1))).trans (hHeld.2.1)
      have HS2_ := (hb.cell (World.block_lt_of_cell? _ _ (hHeld.2.2.1))).trans (hHeld.2.2.1)
      have HS3_ := (hb.cell (World.block_lt_of_cell? _ _ (hHeld.2.2.2.1))).trans (hHeld.2.2.2.1)
      have HS4_ := (hb.cell (World.block_lt_of_cell? _ _ (hHeld.2.2.2.2.1))).trans (hHeld.2.2.2.2.1)
      have HS5_ := (hb.cell (World.block_lt_of_cell? _ _ (hHeld.2.2.2.2.2.1))).trans (hHeld.2.2.2.2.2.1)
      have HS6_ := (hb.cell (World.block_lt_of_cell? _ _ (hHeld.2.2.2.2.2.2.1))).trans (hHeld.2.2.2.2.2.2.1)
      have HS7_ := (hb.cell (World.block_lt_of_cell? _ _ (hHeld.2.2.2.2.2.2.2.1))).trans (hHeld.2.2.2.2.2.2.2.1)
      have HS8_ := (hb.cell (World.block_lt_of_cell? _ _ (hHeld.2.2.2.2.2.2.2.2))).trans (hHeld.2.2.2.2.2.2.2.2)
      refine ⟨_, rfl, ?_⟩
      have n0_ := Aside0.mk (Kd.S_below (by (with_reducible repeat (first | apply Kd.S_alloc | apply Kd.S_drewN | apply Kd.S_drew)); exact HO_4.out) hb)
      have n1_ := Aside0.mk (Kd.R_below (by (with_reducible repeat (first | apply Kd.R_alloc | apply Kd.R_drewN | apply Kd.R_drew)); exact HO_7.out) hb)
      have n2_ := Aside0.mk (Kd.S_below (by (with_reducible repeat (first | apply Kd.S_alloc | apply Kd.S_drewN | apply Kd.S_drew)); exact HO_25.out) hb)
      have n5_ := Aside0.mk (Kd.C_below (by repeat (first | (with_reducible exact HR124_0.out) | (with_reducible refine Kd.C_alloc ?_ _) | (with_reducible refine Kd.C_drewN ?_ _) | (with_reducible refine Kd.C_drew ?_) | exact HR124_0.out)) hb)
      have n6_ := Aside0.mk (Kd.C_below (by repeat (first | (with_reducible exact HR126_0.out) | (with_reducible refine Kd.C_alloc ?_ _) | (with_reducible refine Kd.C_drewN ?_ _) | (with_reducible refine Kd.C_drew ?_) | exact HR126_0.out)) hb)
      have n7_ := Aside0.mk (below_step (by repeat (first | (with_reducible first | exact HB.out | apply below_alloc | apply pw_below_drewN | apply below_drew1) | exact HB.out)) hb)
      clear HO_4
      clear HO_7
      clear HO_25
      clear HR124_0
      clear HR126_0
      clear HB
      have HO_4 := n0_
      have HO_7 := n1_
      have HO_25 := n2_
      have HR124_0 := n5_
      have HR126_0 := n6_
      have HB := n7_
      clear n0_ n1_ n2_ n5_ n6_ n7_
      (try clear hb)
      (try clear hb2)
      (try clear hk)
      (try clear hi)
      refine hK.out _ _ ⟨HS0_, HS1_, HS2_, HS3_, HS4_, HS5_, HS6_, HS7_, HS8_⟩ (fun hHeld => ?_)
      clear hK K
      refine norm_ (a' := ?_) ?_ ?_
      rotate_left
      · show Act.put _ (some 47) _ = _
        simp only [Act.put, List.setIfInBounds_toArray, List.set_cons_zero, List.set_cons_succ, i64_w, i32_w]
        rfl
      refine pure_ (i := 13) (N := some 48) (v := ?_) (a' := ?_) #[true, true, true, true, true, true, true, true, true, true, true, true, true, true] rfl rfl (any_of HT_.out (by kernel_rfl)) (fun _ _ _ h => h) (Or.inl ⟨by rfl, ?_⟩) ?_ ?_
      rotate_left
      · intro w'
        go_simp
        with_reducible rfl
      rotate_left
      · simp only [Act.put, List.setIfInBounds_toArray, List.set_cons_zero, List.set_cons_succ, i64_w, i32_w]
        rfl
      refine done_ (done_of HT_.out (by kernel_rfl)) ?_
      try go_wp2_with (first | go_step3 | go_in)
      (try (rw [Exit.noGoto_normal]; go_wp2_with go_step3))
      go_roundg k3
      case measure => have := HK1.out; have := HK2.out; have := HK3.out; omega
      case rel => exact ⟨(x27_3), (wrap64 (x27_3 + 1)), (by first | rfl | (simp; done) | (simp [*]; done)), (by first | rfl | (simp; done) | (simp [*]; done)), H', ⟨by have := HK1.out; have := HK2.out; have := HK3.out; omega⟩, ⟨by (with_reducible repeat (first | apply Kd.S_alloc | apply Kd.S_drewN | apply Kd.S_drew)); exact HO_4.out⟩, ⟨by (with_reducible repeat (first | apply Kd.R_alloc | apply Kd.R_drewN | apply Kd.R_drew)); exact HO_7.out⟩, ⟨by (with_reducible repeat (first | apply Kd.S_alloc | apply Kd.S_drewN | apply Kd.S_drew)); exact HO_25.out⟩, ⟨by repeat (first | (with_reducible first | exact HB.out | apply below_alloc | apply pw_below_drewN | apply below_drew1) | exact HB.out)⟩⟩
    replace c23 := Bool.eq_false_iff.mpr c23
    subst c23
    have H1 : (merge_Rows.l2 k3 x4_2 x7_2 x8_3 x4_2 (x4_2.length : Int) (wrap64 (x27_3 + 1))) = some (r1, r2) := by rw [if_neg (show ¬ (false = true) by decide)] at H; exact H
    clear H
    have H := H1
    clear H1
    have H' := Aside0.mk H
    clear H
    have p124 : 0 ≤ (x27_3 : Int) := of_decide_eq_true (by first | (with_reducible assumption) | assumption)
    have q124 : x27_3 < (x4_2.length : Int) := of_decide_eq_true (by first | (with_reducible assumption) | assumption)
    obtain ⟨ad124, A124_0, c124_0, e124, hx124_0, hl124_0, hi124_0⟩ := at_GL (Kd.S_reads' HO_25.out).2.2 x27_3 p124 q124 (by repeat (first | (with_reducible first | exact HB.out | apply below_alloc | apply pw_below_drewN | apply below_drew1) | exact HB.out))
    cases e124
    have HR124_0 := Aside0.mk hi124_0
    have HC124_0 := Aside0.mk hl124_0
    clear hi124_0 hl124_0
    replace p124 := eq_true p124
    replace q124 := eq_true q124
    try go_wp2_with (first | go_step3 | go_in)
    have n0_ := Aside0.mk (Kd.S_drew HO_4.out)
    have n1_ := Aside0.mk (Kd.R_drew HO_7.out)
    have n2_ := Aside0.mk (Kd.S_drew HO_25.out)
    have n4_ := Aside0.mk (Kd.C_drew HR124_0.out)
    have n5_ := Aside0.mk (below_drew1 HB.out)
    clear HO_4
    clear HO_7
    clear HO_25
    clear HR124_0
    clear HB
    have HO_4 := n0_
    have HO_7 := n1_
    have HO_25 := n2_
    have HR124_0 := n4_
    have HB := n5_
    clear n0_ n1_ n2_ n4_ n5_
    have p125 : 0 ≤ (0 : Int) := (by omega)
    have q125 : 0 < ((rd_L4 x4_2 x27_3).length : Int) := of_decide_eq_true (by first | (with_reducible assumption) | assumption)
    obtain ⟨ad125, e125, hx125_0, hx125_1, hx125_2, hx125_3⟩ := at_T39 (by repeat (first | (with_reducible exact HR124_0.out) | (with_reducible refine Kd.C_alloc ?_ _) | (with_reducible refine Kd.C_drewN ?_ _) | (with_reducible refine Kd.C_drew ?_) | exact HR124_0.out)) 0 p125 q125
    cases e125
    have qi125 : (0 < (rd_L4 x4_2 x27_3).length) = True := eq_true (by omega)
    (try rw [show ((0 : Int)).toNat = 0 from rfl] at hx125_0)
    (try rw [show 0 * 4 = 0 from rfl] at hx125_0)
    (try rw [Addr.add_zero'] at hx125_0)
    (try rw [show ((0 : Int)).toNat = 0 from rfl] at hx125_1)
    (try rw [show 0 * 4 = 0 from rfl] at hx125_1)
    (try rw [Addr.add_zero'] at hx125_1)
    (try rw [show ((0 : Int)).toNat = 0 from rfl] at hx125_2)
    (try rw [show 0 * 4 = 0 from rfl] at hx125_2)
    (try rw [Addr.add_zero'] at hx125_2)
    (try rw [show ((0 : Int)).toNat = 0 from rfl] at hx125_3)
    (try rw [show 0 * 4 = 0 from rfl] at hx125_3)
    (try rw [Addr.add_zero'] at hx125_3)
    replace p125 := eq_true p125
    replace q125 := eq_true q125
    have p126 : 0 ≤ (x8_3 : Int) := of_decide_eq_true (by first | (with_reducible assumption) | assumption)
    have q126 : x8_3 < (x4_2.length : Int) := of_decide_eq_true (by first | (with_reducible assumption) | assumption)
    obtain ⟨ad126, A126_0, c126_0, e126, hx126_0, hl126_0, hi126_0⟩ := at_GL (Kd.S_reads' HO_4.out).2.2 x8_3 p126 q126 (by repeat (first | (with_reducible first | exact HB.out | apply below_alloc | apply pw_below_drewN | apply below_drew1) | exact HB.out))
    obtain rfl : ad124 = ad126 := (by injection e126)
    have HR126_0 := Aside0.mk hi126_0
    have HC126_0 := Aside0.mk hl126_0
    clear hi126_0 hl126_0
    replace p126 := eq_true p126
    replace q126 := eq_true q126
    have p127 : 0 ≤ (0 : Int) := (by omega)
    have q127 : 0 < ((rd_L4 x4_2 x8_3).length : Int) := of_decide_eq_true (by first | (with_reducible assumption) | assumption)
    obtain ⟨ad127, e127, hx127_0, hx127_1, hx127_2, hx127_3⟩ := at_T39 (by repeat (first | (with_reducible exact HR126_0.out) | (with_reducible refine Kd.C_alloc ?_ _) | (with_reducible refine Kd.C_drewN ?_ _) | (with_reducible refine Kd.C_drew ?_) | exact HR126_0.out)) 0 p127 q127
    cases e127
    have qi127 : (0 < (rd_L4 x4_2 x8_3).length) = True := eq_true (by omega)
    (try rw [show ((0 : Int)).toNat = 0 from rfl] at hx127_0)
    (try rw [show 0 * 4 = 0 from rfl] at hx127_0)
    (try rw [Addr.add_zero'] at hx127_0)
    (try rw [show ((0 : Int)).toNat = 0 from rfl] at hx127_1)
    (try rw [show 0 * 4 = 0 from rfl] at hx127_1)
    (try rw [Addr.add_zero'] at hx127_1)
    (try rw [show ((0 : Int)).toNat = 0 from rfl] at hx127_2)
    (try rw [show 0 * 4 = 0 from rfl] at hx127_2)
    (try rw [Addr.add_zero'] at hx127_2)
    (try rw [show ((0 : Int)).toNat = 0 from rfl] at hx127_3)
    (try rw [show 0 * 4 = 0 from rfl] at hx127_3)
    (try rw [Addr.add_zero'] at hx127_3)
    replace p127 := eq_true p127
    replace q127 := eq_true q127
    refine start_ (n := 14) (S := fun w' => w'.cell? ad125 = some (.string ((rd_T39 (rd_L4 x4_2 x27_3) 0).f0)) ∧ w'.cell? ⟨ad125.block, ad125.off + 1, none⟩ = some (.int .i64 ((rd_T39 (rd_L4 x4_2 x27_3) 0).f1)) ∧ w'.cell? ⟨ad125.block, ad125.off + 2, none⟩ = some (.bool ((rd_T39 (rd_L4 x4_2 x27_3) 0).f2)) ∧ w'.cell? ⟨ad125.block, ad125.off + 3, none⟩ = some (.string ((rd_T39 (rd_L4 x4_2 x27_3) 0).f3)) ∧ w'.cell? (ad124.add (x8_3).toNat) = some (.slice (some ad127) (rd_L4 x4_2 x8_3).length c126_0) ∧ w'.cell? ad127 = some (.string ((rd_T39 (rd_L4 x4_2 x8_3) 0).f0)) ∧ w'.cell? ⟨ad127.block, ad127.off + 1, none⟩ = some (.int .i64 ((rd_T39 (rd_L4 x4_2 x8_3) 0).f1)) ∧ w'.cell? ⟨ad127.block, ad127.off + 2, none⟩ = some (.bool ((rd_T39 (rd_L4 x4_2 x8_3) 0).f2)) ∧ w'.cell? ⟨ad127.block, ad127.off + 3, none⟩ = some (.string ((rd_T39 (rd_L4 x4_2 x8_3) 0).f3))) (ds := []) #[false, false, false, false, false, false, false, false, false, false, false, false, false, false] (by kernel_rfl) rfl rfl ⟨hx125_0, hx125_1, hx125_2, hx125_3, hx126_0, hx127_0, hx127_1, hx127_2, hx127_3⟩ (fun hHeld => ?_); refine with_tabW merge_Rows.tab14 merge_Rows.bits14 (fun HT_ HW_ => ?_)
    generalize wr.drew = w26 at HO_4 HO_7 HO_25 HR124_0 HB HR126_0 hx125_0 hx125_1 hx125_2 hx125_3 hx126_0 hx127_0 hx127_1 hx127_2 hx127_3 hHeld ⊢
    refine pure_ (i := 0) (N := some 35) (v := ?_) (a' := ?_) #[true, false, false, false, false, false, false, false, false, false, false, false, false, false] rfl rfl (any_of HT_.out (by kernel_rfl)) (fun _ _ _ h => h) (Or.inl ⟨by rfl, ?_⟩) ?_ ?_
    rotate_left
    · intro w'
      go_simp
      with_reducible rfl
    rotate_left
    · simp only [Act.put, List.setIfInBounds_toArray, List.set_cons_zero, List.set_cons_succ, i64_w, i32_w]
      rfl
    refine pure_ (i := 1) (N := some 36) (v := ?_) (a' := ?_) #[true, true, false, false, false, false, false, false, false, false, false, false, false, false] rfl rfl (any_of HT_.out (by kernel_rfl)) (fun _ _ _ h => h) (Or.inl ⟨by rfl, ?_⟩) ?_ ?_
    rotate_left
    · intro w'
      go_simp
      with_reducible rfl
    rotate_left
    · simp only [Act.put, List.setIfInBounds_toArray, List.set_cons_zero, List.set_cons_succ, i64_w, i32_w]
      rfl
    refine pure_ (i := 2) (N := some 37) (v := ?_) (a' := ?_) #[true, true, true, false, false, false, false, false, false, false, false, false, false, false] rfl rfl (any_of HT_.out (by kernel_rfl)) (fun _ _ _ h => h) (Or.inl ⟨by rfl, ?_⟩) ?_ ?_
    rotate_left
    · intro w'
      go_simp
      with_reducible rfl
    rotate_left
    · simp only [Act.put, List.setIfInBounds_toArray, List.set_cons_zero, List.set_cons_succ, i64_w, i32_w]
      rfl
    refine pure_ (i := 3) (N := some 38) (v := ?_) (a' := ?_) #[true, true, true, true, false, false, false, false, false, false, false, false, false, false] rfl rfl (any_of HT_.out (by kernel_rfl)) (fun _ _ _ h => h) (Or.inl ⟨by rfl, ?_⟩) ?_ ?_
    rotate_left
    · intro w'
      go_simp
      with_reducible rfl
    rotate_left
    · simp only [Act.put, List.setIfInBounds_toArray, List.set_cons_zero, List.set_cons_succ, i64_w, i32_w]
      rfl
    refine pure_ (i := 4) (N := some 39) (v := ?_) (a' := ?_) #[true, true, true, true, true, false, false, false, false, false, false, false, false, false] rfl rfl (any_of HT_.out (by kernel_rfl)) (fun _ _ _ h => h) (Or.inl ⟨by rfl, ?_⟩) ?_ ?_
    rotate_left
    · intro w'
      go_simp
      with_reducible rfl
    rotate_left
    · simp only [Act.put, List.setIfInBounds_toArray, List.set_cons_zero, List.set_cons_succ, i64_w, i32_w]
      rfl
    refine pure_ (i := 6) (N := some 41) (v := ?_) (a' := ?_) #[true, true, true, true, true, false, true, false, false, false, false, false, false, false] rfl rfl (any_of HT_.out (by kernel_rfl)) (fun _ _ _ h => h) (Or.inl ⟨by rfl, ?_⟩) ?_ ?_
    rotate_left
    · intro w'
      go_simp
      with_reducible rfl
    rotate_left
    · simp only [Act.put, List.setIfInBounds_toArray, List.set_cons_zero, List.set_cons_succ, i64_w, i32_w]
      rfl
    refine pure_ (i := 7) (N := some 42) (v := ?_) (a' := ?_) #[true, true, true, true, true, false, true, true, false, false, false, false, false, false] rfl rfl (any_of HT_.out (by kernel_rfl)) (fun _ _ _ h => h) (Or.inl ⟨by rfl, ?_⟩) ?_ ?_
    rotate_left
    · intro w'
      go_simp
      with_reducible rfl
    rotate_left
    · simp only [Act.put, List.setIfInBounds_toArray, List.set_cons_zero, List.set_cons_succ, i64_w, i32_w]
      rfl
    refine pure_ (i := 8) (N := some 43) (v := ?_) (a' := ?_) #[true, true, true, true, true, false, true, true, true, false, false, false, false, false] rfl rfl (any_of HT_.out (by kernel_rfl)) (fun _ _ _ h => h) (Or.inl ⟨by rfl, ?_⟩) ?_ ?_
    rotate_left
    · intro w'
      go_simp
      with_reducible rfl
    rotate_left
    · simp only [Act.put, List.setIfInBounds_toArray, List.set_cons_zero, List.set_cons_succ, i64_w, i32_w]
      rfl
    refine take_ (i := 5) (N := some 40) (v := ?_) (a' := ?_) #[true, true, true, true, true, true, true, true, true, false, false, false, false, false] rfl rfl (take_ofW HT_.out HW_.out (by kernel_rfl)) (fun _ _ _ h => h) (Or.inl ⟨by rfl, ?_⟩) hHeld ?_ ?_
    rotate_left
    · rintro w' ⟨s0, s1, s2, s3, s4, s5, s6, s7, s8⟩
      go_simp
      with_reducible rfl
    rotate_left
    · simp only [Act.put, List.setIfInBounds_toArray, List.set_cons_zero, List.set_cons_succ, i64_w, i32_w]
      rfl
    refine take_ (i := 9) (N := some 44) (v := ?_) (a' := ?_) #[true, true, true, true, true, true, true, true, true, true, false, false, false, false] rfl rfl (take_ofW HT_.out HW_.out (by kernel_rfl)) (fun _ _ _ h => h) (Or.inl ⟨by rfl, ?_⟩) hHeld ?_ ?_
    rotate_left
    · rintro w' ⟨s0, s1, s2, s3, s4, s5, s6, s7, s8⟩
      go_simp
      with_reducible rfl
    rotate_left
    · simp only [Act.put, List.setIfInBounds_toArray, List.set_cons_zero, List.set_cons_succ, i64_w, i32_w]
      rfl
    refine pure_ (i := 10) (N := some 45) (v := ?_) (a' := ?_) #[true, true, true, true, true, true, true, true, true, true, true, false, false, false] rfl rfl (any_of HT_.out (by kernel_rfl)) (fun _ _ _ h => h) (Or.inl ⟨by rfl, ?_⟩) ?_ ?_
    rotate_left
    · intro w'
      go_simp
      with_reducible rfl
    rotate_left
    · simp only [Act.put, List.setIfInBounds_toArray, List.set_cons_zero, List.set_cons_succ, i64_w, i32_w]
      rfl
    refine take_ (i := 11) (N := some 46) (v := ?_) (a' := ?_) #[true, true, true, true, true, true, true, true, true, true, true, true, false, false] rfl rfl (take_ofW HT_.out HW_.out (by kernel_rfl)) (fun _ _ _ h => h) (Or.inl ⟨by rfl, ?_⟩) hHeld ?_ ?_
    rotate_left
    · rintro w' ⟨s0, s1, s2, s3, s4, s5, s6, s7, s8⟩
      go_simp
      with_reducible rfl
    rotate_left
    · simp only [Act.put, List.setIfInBounds_toArray, List.set_cons_zero, List.set_cons_succ, i64_w, i32_w]
      rfl
    refine one_ (i := 12) (N := some 47) #[true, true, true, true, true, true, true, true, true, true, true, true, true, false] rfl rfl (one_of HT_.out (by kernel_rfl)) (by decide) (fun K hK => ?_)
    refine goes_ Try.func23 (by kernel_rfl) rfl #[.agg #[.string ((rd_T39 (rd_L4 x4_2 x27_3) 0).f0), .int .i64 ((rd_T39 (rd_L4 x4_2 x27_3) 0).f1), .bool ((rd_T39 (rd_L4 x4_2 x27_3) 0).f2), .string ((rd_T39 (rd_L4 x4_2 x27_3) 0).f3)], .agg #[.string ((rd_T39 (rd_L4 x4_2 x8_3) 0).f0), .int .i64 ((rd_T39 (rd_L4 x4_2 x8_3) 0).f1), .bool ((rd_T39 (rd_L4 x4_2 x8_3) 0).f2), .string ((rd_T39 (rd_L4 x4_2 x8_3) 0).f3)]] (by rfl) rfl rfl (by (try simp only [List.map_toArray, List.map_cons, List.map_nil]); first | done | rfl | (simp only [List.length_drop, List.length_take]; rfl)) ?_
    with_reducible refine (entry_Less.calls k3 ((rd_T39 (rd_L4 x4_2 x27_3) 0).f0) ((rd_T39 (rd_L4 x4_2 x27_3) 0).f1) ((rd_T39 (rd_L4 x4_2 x27_3) 0).f2) ((rd_T39 (rd_L4 x4_2 x27_3) 0).f3) ((rd_T39 (rd_L4 x4_2 x8_3) 0).f0) ((rd_T39 (rd_L4 x4_2 x8_3) 0).f1) ((rd_T39 (rd_L4 x4_2 x8_3) 0).f2) ((rd_T39 (rd_L4 x4_2 x8_3) 0).f3) false _ A22.out).mono ?_
    rintro e w27 ⟨rfl, hb⟩
    have HS0_ := (hb.cell (World.block_lt_of_cell? _ _ (hHeld.1))).trans (hHeld.1)
    have HS1_ := (hb.cell (World.block_lt_of_cell? _ _ (hHeld.2.1))).trans (hHeld.2.1)
    have HS2_ := (hb.cell (World.block_lt_of_cell? _ _ (hHeld.2.2.1))).trans (hHeld.2.2.1)
    have HS3_ := (hb.cell (World.block_lt_of_cell? _ _ (hHeld.2.2.2.1))).trans (hHeld.2.2.2.1)
    have HS4_ := (hb.cell (World.block_lt_of_cell? _ _ (hHeld.2.2.2.2.1))).trans (hHeld.2.2.2.2.1)
    have HS5_ := (hb.cell (World.block_lt_of_cell? _ _ (hHeld.2.2.2.2.2.1))).trans (hHeld.2.2.2.2.2.1)
    have HS6_ := (hb.cell (World.block_lt_of_cell? _ _ (hHeld.2.2.2.2.2.2.1))).trans (hHeld.2.2.2.2.2.2.1)
    have HS7_ := (hb.cell (World.block_lt_of_cell? _ _ (hHeld.2.2.2.2.2.2.2.1))).trans (hHeld.2.2.2.2.2.2.2.1)
    have HS8_ := (hb.cell (World.block_lt_of_cell? _ _ (hHeld.2.2.2.2.2.2.2.2))).trans (hHeld.2.2.2.2.2.2.2.2)
    refine ⟨_, rfl, ?_⟩
    have n0_ := Aside0.mk (Kd.S_below (by (with_reducible repeat (first | apply Kd.S_alloc | apply Kd.S_drewN | apply Kd.S_drew)); exact HO_4.out) hb)
    have n1_ := Aside0.mk (Kd.R_below (by (with_reducible repeat (first | apply Kd.R_alloc | apply Kd.R_drewN | apply Kd.R_drew)); exact HO_7.out) hb)
    have n2_ := Aside0.mk (Kd.S_below (by (with_reducible repeat (first | apply Kd.S_alloc | apply Kd.S_drewN | apply Kd.S_drew)); exact HO_25.out) hb)
    have n5_ := Aside0.mk (Kd.C_below (by repeat (first | (with_reducible exact HR124_0.out) | (with_reducible refine Kd.C_alloc ?_ _) | (with_reducible refine Kd.C_drewN ?_ _) | (with_reducible refine Kd.C_drew ?_) | exact HR124_0.out)) hb)
    have n6_ := Aside0.mk (Kd.C_below (by repeat (first | (with_reducible exact HR126_0.out) | (with_reducible refine Kd.C_alloc ?_ _) | (with_reducible refine Kd.C_drewN ?_ _) | (with_reducible refine Kd.C_drew ?_) | exact HR126_0.out)) hb)
    have n7_ := Aside0.mk (below_step (by repeat (first | (with_reducible first | exact HB.out | apply below_alloc | apply pw_below_drewN | apply below_drew1) | exact HB.out)) hb)
    clear HO_4
    clear HO_7
    clear HO_25
    clear HR124_0
    clear HR126_0
    clear HB
    have HO_4 := n0_
    have HO_7 := n1_
    have HO_25 := n2_
    have HR124_0 := n5_
    have HR126_0 := n6_
    have HB := n7_
    clear n0_ n1_ n2_ n5_ n6_ n7_
    (try clear hb)
    (try clear hb2)
    (try clear hk)
    (try clear hi)
    refine hK.out _ _ ⟨HS0_, HS1_, HS2_, HS3_, HS4_, HS5_, HS6_, HS7_, HS8_⟩ (fun hHeld => ?_)
    clear hK K
    refine norm_ (a' := ?_) ?_ ?_
    rotate_left
    · show Act.put _ (some 47) _ = _
      simp only [Act.put, List.setIfInBounds_toArray, List.set_cons_zero, List.set_cons_succ, i64_w, i32_w]
      rfl
    refine pure_ (i := 13) (N := some 48) (v := ?_) (a' := ?_) #[true, true, true, true, true, true, true, true, true, true, true, true, true, true] rfl rfl (any_of HT_.out (by kernel_rfl)) (fun _ _ _ h => h) (Or.inl ⟨by rfl, ?_⟩) ?_ ?_
    rotate_left
    · intro w'
      go_simp
      with_reducible rfl
    rotate_left
    · simp only [Act.put, List.setIfInBounds_toArray, List.set_cons_zero, List.set_cons_succ, i64_w, i32_w]
      rfl
    refine done_ (done_of HT_.out (by kernel_rfl)) ?_
    try go_wp2_with (first | go_step3 | go_in)
    (try (rw [Exit.noGoto_normal]; go_wp2_with go_step3))
    go_roundg k3
    case measure => have := HK1.out; have := HK2.out; have := HK3.out; omega
    case rel => exact ⟨(x8_3), (wrap64 (x27_3 + 1)), (by first | rfl | (simp; done) | (simp [*]; done)), (by first | rfl | (simp; done) | (simp [*]; done)), H', ⟨by have := HK1.out; have := HK2.out; have := HK3.out; omega⟩, ⟨by (with_reducible repeat (first | apply Kd.S_alloc | apply Kd.S_drewN | apply Kd.S_drew)); exact HO_4.out⟩, ⟨by (with_reducible repeat (first | apply Kd.R_alloc | apply Kd.R_drewN | apply Kd.R_drew)); exact HO_7.out⟩, ⟨by (with_reducible repeat (first | apply Kd.S_alloc | apply Kd.S_drewN | apply Kd.S_drew)); exact HO_25.out⟩, ⟨by repeat (first | (with_reducible first | exact HB.out | apply below_alloc | apply pw_below_drewN | apply below_drew1) | exact HB.out)⟩⟩
  rw [if_neg c12] at H
  clear HO_25
  have c12b0 : decide (x27_3 < (x4_2.length : Int)) = false := decide_eq_false c12
  clear c12
  by_cases c28 : x8_3 < 0
  · rw [if_pos c28] at H
    have c28b0 : decide (x8_3 < 0) = true := decide_eq_true c28
    clear c28
    simp only [Option.some.injEq, Prod.mk.injEq] at H
    obtain ⟨rfl, rfl⟩ := H
    go_wp2_with (first | go_step3 | go_in)
    ((try rw [Exit.noGoto_ret]); go_ret2)
    exact ⟨_, by first | rfl | (simp [errW_none, errW_some] <;> rfl) | (simp [*, errW_none, errW_some] <;> rfl), by (with_reducible repeat (first | apply Kd.R_alloc | apply Kd.R_drewN | apply Kd.R_drew)); exact HO_7.out, by repeat (first | (with_reducible first | exact HB.out | apply below_alloc | apply pw_below_drewN | apply below_drew1) | exact HB.out)⟩
  rw [if_neg c28] at H
  have c28b0 : decide (x8_3 < 0) = false := decide_eq_false c28
  clear c28
  by_cases c29 : 0 ≤ x8_3
  rotate_left
  · rw [if_neg c29] at H
    exact absurd H (by simp)
  rw [if_pos c29] at H
  have c29b0 : decide (0 ≤ x8_3) = true := decide_eq_true c29
  clear c29
  by_cases c30 : x8_3 < (x4_2.length : Int)
  rotate_left
  · rw [if_neg c30] at H
    exact absurd H (by simp)
  rw [if_pos c30] at H
  have c30b0 : decide (x8_3 < (x4_2.length : Int)) = true := decide_eq_true c30
  clear c30
  by_cases c31 : 0 < ((rd_L4 x4_2 x8_3).length : Int)
  rotate_left
  · rw [if_neg c31] at H
    exact absurd H (by simp)
  rw [if_pos c31] at H
  have c31b0 : decide (0 < ((rd_L4 x4_2 x8_3).length : Int)) = true := decide_eq_true c31
  have c31b1 : decide (0 < (rd_L4 x4_2 x8_3).length) = true := decide_eq_true (by omega)
  clear c31
  by_cases c32 : 1 ≤ ((rd_L4 x4_2 x8_3).length : Int)
  rotate_left
  · rw [if_neg c32] at H
    exact absurd H (by simp)
  rw [if_pos c32] at H
  have c32b0 := eq_true c32
  have c32b1 : decide (1 ≤ ((rd_L4 x4_2 x8_3).length : Int)) = true := decide_eq_true c32
  clear c32
  obtain ⟨y133, hy133⟩ : ∃ y_ : List (S39), y_ = ((rd_L4 x4_2 x8_3).drop 1) := ⟨_, rfl⟩
  replace H : ((some (x4_2.set (x8_3 : Int).toNat y133 : List (List (S39)))).bind fun y137 => (if (x7_2.length : Int) = 0 then (if x7_2.length < 2932031007402 then (merge_Rows.l1 k3 y137 (x7_2 ++ [(⟨(rd_T39 (rd_L4 x4_2 x8_3) 0).f0, (rd_T39 (rd_L4 x4_2 x8_3) 0).f1, (rd_T39 (rd_L4 x4_2 x8_3) 0).f2, (rd_T39 (rd_L4 x4_2 x8_3) 0).f3⟩ : S39)])) else (none)) else (if 0 ≤ (wrap64 ((x7_2.length : Int) - 1)) then (if (wrap64 ((x7_2.length : Int) - 1)) < (x7_2.length : Int) then ((entry_Compare.f k3 ((rd_T39 x7_2 (wrap64 ((x7_2.length : Int) - 1))).f0) ((rd_T39 x7_2 (wrap64 ((x7_2.length : Int) - 1))).f1) ((rd_T39 x7_2 (wrap64 ((x7_2.length : Int) - 1))).f2) ((rd_T39 x7_2 (wrap64 ((x7_2.length : Int) - 1))).f3) ((rd_T39 (rd_L4 x4_2 x8_3) 0).f0) ((rd_T39 (rd_L4 x4_2 x8_3) 0).f1) ((rd_T39 (rd_L4 x4_2 x8_3) 0).f2) ((rd_T39 (rd_L4 x4_2 x8_3) 0).f3)).bind fun t142 => (if t142 = 0 then (merge_Rows.l1 k3 y137 x7_2) else (if x7_2.length < 2932031007402 then (merge_Rows.l1 k3 y137 (x7_2 ++ [(⟨(rd_T39 (rd_L4 x4_2 x8_3) 0).f0, (rd_T39 (rd_L4 x4_2 x8_3) 0).f1, (rd_T39 (rd_L4 x4_2 x8_3) 0).f2, (rd_T39 (rd_L4 x4_2 x8_3) 0).f3⟩ : S39)])) else (none)))) else (none)) else (none)))) = some (r1, r2) := by first | (rw [hy133]; with_reducible exact H) | (have H2_ := (Option.bind_some _ _).symm.trans H; rw [hy133]; with_reducible exact H2_) | (have H2_ := (Option.bind_some _ _).symm.trans H; with_reducible exact H2_) | with_reducible exact H | (rw [hy133]; exact H) | exact H
  have Ny133 := Aside0.mk hy133
  clear hy133
  obtain ⟨y137, hy137⟩ : ∃ y_ : List (List (S39)), y_ = (x4_2.set (x8_3 : Int).toNat y133) := ⟨_, rfl⟩
  replace H : (if (x7_2.length : Int) = 0 then (if x7_2.length < 2932031007402 then (merge_Rows.l1 k3 y137 (x7_2 ++ [(⟨(rd_T39 (rd_L4 x4_2 x8_3) 0).f0, (rd_T39 (rd_L4 x4_2 x8_3) 0).f1, (rd_T39 (rd_L4 x4_2 x8_3) 0).f2, (rd_T39 (rd_L4 x4_2 x8_3) 0).f3⟩ : S39)])) else (none)) else (if 0 ≤ (wrap64 ((x7_2.length : Int) - 1)) then (if (wrap64 ((x7_2.length : Int) - 1)) < (x7_2.length : Int) then ((entry_Compare.f k3 ((rd_T39 x7_2 (wrap64 ((x7_2.length : Int) - 1))).f0) ((rd_T39 x7_2 (wrap64 ((x7_2.length : Int) - 1))).f1) ((rd_T39 x7_2 (wrap64 ((x7_2.length : Int) - 1))).f2) ((rd_T39 x7_2 (wrap64 ((x7_2.length : Int) - 1))).f3) ((rd_T39 (rd_L4 x4_2 x8_3) 0).f0) ((rd_T39 (rd_L4 x4_2 x8_3) 0).f1) ((rd_T39 (rd_L4 x4_2 x8_3) 0).f2) ((rd_T39 (rd_L4 x4_2 x8_3) 0).f3)).bind fun t142 => (if t142 = 0 then (merge_Rows.l1 k3 y137 x7_2) else (if x7_2.length < 2932031007402 then (merge_Rows.l1 k3 y137 (x7_2 ++ [(⟨(rd_T39 (rd_L4 x4_2 x8_3) 0).f0, (rd_T39 (rd_L4 x4_2 x8_3) 0).f1, (rd_T39 (rd_L4 x4_2 x8_3) 0).f2, (rd_T39 (rd_L4 x4_2 x8_3) 0).f3⟩ : S39)])) else (none)))) else (none)) else (none))) = some (r1, r2) := by first | (rw [hy137]; with_reducible exact H) | (have H2_ := (Option.bind_some _ _).symm.trans H; rw [hy137]; with_reducible exact H2_) | (have H2_ := (Option.bind_some _ _).symm.trans H; with_reducible exact H2_) | with_reducible exact H | (rw [hy137]; exact H) | exact H
  have Ny137 := Aside0.mk hy137
  clear hy137
  by_cases c34 : (x7_2.length : Int) = 0
  · rw [if_pos c34] at H
    have c34b0 : ((x7_2.length : Int) == 0) = true := beq_iff_eq.mpr c34
    have c34b1 : ((x7_2.length : Int) != 0) = false := bne_eq_false_iff_eq.mpr c34
    clear c34
    by_cases c35 : x7_2.length < 2932031007402
    rotate_left
    · rw [if_neg c35] at H
      exact absurd H (by simp)
    rw [if_pos c35] at H
    have LMc35 := Aside0.mk c35
    clear c35
    obtain ⟨y138, hy138⟩ : ∃ y_ : List (S39), y_ = (x7_2 ++ [(⟨(rd_T39 (rd_L4 x4_2 x8_3) 0).f0, (rd_T39 (rd_L4 x4_2 x8_3) 0).f1, (rd_T39 (rd_L4 x4_2 x8_3) 0).f2, (rd_T39 (rd_L4 x4_2 x8_3) 0).f3⟩ : S39)]) := ⟨_, rfl⟩
    replace H : (merge_Rows.l1 k3 y137 y138) = some (r1, r2) := by first | (rw [hy138]; with_reducible exact H) | (have H2_ := (Option.bind_some _ _).symm.trans H; rw [hy138]; with_reducible exact H2_) | (have H2_ := (Option.bind_some _ _).symm.trans H; with_reducible exact H2_) | with_reducible exact H | (rw [hy138]; exact H) | exact H
    have Ny138 := Aside0.mk hy138
    clear hy138
    have H' := Aside0.mk H
    clear H
    have p129 : 0 ≤ (x8_3 : Int) := of_decide_eq_true (by first | (with_reducible assumption) | assumption)
    have q129 : x8_3 < (x4_2.length : Int) := of_decide_eq_true (by first | (with_reducible assumption) | assumption)
    obtain ⟨ad129, A129_0, c129_0, e129, hx129_0, hl129_0, hi129_0⟩ := at_GL (Kd.S_reads' HO_4.out).2.2 x8_3 p129 q129 (by repeat (first | (with_reducible first | exact HB.out | apply below_alloc | apply pw_below_drewN | apply below_drew1) | exact HB.out))
    cases e129
    have HR129_0 := Aside0.mk hi129_0
    have HC129_0 := Aside0.mk hl129_0
    clear hi129_0 hl129_0
    replace p129 := eq_true p129
    replace q129 := eq_true q129
    have p130 : 0 ≤ (0 : Int) := (by omega)
    have q130 : 0 < ((rd_L4 x4_2 x8_3).length : Int) := of_decide_eq_true (by first | (with_reducible assumption) | assumption)
    obtain ⟨ad130, e130, hx130_0, hx130_1, hx130_2, hx130_3⟩ := at_T39 (by repeat (first | (with_reducible exact HR129_0.out) | (with_reducible refine Kd.C_alloc ?_ _) | (with_reducible refine Kd.C_drewN ?_ _) | (with_reducible refine Kd.C_drew ?_) | exact HR129_0.out)) 0 p130 q130
    cases e130
    have qi130 : (0 < (rd_L4 x4_2 x8_3).length) = True := eq_true (by omega)
    (try rw [show ((0 : Int)).toNat = 0 from rfl] at hx130_0)
    (try rw [show 0 * 4 = 0 from rfl] at hx130_0)
    (try rw [Addr.add_zero'] at hx130_0)
    (try rw [show ((0 : Int)).toNat = 0 from rfl] at hx130_1)
    (try rw [show 0 * 4 = 0 from rfl] at hx130_1)
    (try rw [Addr.add_zero'] at hx130_1)
    (try rw [show ((0 : Int)).toNat = 0 from rfl] at hx130_2)
    (try rw [show 0 * 4 = 0 from rfl] at hx130_2)
    (try rw [Addr.add_zero'] at hx130_2)
    (try rw [show ((0 : Int)).toNat = 0 from rfl] at hx130_3)
    (try rw [show 0 * 4 = 0 from rfl] at hx130_3)
    (try rw [Addr.add_zero'] at hx130_3)
    replace p130 := eq_true p130
    replace q130 := eq_true q130
    try go_wp2_with (first | go_step3 | ((with_reducible refine gate_dst (N := 11) rfl ?_); refine box_event ?hg (N := 11) ?hd (cs := #[.string (⟨#[]⟩ : ByteArray), .int .i64 0, .bool false, .string (⟨#[]⟩ : ByteArray)]) (t := 39) ?hr ?_; (case hd => rfl); (case hg => rfl); (case hr => first | (go_simp; done) | (go_simp; rfl)); intro gb131 hg w36 hbox hb; have n0_ := Aside0.mk (Kd.S_below (Kd.S_elderB (by (with_reducible repeat (first | apply Kd.S_alloc | apply Kd.S_drewN | apply Kd.S_drew)); exact HO_4.out) gb131 (Nat.le_of_eq hg.symm)) hb); have n1_ := Aside0.mk (Kd.R_below (Kd.R_elderB (by (with_reducible repeat (first | apply Kd.R_alloc | apply Kd.R_drewN | apply Kd.R_drew)); exact HO_7.out) gb131 (Nat.le_of_eq hg.symm)) hb); have n4_ := Aside0.mk (Kd.C_below (by repeat (first | (with_reducible exact HR129_0.out) | (with_reducible refine Kd.C_alloc ?_ _) | (with_reducible refine Kd.C_drewN ?_ _) | (with_reducible refine Kd.C_drew ?_) | exact HR129_0.out)) hb); have n5_ := Aside0.mk (below_step (by repeat (first | (with_reducible first | exact HB.out | apply below_alloc | apply pw_below_drewN | apply below_drew1) | exact HB.out)) hb); have n6_ := Aside0.mk (hbox); have n7_ := Aside0.mk ((by rw [hg]; exact (below_size (by repeat (first | (with_reducible first | exact HB.out | apply below_alloc | apply pw_below_drewN | apply below_drew1) | exact HB.out))) : w.heap.size ≤ gb131)); have n8_ := Aside0.mk ((by rw [hg]; exact (below_size (by repeat (first | (with_reducible first | exact HB.out | apply below_alloc | apply pw_below_drewN | apply below_drew1) | exact HB.out))) : w.heap.size ≤ gb131)); clear HO_4; clear HO_7; clear HR129_0; clear HB; have HO_4 := n0_; have HO_7 := n1_; have HR129_0 := n4_; have HB := n5_; have BK131 := n6_; have GW131 := n7_; have GE131 := n8_; clear n0_ n1_ n4_ n5_ n6_ n7_ n8_; clear hb hbox hg; have hcz37_0 : w36.cell? ⟨gb131, 0, none⟩ = some (.string (⟨#[]⟩ : ByteArray)) := (blk_cell BK131.out 0).trans rfl; have hcz37_1 : w36.cell? ⟨gb131, 1, none⟩ = some (.int .i64 0) := (blk_cell BK131.out 1).trans rfl; have hcz37_2 : w36.cell? ⟨gb131, 2, none⟩ = some (.bool false) := (blk_cell BK131.out 2).trans rfl; have hcz37_3 : w36.cell? ⟨gb131, 3, none⟩ = some (.string (⟨#[]⟩ : ByteArray)) := (blk_cell BK131.out 3).trans rfl; have hfz37_0 := blk_frozen BK131.out 0; have hfz37_1 := blk_frozen BK131.out 1; have hfz37_2 := blk_frozen BK131.out 2; have hfz37_3 := blk_frozen BK131.out 3) | ((with_reducible refine gate_store (t := 39) (p := 11) rfl ?_); refine store_event (t := 39) (p := 11) (v := ?vo_w38) (w1 := ((((w36.setCell ⟨gb131, 0, none⟩ (.string ((rd_T39 (rd_L4 x4_2 x8_3) 0).f0))).setCell ⟨gb131, 1, none⟩ (.int .i64 ((rd_T39 (rd_L4 x4_2 x8_3) 0).f1))).setCell ⟨gb131, 2, none⟩ (.bool ((rd_T39 (rd_L4 x4_2 x8_3) 0).f2))).setCell ⟨gb131, 3, none⟩ (.string ((rd_T39 (rd_L4 x4_2 x8_3) 0).f3)))) ?hg ?ho ?hn ?hr ?_; (case ho => rfl); (case hg => rfl); (case hn => rfl); (case hr => first | (go_simp; done) | (go_simp; rfl)); intro w38 hw; have n0_ : Aside0 (Kd.S (kGL w) 23 w38 w.heap.size (fun k_ => some k_ ≠ (u7 : Value).ownBlock ∧ k_ ≠ gb131) (.slice (some ad129) x4_2.length co11) x4_2) := ⟨(by rw [hw]; exact (by (with_reducible repeat (first | apply Kd.S_alloc | apply Kd.S_drewN | apply Kd.S_drew)); exact Kd.S_mono (Kd.S_far (p := ⟨gb131, 3, none⟩) (Kd.S_far (p := ⟨gb131, 2, none⟩) (Kd.S_far (p := ⟨gb131, 1, none⟩) (Kd.S_far (p := ⟨gb131, 0, none⟩) (Kd.S_mono HO_4.out (fun k_ hk => (⟨hk, hk.2⟩ : _ ∧ k_ ≠ gb131))) (fun _ hk => hk.2) (.string ((rd_T39 (rd_L4 x4_2 x8_3) 0).f0))) (fun _ hk => hk.2) (.int .i64 ((rd_T39 (rd_L4 x4_2 x8_3) 0).f1))) (fun _ hk => hk.2) (.bool ((rd_T39 (rd_L4 x4_2 x8_3) 0).f2))) (fun _ hk => hk.2) (.string ((rd_T39 (rd_L4 x4_2 x8_3) 0).f3))) (fun _ hk => ⟨hk.1.1, hk.1.2⟩)))⟩; have n1_ : Aside0 (Kd.R k39 39 w38 w.heap.size (fun k_ => k_ ≠ gb131) u7 x7_2) := ⟨(by rw [hw]; exact (by (with_reducible repeat (first | apply Kd.R_alloc | apply Kd.R_drewN | apply Kd.R_drew)); exact Kd.R_mono (Kd.R_far (p := ⟨gb131, 3, none⟩) (Kd.R_far (p := ⟨gb131, 2, none⟩) (Kd.R_far (p := ⟨gb131, 1, none⟩) (Kd.R_far (p := ⟨gb131, 0, none⟩) (Kd.R_mono HO_7.out (fun k_ hk => (⟨hk, hk.2⟩ : _ ∧ k_ ≠ gb131))) (fun _ hk => hk.2) (.string ((rd_T39 (rd_L4 x4_2 x8_3) 0).f0))) (fun _ hk => hk.2) (.int .i64 ((rd_T39 (rd_L4 x4_2 x8_3) 0).f1))) (fun _ hk => hk.2) (.bool ((rd_T39 (rd_L4 x4_2 x8_3) 0).f2))) (fun _ hk => hk.2) (.string ((rd_T39 (rd_L4 x4_2 x8_3) 0).f3))) (fun _ hk => hk.1.2)))⟩; have n4_ : Aside0 (w38.heap[gb131]? = some (.cells #[.string ((rd_T39 (rd_L4 x4_2 x8_3) 0).f0), .int .i64 ((rd_T39 (rd_L4 x4_2 x8_3) 0).f1), .bool ((rd_T39 (rd_L4 x4_2 x8_3) 0).f2), .string ((rd_T39 (rd_L4 x4_2 x8_3) 0).f3)] 39 (0, 0))) := ⟨(by rw [hw]; exact (by (with_reducible repeat (first | refine blk_drewN ?_ _ | refine blk_drew ?_ | refine blk_alloc ?_ _)); refine blk_put (cs := #[.string ((rd_T39 (rd_L4 x4_2 x8_3) 0).f0), .int .i64 ((rd_T39 (rd_L4 x4_2 x8_3) 0).f1), .bool ((rd_T39 (rd_L4 x4_2 x8_3) 0).f2), .string (⟨#[]⟩ : ByteArray)]) ?_ 3 _ rfl; (with_reducible repeat (first | refine blk_drewN ?_ _ | refine blk_drew ?_ | refine blk_alloc ?_ _)); refine blk_put (cs := #[.string ((rd_T39 (rd_L4 x4_2 x8_3) 0).f0), .int .i64 ((rd_T39 (rd_L4 x4_2 x8_3) 0).f1), .bool false, .string (⟨#[]⟩ : ByteArray)]) ?_ 2 _ rfl; (with_reducible repeat (first | refine blk_drewN ?_ _ | refine blk_drew ?_ | refine blk_alloc ?_ _)); refine blk_put (cs := #[.string ((rd_T39 (rd_L4 x4_2 x8_3) 0).f0), .int .i64 0, .bool false, .string (⟨#[]⟩ : ByteArray)]) ?_ 1 _ rfl; (with_reducible repeat (first | refine blk_drewN ?_ _ | refine blk_drew ?_ | refine blk_alloc ?_ _)); refine blk_put (cs := #[.string (⟨#[]⟩ : ByteArray), .int .i64 0, .bool false, .string (⟨#[]⟩ : ByteArray)]) ?_ 0 _ rfl; (with_reducible repeat (first | refine blk_drewN ?_ _ | refine blk_drew ?_ | refine blk_alloc ?_ _)); exact BK131.out))⟩; have n5_ : Aside0 (Below w.heap.size w w38) := ⟨(by rw [hw]; exact (by repeat (first | (with_reducible first | exact HB.out | apply below_alloc | apply pw_below_drewN | apply below_drew1 | refine below_set ?_ GE131.out) | exact HB.out)))⟩; clear hw; clear HO_4; clear HO_7; clear BK131; clear HB; have HO_4 := n0_; have HO_7 := n1_; have BK131 := n4_; have HB := n5_; clear n0_ n1_ n4_ n5_; have p132 : 0 ≤ (x8_3 : Int) := of_decide_eq_true (by first | (with_reducible assumption) | assumption); have q132 : x8_3 < (x4_2.length : Int) := of_decide_eq_true (by first | (with_reducible assumption) | assumption); obtain ⟨ad132, A132_0, c132_0, e132, hx132_0, hl132_0, hi132_0, hi132_0w⟩ := at_GLw (Kd.S_reads' HO_4.out).2.2 x8_3 p132 q132 (by repeat (first | (with_reducible first | exact HB.out | apply below_alloc | apply pw_below_drewN | apply below_drew1) | exact HB.out)); obtain rfl : ad129 = ad132 := (by injection e132); have HR132_0 := Aside0.mk hi132_0; have HR132_0w := Aside0.mk hi132_0w; have HC132_0 := Aside0.mk hl132_0; clear hi132_0 hi132_0w hl132_0; replace p132 := eq_true p132; replace q132 := eq_true q132; have q39 : (1 : Int) ≤ (((rd_L4 x4_2 x8_3).length : Int) : Int) := of_decide_eq_true (by first | (with_reducible assumption) | assumption); obtain ⟨i039, hi039, _, hsz39, _⟩ := info_parts info39; have hroom39 : (rd_L4 x4_2 x8_3).length ≤ c132_0 := HC132_0.out; have hC39 : Kd.C k39 _ A132_0 (rd_L4 x4_2 x8_3).length (rd_L4 x4_2 x8_3) := HR132_0w.out; have hcut39 := cut_from (P := Try.prog) 23 39 .i64 Try.underlying23 hi039 4 hsz39 A132_0 (rd_L4 x4_2 x8_3).length c132_0 1 (by omega) q39; have hr39 := Kd.C_drop (m := (1 : Int).toNat) (c := c132_0) hC39 (by omega) hroom39; obtain ⟨A39, hA39⟩ : ∃ A1, A1 = (if c132_0 = (1 : Int).toNat then A132_0 else (A132_0 : Option Addr).map (·.add ((1 : Int).toNat * 4))) := ⟨_, rfl⟩; obtain ⟨c39, hc39⟩ : ∃ c1, c1 = c132_0 - (1 : Int).toNat := ⟨_, rfl⟩; have hy39 : y133.length = (rd_L4 x4_2 x8_3).length - (1 : Int).toNat := (by rw [Ny133.out, List.length_drop] <;> omega); rw [show (rd_L4 x4_2 x8_3).drop (1 : Int).toNat = y133 from Ny133.out.symm] at hr39; replace hr39 : Kd.C k39 _ A39 y133.length y133 := (by rw [hA39]; exact hr39); rw [← hy39, ← hA39, ← hc39] at hcut39; have HR136 := Aside0.mk hr39; have HC136 := Aside0.mk (show y133.length ≤ c39 from by rw [hy39, hc39]; exact Nat.sub_le_sub_right hroom39 _); clear hr39 hC39 hroom39 hi039 hsz39 hc39; have KY39 := Aside0.mk hy39; have KA39 := Aside0.mk hA39; clear hy39 hA39; replace q39 := eq_true q39; have p33 : 0 ≤ (x8_3 : Int) := of_decide_eq_true (by first | (with_reducible assumption) | assumption); have q33 : (x8_3 : Int) < ((x4_2.length : Int) : Int) := of_decide_eq_true (by first | (with_reducible assumption) | assumption); obtain ⟨go33, co33, eo33, gb33, gl33, cl33, HG33⟩ := Kd.S_form HO_4.out (by omega); (first | cases eo33 | (injection eo33 with ea_ en_ ec_; (first | subst ea_ | (injection ea_ with ea_; subst ea_)); subst ec_; clear en_)); have GB33 := Aside0.mk gb33; have GG33 := Aside0.mk HG33; clear gb33 gl33 HG33; (first | simp only [add_plain] at hx129_0 | skip); (first | simp only [add_plain] at hx132_0 | skip); obtain ⟨_, ce33, hcl33, hM33, hcc33, hfr33, _, _⟩ := Kd.S_elem HO_4.out [] (x8_3 : Int) p33 q33; obtain ⟨vA33, vc33, rfl, ge33_0, _⟩ := hM33; have hx33_0 := hcc33 0 _ rfl; have hf33_0 := hfr33 0; (try simp only [show (kGL w).sz = 1 from rfl, Nat.mul_one, Nat.add_zero] at hx33_0); (try simp only [show (kGL w).sz = 1 from rfl, Nat.mul_one, Nat.add_zero] at hf33_0); clear hcl33 hcc33 hfr33; (try clear hM33); replace p33 := eq_true p33; replace q33 := eq_true q33; have HX40 := Aside0.mk (show Kd.S (kGL w) 23 w38 w.heap.size (fun k_ => ((fun k_ => some k_ ≠ (u7 : Value).ownBlock ∧ k_ ≠ gb131)) k_ ∧ ¬ ((fun _ => False)) k_) (.slice (some ⟨go33, 0, none⟩) x4_2.length co11) x4_2 from (by (with_reducible repeat (first | apply Kd.S_alloc | apply Kd.S_drewN | apply Kd.S_drew)); exact Kd.S_mono HO_4.out (fun k_ hk => ⟨⟨hk.1, hk.2⟩, fun e_ => e_⟩))); obtain ⟨oki40, ce40, hcl40, hM40, hcc40, hfr40, hoki40, hH40⟩ := Kd.S_elem HX40.out [] (x8_3 : Int) (of_decide_eq_true (by first | (with_reducible assumption) | assumption)) (by have h_ : (x8_3 : Int) < ((x4_2.length : Int) : Int) := of_decide_eq_true (by first | (with_reducible assumption) | assumption); first | exact h_ | (have e_ := (Kd.S_reads' HO_4.out).1; omega) | simpa using h_); obtain ⟨vA40, vc40, rfl, ge40_0, _⟩ := hM40; have HP40 := Kd.S_seg hH40 (of_decide_eq_true (by first | (with_reducible assumption) | assumption)) (by have h_ : (x8_3 : Int) < ((x4_2.length : Int) : Int) := of_decide_eq_true (by first | (with_reducible assumption) | assumption); first | exact h_ | (have e_ := (Kd.S_reads' HO_4.out).1; omega) | simpa using h_) (seg := [.slice A39 y133.length c39]) (j := 0) (show 1 ≤ 1 from by decide) (x' := y133) (show (kGL w).M _ _ _ y133 [.slice A39 y133.length c39] from ⟨_, _, rfl, HC136.out, HR136.out⟩) (fun _ hk => hk) (fun k_ hk_ => hk_.elim); have hx40_0 := hcc40 0 _ rfl; (try simp only [show (kGL w).sz = 1 from rfl, Nat.mul_one, Nat.add_zero] at hx40_0); have hf40_0 := hfr40 0; (try simp only [show (kGL w).sz = 1 from rfl, Nat.mul_one, Nat.add_zero] at hf40_0); clear hcl40 hcc40 hfr40 hoki40 hH40; (try clear hM40); (try simp only [show (kGL w).sz = 1 from rfl, Nat.mul_one, Nat.add_zero] at HP40)) | ((with_reducible refine gate_store (t := 23) (p := 67) rfl ?_); refine store_event (t := 23) (p := 67) (v := ?vo_w41) (w1 := (w38.setCell ⟨go33, (x8_3 : Int).toNat, none⟩ (.slice A39 y133.length c39))) ?hg ?ho ?hn ?hr ?_; (case ho => rfl); (case hg => rfl); (case hn => rfl); (case hr => first | (go_simp; done) | (go_simp; rfl)); intro w41 hw; have hg : w38.grownBy w41 (some go33) := (by rw [hw]; exact HP40.2); have hp_ : Kd.S (kGL w) 23 w41 w.heap.size (fun k_ => some k_ ≠ (u7 : Value).ownBlock ∧ k_ ≠ gb131) (.slice (some ⟨go33, 0, none⟩) x4_2.length co11) y137 := (by rw [hw, Ny137.out]; exact HP40.1); clear HP40; have n0_ := Aside0.mk (hp_); have n1_ := Aside0.mk (Kd.R_over' (v := (.slice (some ⟨go33, 0, none⟩) x4_2.length co11)) (by (with_reducible repeat (first | apply Kd.R_alloc | apply Kd.R_drewN | apply Kd.R_drew)); exact HO_7.out) (Kd.S_typed HO_4.out) (by decide) hg); have n4_ := Aside0.mk (blk_grown (g := gb131) (o := .cells #[.string ((rd_T39 (rd_L4 x4_2 x8_3) 0).f0), .int .i64 ((rd_T39 (rd_L4 x4_2 x8_3) 0).f1), .bool ((rd_T39 (rd_L4 x4_2 x8_3) 0).f2), .string ((rd_T39 (rd_L4 x4_2 x8_3) 0).f3)] 39 (0, 0)) (by (with_reducible repeat (first | refine blk_drewN ?_ _ | refine blk_drew ?_ | refine blk_alloc ?_ _)); exact BK131.out) hg (Kd.S_ne HO_4.out BK131.out (by decide))); have n6_ := Aside0.mk ((by rw [hw]; exact below_set (HB.out) GB33.out : Below w.heap.size w w41)); clear HO_4; clear HO_7; clear BK131; clear HB; have HO_4 := n0_; have HO_7 := n1_; have BK131 := n4_; have HB := n6_; clear n0_ n1_ n4_ n6_; clear hg hw hp_; obtain ⟨Ao42, co42, eo42⟩ := Kd.R_slice HO_7.out; subst eo42))
    have n0_ := Aside0.mk (Kd.S_drew HO_4.out)
    have n1_ := Aside0.mk (Kd.R_drew HO_7.out)
    have n5_ := Aside0.mk (blk_drew BK131.out)
    have n6_ := Aside0.mk (below_drew1 HB.out)
    clear HO_4
    clear HO_7
    clear BK131
    clear HB
    have HO_4 := n0_
    have HO_7 := n1_
    have BK131 := n5_
    have HB := n6_
    clear n0_ n1_ n5_ n6_
    refine start_ (n := 12) (S := fun w' => True) (ds := []) #[false, false, false, false, false, false, false, false, false, false, false, false] (by kernel_rfl) rfl rfl trivial (fun hHeld => ?_); refine with_tabW merge_Rows.tab22 merge_Rows.bits22 (fun HT_ HW_ => ?_)
    generalize w41.drew = w43 at HO_4 HO_7 BK131 HB hHeld ⊢
    refine pure_ (i := 0) (N := some 70) (v := ?_) (a' := ?_) #[true, false, false, false, false, false, false, false, false, false, false, false] rfl rfl (any_of HT_.out (by kernel_rfl)) (fun _ _ _ h => h) (Or.inl ⟨by rfl, ?_⟩) ?_ ?_
    rotate_left
    · intro w'
      go_simp
      with_reducible rfl
    rotate_left
    · simp only [Act.put, List.setIfInBounds_toArray, List.set_cons_zero, List.set_cons_succ, i64_w, i32_w]
      rfl
    refine pure_ (i := 1) (N := some 71) (v := ?_) (a' := ?_) #[true, true, false, false, false, false, false, false, false, false, false, false] rfl rfl (any_of HT_.out (by kernel_rfl)) (fun _ _ _ h => h) (Or.inl ⟨by rfl, ?_⟩) ?_ ?_
    rotate_left
    · intro w'
      go_simp
      with_reducible rfl
    rotate_left
    · simp only [Act.put, List.setIfInBounds_toArray, List.set_cons_zero, List.set_cons_succ, i64_w, i32_w]
      rfl
    refine pure_ (i := 2) (N := some 72) (v := ?_) (a' := ?_) #[true, true, true, false, false, false, false, false, false, false, false, false] rfl rfl (any_of HT_.out (by kernel_rfl)) (fun _ _ _ h => h) (Or.inl ⟨by rfl, ?_⟩) ?_ ?_
    rotate_left
    · intro w'
      go_simp
      with_reducible rfl
    rotate_left
    · simp only [Act.put, List.setIfInBounds_toArray, List.set_cons_zero, List.set_cons_succ, i64_w, i32_w]
      rfl
    refine pure_ (i := 3) (N := some 73) (v := undef) (a' := ?_) #[true, true, true, true, false, false, false, false, false, false, false, false] rfl rfl (any_of HT_.out (by kernel_rfl)) (fun _ _ _ h => h) (Or.inr ⟨by rfl, rfl⟩) ?_ ?_
    rotate_left
    · simp only [Act.put, List.setIfInBounds_toArray, List.set_cons_zero, List.set_cons_succ, i64_w, i32_w]
      rfl
    refine pure_ (i := 4) (N := some 74) (v := undef) (a' := ?_) #[true, true, true, true, true, false, false, false, false, false, false, false] rfl rfl (any_of HT_.out (by kernel_rfl)) (fun _ _ _ h => h) (Or.inr ⟨by rfl, rfl⟩) ?_ ?_
    rotate_left
    · simp only [Act.put, List.setIfInBounds_toArray, List.set_cons_zero, List.set_cons_succ, i64_w, i32_w]
      rfl
    refine pure_ (i := 5) (N := some 75) (v := undef) (a' := ?_) #[true, true, true, true, true, true, false, false, false, false, false, false] rfl rfl (any_of HT_.out (by kernel_rfl)) (fun _ _ _ h => h) (Or.inr ⟨by rfl, rfl⟩) ?_ ?_
    rotate_left
    · simp only [Act.put, List.setIfInBounds_toArray, List.set_cons_zero, List.set_cons_succ, i64_w, i32_w]
      rfl
    refine pure_ (i := 6) (N := some 76) (v := undef) (a' := ?_) #[true, true, true, true, true, true, true, false, false, false, false, false] rfl rfl (any_of HT_.out (by kernel_rfl)) (fun _ _ _ h => h) (Or.inr ⟨by rfl, rfl⟩) ?_ ?_
    rotate_left
    · simp only [Act.put, List.setIfInBounds_toArray, List.set_cons_zero, List.set_cons_succ, i64_w, i32_w]
      rfl
    refine pure_ (i := 7) (N := some 77) (v := undef) (a' := ?_) #[true, true, true, true, true, true, true, true, false, false, false, false] rfl rfl (any_of HT_.out (by kernel_rfl)) (fun _ _ _ h => h) (Or.inr ⟨by rfl, rfl⟩) ?_ ?_
    rotate_left
    · simp only [Act.put, List.setIfInBounds_toArray, List.set_cons_zero, List.set_cons_succ, i64_w, i32_w]
      rfl
    refine pure_ (i := 8) (N := some 78) (v := undef) (a' := ?_) #[true, true, true, true, true, true, true, true, true, false, false, false] rfl rfl (any_of HT_.out (by kernel_rfl)) (fun _ _ _ h => h) (Or.inr ⟨by rfl, rfl⟩) ?_ ?_
    rotate_left
    · simp only [Act.put, List.setIfInBounds_toArray, List.set_cons_zero, List.set_cons_succ, i64_w, i32_w]
      rfl
    refine pure_ (i := 9) (N := some 79) (v := undef) (a' := ?_) #[true, true, true, true, true, true, true, true, true, true, false, false] rfl rfl (any_of HT_.out (by kernel_rfl)) (fun _ _ _ h => h) (Or.inr ⟨by rfl, rfl⟩) ?_ ?_
    rotate_left
    · simp only [Act.put, List.setIfInBounds_toArray, List.set_cons_zero, List.set_cons_succ, i64_w, i32_w]
      rfl
    refine pure_ (i := 10) (N := some 80) (v := undef) (a' := ?_) #[true, true, true, true, true, true, true, true, true, true, true, false] rfl rfl (any_of HT_.out (by kernel_rfl)) (fun _ _ _ h => h) (Or.inr ⟨by rfl, rfl⟩) ?_ ?_
    rotate_left
    · simp only [Act.put, List.setIfInBounds_toArray, List.set_cons_zero, List.set_cons_succ, i64_w, i32_w]
      rfl
    refine pure_ (i := 11) (N := some 81) (v := ?_) (a' := ?_) #[true, true, true, true, true, true, true, true, true, true, true, true] rfl rfl (any_of HT_.out (by kernel_rfl)) (fun _ _ _ h => h) (Or.inl ⟨by rfl, ?_⟩) ?_ ?_
    rotate_left
    · intro w'
      go_simp
      with_reducible rfl
    rotate_left
    · simp only [Act.put, List.setIfInBounds_toArray, List.set_cons_zero, List.set_cons_succ, i64_w, i32_w]
      rfl
    refine done_ (done_of HT_.out (by kernel_rfl)) ?_
    have hcz44_0 : w43.cell? ⟨gb131, 0, none⟩ = some (.string ((rd_T39 (rd_L4 x4_2 x8_3) 0).f0)) := (blk_cell BK131.out 0).trans rfl
    have hcz44_1 : w43.cell? ⟨gb131, 1, none⟩ = some (.int .i64 ((rd_T39 (rd_L4 x4_2 x8_3) 0).f1)) := (blk_cell BK131.out 1).trans rfl
    have hcz44_2 : w43.cell? ⟨gb131, 2, none⟩ = some (.bool ((rd_T39 (rd_L4 x4_2 x8_3) 0).f2)) := (blk_cell BK131.out 2).trans rfl
    have hcz44_3 : w43.cell? ⟨gb131, 3, none⟩ = some (.string ((rd_T39 (rd_L4 x4_2 x8_3) 0).f3)) := (blk_cell BK131.out 3).trans rfl
    have hfz44_0 := blk_frozen BK131.out 0
    have hfz44_1 := blk_frozen BK131.out 1
    have hfz44_2 := blk_frozen BK131.out 2
    have hfz44_3 := blk_frozen BK131.out 3
    try go_wp2_with (first | go_step3 | ((with_reducible refine gate_builtin (b := .append) (xs := #[.tmp 82, .tmp 84]) rfl ?_); at_builtin; refine Kd.R_append k39 (w0 := w) w.heap.size rfl (.tmp 82) (.tmp 84) 23 39 (.agg #[(.string ⟨#[]⟩), (.int .i64 0), (.bool false), (.string ⟨#[]⟩)]) 48 rfl Try.underlying23 info39 rfl (by decide) (by omega) (.slice Ao42 x7_2.length co42) x7_2 (⟨(rd_T39 (rd_L4 x4_2 x8_3) 0).f0, (rd_T39 (rd_L4 x4_2 x8_3) 0).f1, (rd_T39 (rd_L4 x4_2 x8_3) 0).f2, (rd_T39 (rd_L4 x4_2 x8_3) 0).f3⟩ : S39) [.string ((rd_T39 (rd_L4 x4_2 x8_3) 0).f0), .int .i64 ((rd_T39 (rd_L4 x4_2 x8_3) 0).f1), .bool ((rd_T39 (rd_L4 x4_2 x8_3) 0).f2), .string ((rd_T39 (rd_L4 x4_2 x8_3) 0).f3)] (fun k_ => k_ ≠ gb131) (fun _ => False) rfl rfl ?aP (fun _ hk => hk.elim) ?aF ?aO ?aB ?aS ?aL ?_; (case aP => exact k39_mkM _ _ _ (⟨(rd_T39 (rd_L4 x4_2 x8_3) 0).f0, (rd_T39 (rd_L4 x4_2 x8_3) 0).f1, (rd_T39 (rd_L4 x4_2 x8_3) 0).f2, (rd_T39 (rd_L4 x4_2 x8_3) 0).f3⟩ : S39)); (case aB => exact (by repeat (first | (with_reducible first | exact HB.out | apply below_alloc | apply pw_below_drewN | apply below_drew1 | refine below_set ?_ GE131.out) | exact HB.out))); (case aF => exact (fun k_ hk => Kd.freshB (g := gb131) (o := .cells #[.string ((rd_T39 (rd_L4 x4_2 x8_3) 0).f0), .int .i64 ((rd_T39 (rd_L4 x4_2 x8_3) 0).f1), .bool ((rd_T39 (rd_L4 x4_2 x8_3) 0).f2), .string ((rd_T39 (rd_L4 x4_2 x8_3) 0).f3)] 39 (0, 0)) (by (with_reducible repeat (first | refine blk_drewN ?_ _ | refine blk_drew ?_ | refine blk_alloc ?_ _)); exact BK131.out) k_ hk)); (case aO => exact (by (with_reducible repeat (first | apply Kd.R_alloc | apply Kd.R_drewN | apply Kd.R_drew)); exact HO_7.out)); (case aS => exact (below_size (by repeat (first | (with_reducible first | exact HB.out | apply below_alloc | apply pw_below_drewN | apply below_drew1 | refine below_set ?_ GE131.out) | exact HB.out)))); (case aL => have := LMc35.out; omega); intro v139 w45 ho hb hg hat; rw [← Ny138.out] at ho; have n0_ := Aside0.mk (Kd.S_after (ok := (fun k_ => k_ ≠ gb131)) (by (with_reducible repeat (first | apply Kd.S_alloc | apply Kd.S_drewN | apply Kd.S_drew)); exact Kd.S_mono HO_4.out (fun _ hk => ⟨hk.2, hk.1⟩)) hg hat); have n3_ := Aside0.mk (blk_grown (g := gb131) (o := .cells #[.string ((rd_T39 (rd_L4 x4_2 x8_3) 0).f0), .int .i64 ((rd_T39 (rd_L4 x4_2 x8_3) 0).f1), .bool ((rd_T39 (rd_L4 x4_2 x8_3) 0).f2), .string ((rd_T39 (rd_L4 x4_2 x8_3) 0).f3)] 39 (0, 0)) (by (with_reducible repeat (first | refine blk_drewN ?_ _ | refine blk_drew ?_ | refine blk_alloc ?_ _)); exact BK131.out) hg (Kd.R_away HO_7.out (fun _ hk => hk))); have n5_ := Aside0.mk (hb); have n6_ := Aside0.mk (ho); clear HO_4; clear BK131; clear HB; clear HO_7; have HO_4 := n0_; have BK131 := n3_; have HB := n5_; have HO140 := n6_; clear n0_ n3_ n5_ n6_; clear ho hb hg hat))
    (try (rw [Exit.noGoto_normal]; go_wp2_with go_step3))
    go_roundg k3
    case measure => have := HK1.out; have := HK2.out; have := HK3.out; omega
    case rel => exact ⟨(y137), (y138), H', ⟨by have := HK1.out; have := HK2.out; have := HK3.out; omega⟩, ⟨by (with_reducible repeat (first | apply Kd.S_alloc | apply Kd.S_drewN | apply Kd.S_drew)); exact Kd.S_mono HO_4.out (fun _ hk => hk.2)⟩, ⟨by (with_reducible repeat (first | apply Kd.R_alloc | apply Kd.R_drewN | apply Kd.R_drew)); exact Kd.R_mono HO140.out (fun _ hk => trivial)⟩, ⟨by repeat (first | (with_reducible first | exact HB.out | apply below_alloc | apply pw_below_drewN | apply below_drew1 | refine below_set ?_ GE131.out) | exact HB.out)⟩⟩
  rw [if_neg c34] at H
  have c34b0 : ((x7_2.length : Int) == 0) = false := beq_eq_false_iff_ne.mpr c34
  have c34b1 : ((x7_2.length : Int) != 0) = true := bne_iff_ne.mpr c34
  have c34b2 : ¬ (x7_2 = []) := fun h_ => c34 (by rw [h_]; rfl)
  obtain ⟨ji46, hji46⟩ : ∃ j_ : Int, (wrap64 ((x7_2.length : Int) - 1)) = j_ := ⟨_, rfl⟩
  replace H : (if 0 ≤ (ji46) then (if (ji46) < (x7_2.length : Int) then ((entry_Compare.f k3 ((rd_T39 x7_2 (ji46)).f0) ((rd_T39 x7_2 (ji46)).f1) ((rd_T39 x7_2 (ji46)).f2) ((rd_T39 x7_2 (ji46)).f3) ((rd_T39 (rd_L4 x4_2 x8_3) 0).f0) ((rd_T39 (rd_L4 x4_2 x8_3) 0).f1) ((rd_T39 (rd_L4 x4_2 x8_3) 0).f2) ((rd_T39 (rd_L4 x4_2 x8_3) 0).f3)).bind fun t142 => (if t142 = 0 then (merge_Rows.l1 k3 y137 x7_2) else (if x7_2.length < 2932031007402 then (merge_Rows.l1 k3 y137 (x7_2 ++ [(⟨(rd_T39 (rd_L4 x4_2 x8_3) 0).f0, (rd_T39 (rd_L4 x4_2 x8_3) 0).f1, (rd_T39 (rd_L4 x4_2 x8_3) 0).f2, (rd_T39 (rd_L4 x4_2 x8_3) 0).f3⟩ : S39)])) else (none)))) else (none)) else (none)) = some (r1, r2) := by first | (rw [hji46] at H; exact H) | (simp only [hji46] at H ⊢; exact H)
  have hji46w : (IntKind.i64.wrap ((x7_2.length : Int) - 1)) = ji46 := (i64_w _).trans hji46
  by_cases c47 : 0 ≤ (ji46)
  rotate_left
  · rw [if_neg c47] at H
    exact absurd H (by simp)
  rw [if_pos c47] at H
  have c47b0 : decide (0 ≤ (ji46)) = true := decide_eq_true c47
  clear c47
  by_cases c48 : (ji46) < (x7_2.length : Int)
  rotate_left
  · rw [if_neg c48] at H
    exact absurd H (by simp)
  rw [if_pos c48] at H
  have c48b0 : decide ((ji46) < (x7_2.length : Int)) = true := decide_eq_true c48
  clear c48
  replace H := Option.bind_eq_some_iff.mp H
  obtain ⟨t142, A490, H⟩ := H
  replace H : (if t142 = 0 then (merge_Rows.l1 k3 y137 x7_2) else (if x7_2.length < 2932031007402 then (merge_Rows.l1 k3 y137 (x7_2 ++ [(⟨(rd_T39 (rd_L4 x4_2 x8_3) 0).f0, (rd_T39 (rd_L4 x4_2 x8_3) 0).f1, (rd_T39 (rd_L4 x4_2 x8_3) 0).f2, (rd_T39 (rd_L4 x4_2 x8_3) 0).f3⟩ : S39)])) else (none))) = some (r1, r2) := H
  have A49 := Aside0.mk A490
  clear A490
  by_cases c50 : t142 = 0
  · rw [if_pos c50] at H
    have c50b0 : (t142 == 0) = true := beq_iff_eq.mpr c50
    have c50b1 : (t142 != 0) = false := bne_eq_false_iff_eq.mpr c50
    clear c50
    have H' := Aside0.mk H
    clear H
    have p129 : 0 ≤ (x8_3 : Int) := of_decide_eq_true (by first | (with_reducible assumption) | assumption)
    have q129 : x8_3 < (x4_2.length : Int) := of_decide_eq_true (by first | (with_reducible assumption) | assumption)
    obtain ⟨ad129, A129_0, c129_0, e129, hx129_0, hl129_0, hi129_0⟩ := at_GL (Kd.S_reads' HO_4.out).2.2 x8_3 p129 q129 (by repeat (first | (with_reducible first | exact HB.out | apply below_alloc | apply pw_below_drewN | apply below_drew1) | exact HB.out))
    cases e129
    have HR129_0 := Aside0.mk hi129_0
    have HC129_0 := Aside0.mk hl129_0
    clear hi129_0 hl129_0
    replace p129 := eq_true p129
    replace q129 := eq_true q129
    have p130 : 0 ≤ (0 : Int) := (by omega)
    have q130 : 0 < ((rd_L4 x4_2 x8_3).length : Int) := of_decide_eq_true (by first | (with_reducible assumption) | assumption)
    obtain ⟨ad130, e130, hx130_0, hx130_1, hx130_2, hx130_3⟩ := at_T39 (by repeat (first | (with_reducible exact HR129_0.out) | (with_reducible refine Kd.C_alloc ?_ _) | (with_reducible refine Kd.C_drewN ?_ _) | (with_reducible refine Kd.C_drew ?_) | exact HR129_0.out)) 0 p130 q130
    cases e130
    have qi130 : (0 < (rd_L4 x4_2 x8_3).length) = True := eq_true (by omega)
    (try rw [show ((0 : Int)).toNat = 0 from rfl] at hx130_0)
    (try rw [show 0 * 4 = 0 from rfl] at hx130_0)
    (try rw [Addr.add_zero'] at hx130_0)
    (try rw [show ((0 : Int)).toNat = 0 from rfl] at hx130_1)
    (try rw [show 0 * 4 = 0 from rfl] at hx130_1)
    (try rw [Addr.add_zero'] at hx130_1)
    (try rw [show ((0 : Int)).toNat = 0 from rfl] at hx130_2)
    (try rw [show 0 * 4 = 0 from rfl] at hx130_2)
    (try rw [Addr.add_zero'] at hx130_2)
    (try rw [show ((0 : Int)).toNat = 0 from rfl] at hx130_3)
    (try rw [show 0 * 4 = 0 from rfl] at hx130_3)
    (try rw [Addr.add_zero'] at hx130_3)
    replace p130 := eq_true p130
    replace q130 := eq_true q130
    try go_wp2_with (first | go_step3 | ((with_reducible refine gate_dst (N := 11) rfl ?_); refine box_event ?hg (N := 11) ?hd (cs := #[.string (⟨#[]⟩ : ByteArray), .int .i64 0, .bool false, .string (⟨#[]⟩ : ByteArray)]) (t := 39) ?hr ?_; (case hd => rfl); (case hg => rfl); (case hr => first | (go_simp; done) | (go_simp; rfl)); intro gb131 hg w51 hbox hb; have n0_ := Aside0.mk (Kd.S_below (Kd.S_elderB (by (with_reducible repeat (first | apply Kd.S_alloc | apply Kd.S_drewN | apply Kd.S_drew)); exact HO_4.out) gb131 (Nat.le_of_eq hg.symm)) hb); have n1_ := Aside0.mk (Kd.R_below (Kd.R_elderB (by (with_reducible repeat (first | apply Kd.R_alloc | apply Kd.R_drewN | apply Kd.R_drew)); exact HO_7.out) gb131 (Nat.le_of_eq hg.symm)) hb); have n4_ := Aside0.mk (Kd.C_below (by repeat (first | (with_reducible exact HR129_0.out) | (with_reducible refine Kd.C_alloc ?_ _) | (with_reducible refine Kd.C_drewN ?_ _) | (with_reducible refine Kd.C_drew ?_) | exact HR129_0.out)) hb); have n5_ := Aside0.mk (below_step (by repeat (first | (with_reducible first | exact HB.out | apply below_alloc | apply pw_below_drewN | apply below_drew1) | exact HB.out)) hb); have n6_ := Aside0.mk (hbox); have n7_ := Aside0.mk ((by rw [hg]; exact (below_size (by repeat (first | (with_reducible first | exact HB.out | apply below_alloc | apply pw_below_drewN | apply below_drew1) | exact HB.out))) : w.heap.size ≤ gb131)); have n8_ := Aside0.mk ((by rw [hg]; exact (below_size (by repeat (first | (with_reducible first | exact HB.out | apply below_alloc | apply pw_below_drewN | apply below_drew1) | exact HB.out))) : w.heap.size ≤ gb131)); clear HO_4; clear HO_7; clear HR129_0; clear HB; have HO_4 := n0_; have HO_7 := n1_; have HR129_0 := n4_; have HB := n5_; have BK131 := n6_; have GW131 := n7_; have GE131 := n8_; clear n0_ n1_ n4_ n5_ n6_ n7_ n8_; clear hb hbox hg; have hcz52_0 : w51.cell? ⟨gb131, 0, none⟩ = some (.string (⟨#[]⟩ : ByteArray)) := (blk_cell BK131.out 0).trans rfl; have hcz52_1 : w51.cell? ⟨gb131, 1, none⟩ = some (.int .i64 0) := (blk_cell BK131.out 1).trans rfl; have hcz52_2 : w51.cell? ⟨gb131, 2, none⟩ = some (.bool false) := (blk_cell BK131.out 2).trans rfl; have hcz52_3 : w51.cell? ⟨gb131, 3, none⟩ = some (.string (⟨#[]⟩ : ByteArray)) := (blk_cell BK131.out 3).trans rfl; have hfz52_0 := blk_frozen BK131.out 0; have hfz52_1 := blk_frozen BK131.out 1; have hfz52_2 := blk_frozen BK131.out 2; have hfz52_3 := blk_frozen BK131.out 3) | ((with_reducible refine gate_store (t := 39) (p := 11) rfl ?_); refine store_event (t := 39) (p := 11) (v := ?vo_w53) (w1 := ((((w51.setCell ⟨gb131, 0, none⟩ (.string ((rd_T39 (rd_L4 x4_2 x8_3) 0).f0))).setCell ⟨gb131, 1, none⟩ (.int .i64 ((rd_T39 (rd_L4 x4_2 x8_3) 0).f1))).setCell ⟨gb131, 2, none⟩ (.bool ((rd_T39 (rd_L4 x4_2 x8_3) 0).f2))).setCell ⟨gb131, 3, none⟩ (.string ((rd_T39 (rd_L4 x4_2 x8_3) 0).f3)))) ?hg ?ho ?hn ?hr ?_; (case ho => rfl); (case hg => rfl); (case hn => rfl); (case hr => first | (go_simp; done) | (go_simp; rfl)); intro w53 hw; have n0_ : Aside0 (Kd.S (kGL w) 23 w53 w.heap.size (fun k_ => some k_ ≠ (u7 : Value).ownBlock ∧ k_ ≠ gb131) (.slice (some ad129) x4_2.length co11) x4_2) := ⟨(by rw [hw]; exact (by (with_reducible repeat (first | apply Kd.S_alloc | apply Kd.S_drewN | apply Kd.S_drew)); exact Kd.S_mono (Kd.S_far (p := ⟨gb131, 3, none⟩) (Kd.S_far (p := ⟨gb131, 2, none⟩) (Kd.S_far (p := ⟨gb131, 1, none⟩) (Kd.S_far (p := ⟨gb131, 0, none⟩) (Kd.S_mono HO_4.out (fun k_ hk => (⟨hk, hk.2⟩ : _ ∧ k_ ≠ gb131))) (fun _ hk => hk.2) (.string ((rd_T39 (rd_L4 x4_2 x8_3) 0).f0))) (fun _ hk => hk.2) (.int .i64 ((rd_T39 (rd_L4 x4_2 x8_3) 0).f1))) (fun _ hk => hk.2) (.bool ((rd_T39 (rd_L4 x4_2 x8_3) 0).f2))) (fun _ hk => hk.2) (.string ((rd_T39 (rd_L4 x4_2 x8_3) 0).f3))) (fun _ hk => ⟨hk.1.1, hk.1.2⟩)))⟩; have n1_ : Aside0 (Kd.R k39 39 w53 w.heap.size (fun k_ => k_ ≠ gb131) u7 x7_2) := ⟨(by rw [hw]; exact (by (with_reducible repeat (first | apply Kd.R_alloc | apply Kd.R_drewN | apply Kd.R_drew)); exact Kd.R_mono (Kd.R_far (p := ⟨gb131, 3, none⟩) (Kd.R_far (p := ⟨gb131, 2, none⟩) (Kd.R_far (p := ⟨gb131, 1, none⟩) (Kd.R_far (p := ⟨gb131, 0, none⟩) (Kd.R_mono HO_7.out (fun k_ hk => (⟨hk, hk.2⟩ : _ ∧ k_ ≠ gb131))) (fun _ hk => hk.2) (.string ((rd_T39 (rd_L4 x4_2 x8_3) 0).f0))) (fun _ hk => hk.2) (.int .i64 ((rd_T39 (rd_L4 x4_2 x8_3) 0).f1))) (fun _ hk => hk.2) (.bool ((rd_T39 (rd_L4 x4_2 x8_3) 0).f2))) (fun _ hk => hk.2) (.string ((rd_T39 (rd_L4 x4_2 x8_3) 0).f3))) (fun _ hk => hk.1.2)))⟩; have n4_ : Aside0 (w53.heap[gb131]? = some (.cells #[.string ((rd_T39 (rd_L4 x4_2 x8_3) 0).f0), .int .i64 ((rd_T39 (rd_L4 x4_2 x8_3) 0).f1), .bool ((rd_T39 (rd_L4 x4_2 x8_3) 0).f2), .string ((rd_T39 (rd_L4 x4_2 x8_3) 0).f3)] 39 (0, 0))) := ⟨(by rw [hw]; exact (by (with_reducible repeat (first | refine blk_drewN ?_ _ | refine blk_drew ?_ | refine blk_alloc ?_ _)); refine blk_put (cs := #[.string ((rd_T39 (rd_L4 x4_2 x8_3) 0).f0), .int .i64 ((rd_T39 (rd_L4 x4_2 x8_3) 0).f1), .bool ((rd_T39 (rd_L4 x4_2 x8_3) 0).f2), .string (⟨#[]⟩ : ByteArray)]) ?_ 3 _ rfl; (with_reducible repeat (first | refine blk_drewN ?_ _ | refine blk_drew ?_ | refine blk_alloc ?_ _)); refine blk_put (cs := #[.string ((rd_T39 (rd_L4 x4_2 x8_3) 0).f0), .int .i64 ((rd_T39 (rd_L4 x4_2 x8_3) 0).f1), .bool false, .string (⟨#[]⟩ : ByteArray)]) ?_ 2 _ rfl; (with_reducible repeat (first | refine blk_drewN ?_ _ | refine blk_drew ?_ | refine blk_alloc ?_ _)); refine blk_put (cs := #[.string ((rd_T39 (rd_L4 x4_2 x8_3) 0).f0), .int .i64 0, .bool false, .string (⟨#[]⟩ : ByteArray)]) ?_ 1 _ rfl; (with_reducible repeat (first | refine blk_drewN ?_ _ | refine blk_drew ?_ | refine blk_alloc ?_ _)); refine blk_put (cs := #[.string (⟨#[]⟩ : ByteArray), .int .i64 0, .bool false, .string (⟨#[]⟩ : ByteArray)]) ?_ 0 _ rfl; (with_reducible repeat (first | refine blk_drewN ?_ _ | refine blk_drew ?_ | refine blk_alloc ?_ _)); exact BK131.out))⟩; have n5_ : Aside0 (Below w.heap.size w w53) := ⟨(by rw [hw]; exact (by repeat (first | (with_reducible first | exact HB.out | apply below_alloc | apply pw_below_drewN | apply below_drew1 | refine below_set ?_ GE131.out) | exact HB.out)))⟩; clear hw; clear HO_4; clear HO_7; clear BK131; clear HB; have HO_4 := n0_; have HO_7 := n1_; have BK131 := n4_; have HB := n5_; clear n0_ n1_ n4_ n5_; have p132 : 0 ≤ (x8_3 : Int) := of_decide_eq_true (by first | (with_reducible assumption) | assumption); have q132 : x8_3 < (x4_2.length : Int) := of_decide_eq_true (by first | (with_reducible assumption) | assumption); obtain ⟨ad132, A132_0, c132_0, e132, hx132_0, hl132_0, hi132_0, hi132_0w⟩ := at_GLw (Kd.S_reads' HO_4.out).2.2 x8_3 p132 q132 (by repeat (first | (with_reducible first | exact HB.out | apply below_alloc | apply pw_below_drewN | apply below_drew1) | exact HB.out)); obtain rfl : ad129 = ad132 := (by injection e132); have HR132_0 := Aside0.mk hi132_0; have HR132_0w := Aside0.mk hi132_0w; have HC132_0 := Aside0.mk hl132_0; clear hi132_0 hi132_0w hl132_0; replace p132 := eq_true p132; replace q132 := eq_true q132; have q54 : (1 : Int) ≤ (((rd_L4 x4_2 x8_3).length : Int) : Int) := of_decide_eq_true (by first | (with_reducible assumption) | assumption); obtain ⟨i054, hi054, _, hsz54, _⟩ := info_parts info39; have hroom54 : (rd_L4 x4_2 x8_3).length ≤ c132_0 := HC132_0.out; have hC54 : Kd.C k39 _ A132_0 (rd_L4 x4_2 x8_3).length (rd_L4 x4_2 x8_3) := HR132_0w.out; have hcut54 := cut_from (P := Try.prog) 23 39 .i64 Try.underlying23 hi054 4 hsz54 A132_0 (rd_L4 x4_2 x8_3).length c132_0 1 (by omega) q54; have hr54 := Kd.C_drop (m := (1 : Int).toNat) (c := c132_0) hC54 (by omega) hroom54; obtain ⟨A54, hA54⟩ : ∃ A1, A1 = (if c132_0 = (1 : Int).toNat then A132_0 else (A132_0 : Option Addr).map (·.add ((1 : Int).toNat * 4))) := ⟨_, rfl⟩; obtain ⟨c54, hc54⟩ : ∃ c1, c1 = c132_0 - (1 : Int).toNat := ⟨_, rfl⟩; have hy54 : y133.length = (rd_L4 x4_2 x8_3).length - (1 : Int).toNat := (by rw [Ny133.out, List.length_drop] <;> omega); rw [show (rd_L4 x4_2 x8_3).drop (1 : Int).toNat = y133 from Ny133.out.symm] at hr54; replace hr54 : Kd.C k39 _ A54 y133.length y133 := (by rw [hA54]; exact hr54); rw [← hy54, ← hA54, ← hc54] at hcut54; have HR136 := Aside0.mk hr54; have HC136 := Aside0.mk (show y133.length ≤ c54 from by rw [hy54, hc54]; exact Nat.sub_le_sub_right hroom54 _); clear hr54 hC54 hroom54 hi054 hsz54 hc54; have KY54 := Aside0.mk hy54; have KA54 := Aside0.mk hA54; clear hy54 hA54; replace q54 := eq_true q54; have p33 : 0 ≤ (x8_3 : Int) := of_decide_eq_true (by first | (with_reducible assumption) | assumption); have q33 : (x8_3 : Int) < ((x4_2.length : Int) : Int) := of_decide_eq_true (by first | (with_reducible assumption) | assumption); obtain ⟨go33, co33, eo33, gb33, gl33, cl33, HG33⟩ := Kd.S_form HO_4.out (by omega); (first | cases eo33 | (injection eo33 with ea_ en_ ec_; (first | subst ea_ | (injection ea_ with ea_; subst ea_)); subst ec_; clear en_)); have GB33 := Aside0.mk gb33; have GG33 := Aside0.mk HG33; clear gb33 gl33 HG33; (first | simp only [add_plain] at hx129_0 | skip); (first | simp only [add_plain] at hx132_0 | skip); obtain ⟨_, ce33, hcl33, hM33, hcc33, hfr33, _, _⟩ := Kd.S_elem HO_4.out [] (x8_3 : Int) p33 q33; obtain ⟨vA33, vc33, rfl, ge33_0, _⟩ := hM33; have hx33_0 := hcc33 0 _ rfl; have hf33_0 := hfr33 0; (try simp only [show (kGL w).sz = 1 from rfl, Nat.mul_one, Nat.add_zero] at hx33_0); (try simp only [show (kGL w).sz = 1 from rfl, Nat.mul_one, Nat.add_zero] at hf33_0); clear hcl33 hcc33 hfr33; (try clear hM33); replace p33 := eq_true p33; replace q33 := eq_true q33; have HX55 := Aside0.mk (show Kd.S (kGL w) 23 w53 w.heap.size (fun k_ => ((fun k_ => some k_ ≠ (u7 : Value).ownBlock ∧ k_ ≠ gb131)) k_ ∧ ¬ ((fun _ => False)) k_) (.slice (some ⟨go33, 0, none⟩) x4_2.length co11) x4_2 from (by (with_reducible repeat (first | apply Kd.S_alloc | apply Kd.S_drewN | apply Kd.S_drew)); exact Kd.S_mono HO_4.out (fun k_ hk => ⟨⟨hk.1, hk.2⟩, fun e_ => e_⟩))); obtain ⟨oki55, ce55, hcl55, hM55, hcc55, hfr55, hoki55, hH55⟩ := Kd.S_elem HX55.out [] (x8_3 : Int) (of_decide_eq_true (by first | (with_reducible assumption) | assumption)) (by have h_ : (x8_3 : Int) < ((x4_2.length : Int) : Int) := of_decide_eq_true (by first | (with_reducible assumption) | assumption); first | exact h_ | (have e_ := (Kd.S_reads' HO_4.out).1; omega) | simpa using h_); obtain ⟨vA55, vc55, rfl, ge55_0, _⟩ := hM55; have HP55 := Kd.S_seg hH55 (of_decide_eq_true (by first | (with_reducible assumption) | assumption)) (by have h_ : (x8_3 : Int) < ((x4_2.length : Int) : Int) := of_decide_eq_true (by first | (with_reducible assumption) | assumption); first | exact h_ | (have e_ := (Kd.S_reads' HO_4.out).1; omega) | simpa using h_) (seg := [.slice A54 y133.length c54]) (j := 0) (show 1 ≤ 1 from by decide) (x' := y133) (show (kGL w).M _ _ _ y133 [.slice A54 y133.length c54] from ⟨_, _, rfl, HC136.out, HR136.out⟩) (fun _ hk => hk) (fun k_ hk_ => hk_.elim); have hx55_0 := hcc55 0 _ rfl; (try simp only [show (kGL w).sz = 1 from rfl, Nat.mul_one, Nat.add_zero] at hx55_0); have hf55_0 := hfr55 0; (try simp only [show (kGL w).sz = 1 from rfl, Nat.mul_one, Nat.add_zero] at hf55_0); clear hcl55 hcc55 hfr55 hoki55 hH55; (try clear hM55); (try simp only [show (kGL w).sz = 1 from rfl, Nat.mul_one, Nat.add_zero] at HP55)) | ((with_reducible refine gate_store (t := 23) (p := 67) rfl ?_); refine store_event (t := 23) (p := 67) (v := ?vo_w56) (w1 := (w53.setCell ⟨go33, (x8_3 : Int).toNat, none⟩ (.slice A54 y133.length c54))) ?hg ?ho ?hn ?hr ?_; (case ho => rfl); (case hg => rfl); (case hn => rfl); (case hr => first | (go_simp; done) | (go_simp; rfl)); intro w56 hw; have hg : w53.grownBy w56 (some go33) := (by rw [hw]; exact HP55.2); have hp_ : Kd.S (kGL w) 23 w56 w.heap.size (fun k_ => some k_ ≠ (u7 : Value).ownBlock ∧ k_ ≠ gb131) (.slice (some ⟨go33, 0, none⟩) x4_2.length co11) y137 := (by rw [hw, Ny137.out]; exact HP55.1); clear HP55; have n0_ := Aside0.mk (hp_); have n1_ := Aside0.mk (Kd.R_over' (v := (.slice (some ⟨go33, 0, none⟩) x4_2.length co11)) (by (with_reducible repeat (first | apply Kd.R_alloc | apply Kd.R_drewN | apply Kd.R_drew)); exact HO_7.out) (Kd.S_typed HO_4.out) (by decide) hg); have n4_ := Aside0.mk (blk_grown (g := gb131) (o := .cells #[.string ((rd_T39 (rd_L4 x4_2 x8_3) 0).f0), .int .i64 ((rd_T39 (rd_L4 x4_2 x8_3) 0).f1), .bool ((rd_T39 (rd_L4 x4_2 x8_3) 0).f2), .string ((rd_T39 (rd_L4 x4_2 x8_3) 0).f3)] 39 (0, 0)) (by (with_reducible repeat (first | refine blk_drewN ?_ _ | refine blk_drew ?_ | refine blk_alloc ?_ _)); exact BK131.out) hg (Kd.S_ne HO_4.out BK131.out (by decide))); have n6_ := Aside0.mk ((by rw [hw]; exact below_set (HB.out) GB33.out : Below w.heap.size w w56)); clear HO_4; clear HO_7; clear BK131; clear HB; have HO_4 := n0_; have HO_7 := n1_; have BK131 := n4_; have HB := n6_; clear n0_ n1_ n4_ n6_; clear hg hw hp_; obtain ⟨Ao57, co57, eo57⟩ := Kd.R_slice HO_7.out; subst eo57))
    have n0_ := Aside0.mk (Kd.S_drew HO_4.out)
    have n1_ := Aside0.mk (Kd.R_drew HO_7.out)
    have n5_ := Aside0.mk (blk_drew BK131.out)
    have n6_ := Aside0.mk (below_drew1 HB.out)
    clear HO_4
    clear HO_7
    clear BK131
    clear HB
    have HO_4 := n0_
    have HO_7 := n1_
    have BK131 := n5_
    have HB := n6_
    clear n0_ n1_ n5_ n6_
    have p141 : 0 ≤ ((ji46) : Int) := of_decide_eq_true (by first | (with_reducible assumption) | assumption)
    have q141 : (ji46) < (x7_2.length : Int) := of_decide_eq_true (by first | (with_reducible assumption) | assumption)
    obtain ⟨ad141, e141, hx141_0, hx141_1, hx141_2, hx141_3⟩ := at_T39 (Kd.R_reads' HO_7.out).2.2 (ji46) p141 q141
    cases e141
    replace p141 := eq_true p141
    replace q141 := eq_true q141
    refine start_ (n := 12) (S := fun w' => w'.cell? ⟨gb131, 0, none⟩ = some (.string ((rd_T39 (rd_L4 x4_2 x8_3) 0).f0)) ∧ w'.cell? ⟨gb131, 1, none⟩ = some (.int .i64 ((rd_T39 (rd_L4 x4_2 x8_3) 0).f1)) ∧ w'.cell? ⟨gb131, 2, none⟩ = some (.bool ((rd_T39 (rd_L4 x4_2 x8_3) 0).f2)) ∧ w'.cell? ⟨gb131, 3, none⟩ = some (.string ((rd_T39 (rd_L4 x4_2 x8_3) 0).f3)) ∧ w'.cell? (ad141.add (((ji46)).toNat * 4)) = some (.string ((rd_T39 x7_2 (ji46)).f0)) ∧ w'.cell? ⟨(ad141.add (((ji46)).toNat * 4)).block, (ad141.add (((ji46)).toNat * 4)).off + 1, none⟩ = some (.int .i64 ((rd_T39 x7_2 (ji46)).f1)) ∧ w'.cell? ⟨(ad141.add (((ji46)).toNat * 4)).block, (ad141.add (((ji46)).toNat * 4)).off + 2, none⟩ = some (.bool ((rd_T39 x7_2 (ji46)).f2)) ∧ w'.cell? ⟨(ad141.add (((ji46)).toNat * 4)).block, (ad141.add (((ji46)).toNat * 4)).off + 3, none⟩ = some (.string ((rd_T39 x7_2 (ji46)).f3))) (ds := []) #[false, false, false, false, false, false, false, false, false, false, false, false] (by kernel_rfl) rfl rfl ⟨(blk_cell BK131.out 0).trans rfl, (blk_cell BK131.out 1).trans rfl, (blk_cell BK131.out 2).trans rfl, (blk_cell BK131.out 3).trans rfl, hx141_0, hx141_1, hx141_2, hx141_3⟩ (fun hHeld => ?_); refine with_tabW merge_Rows.tab22 merge_Rows.bits22 (fun HT_ HW_ => ?_)
    generalize w56.drew = w58 at HO_4 HO_7 BK131 HB hx141_0 hx141_1 hx141_2 hx141_3 hHeld ⊢
    refine pure_ (i := 0) (N := some 70) (v := ?_) (a' := ?_) #[true, false, false, false, false, false, false, false, false, false, false, false] rfl rfl (any_of HT_.out (by kernel_rfl)) (fun _ _ _ h => h) (Or.inl ⟨by rfl, ?_⟩) ?_ ?_
    rotate_left
    · intro w'
      go_simp
      with_reducible rfl
    rotate_left
    · simp only [Act.put, List.setIfInBounds_toArray, List.set_cons_zero, List.set_cons_succ, i64_w, i32_w]
      rfl
    refine pure_ (i := 1) (N := some 71) (v := ?_) (a' := ?_) #[true, true, false, false, false, false, false, false, false, false, false, false] rfl rfl (any_of HT_.out (by kernel_rfl)) (fun _ _ _ h => h) (Or.inl ⟨by rfl, ?_⟩) ?_ ?_
    rotate_left
    · intro w'
      go_simp
      with_reducible rfl
    rotate_left
    · simp only [Act.put, List.setIfInBounds_toArray, List.set_cons_zero, List.set_cons_succ, i64_w, i32_w]
      rfl
    refine pure_ (i := 2) (N := some 72) (v := ?_) (a' := ?_) #[true, true, true, false, false, false, false, false, false, false, false, false] rfl rfl (any_of HT_.out (by kernel_rfl)) (fun _ _ _ h => h) (Or.inl ⟨by rfl, ?_⟩) ?_ ?_
    rotate_left
    · intro w'
      go_simp
      with_reducible rfl
    rotate_left
    · simp only [Act.put, List.setIfInBounds_toArray, List.set_cons_zero, List.set_cons_succ, i64_w, i32_w]
      rfl
    refine pure_ (i := 3) (N := some 73) (v := ?_) (a' := ?_) #[true, true, true, true, false, false, false, false, false, false, false, false] rfl rfl (any_of HT_.out (by kernel_rfl)) (fun _ _ _ h => h) (Or.inl ⟨by rfl, ?_⟩) ?_ ?_
    rotate_left
    · intro w'
      go_simp
      with_reducible rfl
    rotate_left
    · simp only [Act.put, List.setIfInBounds_toArray, List.set_cons_zero, List.set_cons_succ, i64_w, i32_w]
      rfl
    refine pure_ (i := 4) (N := some 74) (v := ?_) (a' := ?_) #[true, true, true, true, true, false, false, false, false, false, false, false] rfl rfl (any_of HT_.out (by kernel_rfl)) (fun _ _ _ h => h) (Or.inl ⟨by rfl, ?_⟩) ?_ ?_
    rotate_left
    · intro w'
      go_simp
      with_reducible rfl
    rotate_left
    · simp only [Act.put, List.setIfInBounds_toArray, List.set_cons_zero, List.set_cons_succ, i64_w, i32_w]
      rfl
    refine pure_ (i := 5) (N := some 75) (v := ?_) (a' := ?_) #[true, true, true, true, true, true, false, false, false, false, false, false] rfl rfl (any_of HT_.out (by kernel_rfl)) (fun _ _ _ h => h) (Or.inl ⟨by rfl, ?_⟩) ?_ ?_
    rotate_left
    · intro w'
      go_simp
      with_reducible rfl
    rotate_left
    · simp only [Act.put, List.setIfInBounds_toArray, List.set_cons_zero, List.set_cons_succ, i64_w, i32_w]
      rfl
    refine pure_ (i := 6) (N := some 76) (v := ?_) (a' := ?_) #[true, true, true, true, true, true, true, false, false, false, false, false] rfl rfl (any_of HT_.out (by kernel_rfl)) (fun _ _ _ h => h) (Or.inl ⟨by rfl, ?_⟩) ?_ ?_
    rotate_left
    · intro w'
      go_simp
      with_reducible rfl
    rotate_left
    · simp only [Act.put, List.setIfInBounds_toArray, List.set_cons_zero, List.set_cons_succ, i64_w, i32_w]
      rfl
    refine take_ (i := 7) (N := some 77) (v := ?_) (a' := ?_) #[true, true, true, true, true, true, true, true, false, false, false, false] rfl rfl (take_ofW HT_.out HW_.out (by kernel_rfl)) (fun _ _ _ h => h) (Or.inl ⟨by rfl, ?_⟩) hHeld ?_ ?_
    rotate_left
    · rintro w' ⟨s0, s1, s2, s3, s4, s5, s6, s7⟩
      go_simp
      with_reducible rfl
    rotate_left
    · simp only [Act.put, List.setIfInBounds_toArray, List.set_cons_zero, List.set_cons_succ, i64_w, i32_w]
      rfl
    refine take_ (i := 8) (N := some 78) (v := ?_) (a' := ?_) #[true, true, true, true, true, true, true, true, true, false, false, false] rfl rfl (take_ofW HT_.out HW_.out (by kernel_rfl)) (fun _ _ _ h => h) (Or.inl ⟨by rfl, ?_⟩) hHeld ?_ ?_
    rotate_left
    · rintro w' ⟨s0, s1, s2, s3, s4, s5, s6, s7⟩
      go_simp
      with_reducible rfl
    rotate_left
    · simp only [Act.put, List.setIfInBounds_toArray, List.set_cons_zero, List.set_cons_succ, i64_w, i32_w]
      rfl
    refine one_ (i := 9) (N := some 79) #[true, true, true, true, true, true, true, true, true, true, false, false] rfl rfl (one_of HT_.out (by kernel_rfl)) (by decide) (fun K hK => ?_)
    refine goes_ Try.func24 (by kernel_rfl) rfl #[.agg #[.string ((rd_T39 x7_2 (ji46)).f0), .int .i64 ((rd_T39 x7_2 (ji46)).f1), .bool ((rd_T39 x7_2 (ji46)).f2), .string ((rd_T39 x7_2 (ji46)).f3)], .agg #[.string ((rd_T39 (rd_L4 x4_2 x8_3) 0).f0), .int .i64 ((rd_T39 (rd_L4 x4_2 x8_3) 0).f1), .bool ((rd_T39 (rd_L4 x4_2 x8_3) 0).f2), .string ((rd_T39 (rd_L4 x4_2 x8_3) 0).f3)]] (by rfl) rfl rfl (by (try simp only [List.map_toArray, List.map_cons, List.map_nil]); first | done | (simp only [hji46]; rfl) | rfl | (simp only [List.length_drop, List.length_take]; rfl)) ?_
    with_reducible refine (entry_Compare.calls k3 ((rd_T39 x7_2 (ji46)).f0) ((rd_T39 x7_2 (ji46)).f1) ((rd_T39 x7_2 (ji46)).f2) ((rd_T39 x7_2 (ji46)).f3) ((rd_T39 (rd_L4 x4_2 x8_3) 0).f0) ((rd_T39 (rd_L4 x4_2 x8_3) 0).f1) ((rd_T39 (rd_L4 x4_2 x8_3) 0).f2) ((rd_T39 (rd_L4 x4_2 x8_3) 0).f3) t142 _ A49.out).mono ?_
    rintro e w59 ⟨rfl, hb⟩
    have HS4_ := (hb.cell (World.block_lt_of_cell? _ _ (hHeld.2.2.2.2.1))).trans (hHeld.2.2.2.2.1)
    have HS5_ := (hb.cell (World.block_lt_of_cell? _ _ (hHeld.2.2.2.2.2.1))).trans (hHeld.2.2.2.2.2.1)
    have HS6_ := (hb.cell (World.block_lt_of_cell? _ _ (hHeld.2.2.2.2.2.2.1))).trans (hHeld.2.2.2.2.2.2.1)
    have HS7_ := (hb.cell (World.block_lt_of_cell? _ _ (hHeld.2.2.2.2.2.2.2))).trans (hHeld.2.2.2.2.2.2.2)
    refine ⟨_, rfl, ?_⟩
    have n0_ := Aside0.mk (Kd.S_below (by (with_reducible repeat (first | apply Kd.S_alloc | apply Kd.S_drewN | apply Kd.S_drew)); exact HO_4.out) hb)
    have n1_ := Aside0.mk (Kd.R_below (by (with_reducible repeat (first | apply Kd.R_alloc | apply Kd.R_drewN | apply Kd.R_drew)); exact HO_7.out) hb)
    have n5_ := Aside0.mk (blk_below (g := gb131) (o := .cells #[.string ((rd_T39 (rd_L4 x4_2 x8_3) 0).f0), .int .i64 ((rd_T39 (rd_L4 x4_2 x8_3) 0).f1), .bool ((rd_T39 (rd_L4 x4_2 x8_3) 0).f2), .string ((rd_T39 (rd_L4 x4_2 x8_3) 0).f3)] 39 (0, 0)) (by (with_reducible repeat (first | refine blk_drewN ?_ _ | refine blk_drew ?_ | refine blk_alloc ?_ _)); exact BK131.out) hb)
    have n6_ := Aside0.mk (below_step (by repeat (first | (with_reducible first | exact HB.out | apply below_alloc | apply pw_below_drewN | apply below_drew1 | refine below_set ?_ GE131.out) | exact HB.out)) hb)
    clear HO_4
    clear HO_7
    clear BK131
    clear HB
    have HO_4 := n0_
    have HO_7 := n1_
    have BK131 := n5_
    have HB := n6_
    clear n0_ n1_ n5_ n6_
    (try clear hb)
    (try clear hb2)
    (try clear hk)
    (try clear hi)
    refine hK.out _ _ ⟨(blk_cell BK131.out 0).trans rfl, (blk_cell BK131.out 1).trans rfl, (blk_cell BK131.out 2).trans rfl, (blk_cell BK131.out 3).trans rfl, HS4_, HS5_, HS6_, HS7_⟩ (fun hHeld => ?_)
    clear hK K
    refine norm_ (a' := ?_) ?_ ?_
    rotate_left
    · show Act.put _ (some 79) _ = _
      simp only [Act.put, List.setIfInBounds_toArray, List.set_cons_zero, List.set_cons_succ, i64_w, i32_w]
      rfl
    refine pure_ (i := 10) (N := some 80) (v := ?_) (a' := ?_) #[true, true, true, true, true, true, true, true, true, true, true, false] rfl rfl (any_of HT_.out (by kernel_rfl)) (fun _ _ _ h => h) (Or.inl ⟨by rfl, ?_⟩) ?_ ?_
    rotate_left
    · intro w'
      go_simp
      with_reducible rfl
    rotate_left
    · simp only [Act.put, List.setIfInBounds_toArray, List.set_cons_zero, List.set_cons_succ, i64_w, i32_w]
      rfl
    refine pure_ (i := 11) (N := some 81) (v := ?_) (a' := ?_) #[true, true, true, true, true, true, true, true, true, true, true, true] rfl rfl (any_of HT_.out (by kernel_rfl)) (fun _ _ _ h => h) (Or.inl ⟨by rfl, ?_⟩) ?_ ?_
    rotate_left
    · intro w'
      go_simp
      with_reducible rfl
    rotate_left
    · simp only [Act.put, List.setIfInBounds_toArray, List.set_cons_zero, List.set_cons_succ, i64_w, i32_w]
      rfl
    refine done_ (done_of HT_.out (by kernel_rfl)) ?_
    try go_wp2_with (first | go_step3 | go_in)
    (try (rw [Exit.noGoto_normal]; go_wp2_with go_step3))
    go_roundg k3
    case measure => have := HK1.out; have := HK2.out; have := HK3.out; omega
    case rel => exact ⟨(y137), (x7_2), H', ⟨by have := HK1.out; have := HK2.out; have := HK3.out; omega⟩, ⟨by (with_reducible repeat (first | apply Kd.S_alloc | apply Kd.S_drewN | apply Kd.S_drew)); exact Kd.S_mono HO_4.out (fun _ hk => hk.1)⟩, ⟨by (with_reducible repeat (first | apply Kd.R_alloc | apply Kd.R_drewN | apply Kd.R_drew)); exact Kd.R_mono HO_7.out (fun _ hk => trivial)⟩, ⟨by repeat (first | (with_reducible first | exact HB.out | apply below_alloc | apply pw_below_drewN | apply below_drew1 | refine below_set ?_ GE131.out) | exact HB.out)⟩⟩
  rw [if_neg c50] at H
  have c50b0 : (t142 == 0) = false := beq_eq_false_iff_ne.mpr c50
  have c50b1 : (t142 != 0) = true := bne_iff_ne.mpr c50
  by_cases c60 : x7_2.length < 2932031007402
  rotate_left
  · rw [if_neg c60] at H
    exact absurd H (by simp)
  rw [if_pos c60] at H
  have LMc60 := Aside0.mk c60
  clear c60
  obtain ⟨y143, hy143⟩ : ∃ y_ : List (S39), y_ = (x7_2 ++ [(⟨(rd_T39 (rd_L4 x4_2 x8_3) 0).f0, (rd_T39 (rd_L4 x4_2 x8_3) 0).f1, (rd_T39 (rd_L4 x4_2 x8_3) 0).f2, (rd_T39 (rd_L4 x4_2 x8_3) 0).f3⟩ : S39)]) := ⟨_, rfl⟩
  replace H : (merge_Rows.l1 k3 y137 y143) = some (r1, r2) := by first | (rw [hy143]; with_reducible exact H) | (have H2_ := (Option.bind_some _ _).symm.trans H; rw [hy143]; with_reducible exact H2_) | (have H2_ := (Option.bind_some _ _).symm.trans H; with_reducible exact H2_) | with_reducible exact H | (rw [hy143]; exact H) | exact H
  have Ny143 := Aside0.mk hy143
  clear hy143
  have H' := Aside0.mk H
  clear H
  have p129 : 0 ≤ (x8_3 : Int) := of_decide_eq_true (by first | (with_reducible assumption) | assumption)
  have q129 : x8_3 < (x4_2.length : Int) := of_decide_eq_true (by first | (with_reducible assumption) | assumption)
  obtain ⟨ad129, A129_0, c129_0, e129, hx129_0, hl129_0, hi129_0⟩ := at_GL (Kd.S_reads' HO_4.out).2.2 x8_3 p129 q129 (by repeat (first | (with_reducible first | exact HB.out | apply below_alloc | apply pw_below_drewN | apply below_drew1) | exact HB.out))
  cases e129
  have HR129_0 := Aside0.mk hi129_0
  have HC129_0 := Aside0.mk hl129_0
  clear hi129_0 hl129_0
  replace p129 := eq_true p129
  replace q129 := eq_true q129
  have p130 : 0 ≤ (0 : Int) := (by omega)
  have q130 : 0 < ((rd_L4 x4_2 x8_3).length : Int) := of_decide_eq_true (by first | (with_reducible assumption) | assumption)
  obtain ⟨ad130, e130, hx130_0, hx130_1, hx130_2, hx130_3⟩ := at_T39 (by repeat (first | (with_reducible exact HR129_0.out) | (with_reducible refine Kd.C_alloc ?_ _) | (with_reducible refine Kd.C_drewN ?_ _) | (with_reducible refine Kd.C_drew ?_) | exact HR129_0.out)) 0 p130 q130
  cases e130
  have qi130 : (0 < (rd_L4 x4_2 x8_3).length) = True := eq_true (by omega)
  (try rw [show ((0 : Int)).toNat = 0 from rfl] at hx130_0)
  (try rw [show 0 * 4 = 0 from rfl] at hx130_0)
  (try rw [Addr.add_zero'] at hx130_0)
  (try rw [show ((0 : Int)).toNat = 0 from rfl] at hx130_1)
  (try rw [show 0 * 4 = 0 from rfl] at hx130_1)
  (try rw [Addr.add_zero'] at hx130_1)
  (try rw [show ((0 : Int)).toNat = 0 from rfl] at hx130_2)
  (try rw [show 0 * 4 = 0 from rfl] at hx130_2)
  (try rw [Addr.add_zero'] at hx130_2)
  (try rw [show ((0 : Int)).toNat = 0 from rfl] at hx130_3)
  (try rw [show 0 * 4 = 0 from rfl] at hx130_3)
  (try rw [Addr.add_zero'] at hx130_3)
  replace p130 := eq_true p130
  replace q130 := eq_true q130
  try go_wp2_with (first | go_step3 | ((with_reducible refine gate_dst (N := 11) rfl ?_); refine box_event ?hg (N := 11) ?hd (cs := #[.string (⟨#[]⟩ : ByteArray), .int .i64 0, .bool false, .string (⟨#[]⟩ : ByteArray)]) (t := 39) ?hr ?_; (case hd => rfl); (case hg => rfl); (case hr => first | (go_simp; done) | (go_simp; rfl)); intro gb131 hg w61 hbox hb; have n0_ := Aside0.mk (Kd.S_below (Kd.S_elderB (by (with_reducible repeat (first | apply Kd.S_alloc | apply Kd.S_drewN | apply Kd.S_drew)); exact HO_4.out) gb131 (Nat.le_of_eq hg.symm)) hb); have n1_ := Aside0.mk (Kd.R_below (Kd.R_elderB (by (with_reducible repeat (first | apply Kd.R_alloc | apply Kd.R_drewN | apply Kd.R_drew)); exact HO_7.out) gb131 (Nat.le_of_eq hg.symm)) hb); have n4_ := Aside0.mk (Kd.C_below (by repeat (first | (with_reducible exact HR129_0.out) | (with_reducible refine Kd.C_alloc ?_ _) | (with_reducible refine Kd.C_drewN ?_ _) | (with_reducible refine Kd.C_drew ?_) | exact HR129_0.out)) hb); have n5_ := Aside0.mk (below_step (by repeat (first | (with_reducible first | exact HB.out | apply below_alloc | apply pw_below_drewN | apply below_drew1) | exact HB.out)) hb); have n6_ := Aside0.mk (hbox); have n7_ := Aside0.mk ((by rw [hg]; exact (below_size (by repeat (first | (with_reducible first | exact HB.out | apply below_alloc | apply pw_below_drewN | apply below_drew1) | exact HB.out))) : w.heap.size ≤ gb131)); have n8_ := Aside0.mk ((by rw [hg]; exact (below_size (by repeat (first | (with_reducible first | exact HB.out | apply below_alloc | apply pw_below_drewN | apply below_drew1) | exact HB.out))) : w.heap.size ≤ gb131)); clear HO_4; clear HO_7; clear HR129_0; clear HB; have HO_4 := n0_; have HO_7 := n1_; have HR129_0 := n4_; have HB := n5_; have BK131 := n6_; have GW131 := n7_; have GE131 := n8_; clear n0_ n1_ n4_ n5_ n6_ n7_ n8_; clear hb hbox hg; have hcz62_0 : w61.cell? ⟨gb131, 0, none⟩ = some (.string (⟨#[]⟩ : ByteArray)) := (blk_cell BK131.out 0).trans rfl; have hcz62_1 : w61.cell? ⟨gb131, 1, none⟩ = some (.int .i64 0) := (blk_cell BK131.out 1).trans rfl; have hcz62_2 : w61.cell? ⟨gb131, 2, none⟩ = some (.bool false) := (blk_cell BK131.out 2).trans rfl; have hcz62_3 : w61.cell? ⟨gb131, 3, none⟩ = some (.string (⟨#[]⟩ : ByteArray)) := (blk_cell BK131.out 3).trans rfl; have hfz62_0 := blk_frozen BK131.out 0; have hfz62_1 := blk_frozen BK131.out 1; have hfz62_2 := blk_frozen BK131.out 2; have hfz62_3 := blk_frozen BK131.out 3) | ((with_reducible refine gate_store (t := 39) (p := 11) rfl ?_); refine store_event (t := 39) (p := 11) (v := ?vo_w63) (w1 := ((((w61.setCell ⟨gb131, 0, none⟩ (.string ((rd_T39 (rd_L4 x4_2 x8_3) 0).f0))).setCell ⟨gb131, 1, none⟩ (.int .i64 ((rd_T39 (rd_L4 x4_2 x8_3) 0).f1))).setCell ⟨gb131, 2, none⟩ (.bool ((rd_T39 (rd_L4 x4_2 x8_3) 0).f2))).setCell ⟨gb131, 3, none⟩ (.string ((rd_T39 (rd_L4 x4_2 x8_3) 0).f3)))) ?hg ?ho ?hn ?hr ?_; (case ho => rfl); (case hg => rfl); (case hn => rfl); (case hr => first | (go_simp; done) | (go_simp; rfl)); intro w63 hw; have n0_ : Aside0 (Kd.S (kGL w) 23 w63 w.heap.size (fun k_ => some k_ ≠ (u7 : Value).ownBlock ∧ k_ ≠ gb131) (.slice (some ad129) x4_2.length co11) x4_2) := ⟨(by rw [hw]; exact (by (with_reducible repeat (first | apply Kd.S_alloc | apply Kd.S_drewN | apply Kd.S_drew)); exact Kd.S_mono (Kd.S_far (p := ⟨gb131, 3, none⟩) (Kd.S_far (p := ⟨gb131, 2, none⟩) (Kd.S_far (p := ⟨gb131, 1, none⟩) (Kd.S_far (p := ⟨gb131, 0, none⟩) (Kd.S_mono HO_4.out (fun k_ hk => (⟨hk, hk.2⟩ : _ ∧ k_ ≠ gb131))) (fun _ hk => hk.2) (.string ((rd_T39 (rd_L4 x4_2 x8_3) 0).f0))) (fun _ hk => hk.2) (.int .i64 ((rd_T39 (rd_L4 x4_2 x8_3) 0).f1))) (fun _ hk => hk.2) (.bool ((rd_T39 (rd_L4 x4_2 x8_3) 0).f2))) (fun _ hk => hk.2) (.string ((rd_T39 (rd_L4 x4_2 x8_3) 0).f3))) (fun _ hk => ⟨hk.1.1, hk.1.2⟩)))⟩; have n1_ : Aside0 (Kd.R k39 39 w63 w.heap.size (fun k_ => k_ ≠ gb131) u7 x7_2) := ⟨(by rw [hw]; exact (by (with_reducible repeat (first | apply Kd.R_alloc | apply Kd.R_drewN | apply Kd.R_drew)); exact Kd.R_mono (Kd.R_far (p := ⟨gb131, 3, none⟩) (Kd.R_far (p := ⟨gb131, 2, none⟩) (Kd.R_far (p := ⟨gb131, 1, none⟩) (Kd.R_far (p := ⟨gb131, 0, none⟩) (Kd.R_mono HO_7.out (fun k_ hk => (⟨hk, hk.2⟩ : _ ∧ k_ ≠ gb131))) (fun _ hk => hk.2) (.string ((rd_T39 (rd_L4 x4_2 x8_3) 0).f0))) (fun _ hk => hk.2) (.int .i64 ((rd_T39 (rd_L4 x4_2 x8_3) 0).f1))) (fun _ hk => hk.2) (.bool ((rd_T39 (rd_L4 x4_2 x8_3) 0).f2))) (fun _ hk => hk.2) (.string ((rd_T39 (rd_L4 x4_2 x8_3) 0).f3))) (fun _ hk => hk.1.2)))⟩; have n4_ : Aside0 (w63.heap[gb131]? = some (.cells #[.string ((rd_T39 (rd_L4 x4_2 x8_3) 0).f0), .int .i64 ((rd_T39 (rd_L4 x4_2 x8_3) 0).f1), .bool ((rd_T39 (rd_L4 x4_2 x8_3) 0).f2), .string ((rd_T39 (rd_L4 x4_2 x8_3) 0).f3)] 39 (0, 0))) := ⟨(by rw [hw]; exact (by (with_reducible repeat (first | refine blk_drewN ?_ _ | refine blk_drew ?_ | refine blk_alloc ?_ _)); refine blk_put (cs := #[.string ((rd_T39 (rd_L4 x4_2 x8_3) 0).f0), .int .i64 ((rd_T39 (rd_L4 x4_2 x8_3) 0).f1), .bool ((rd_T39 (rd_L4 x4_2 x8_3) 0).f2), .string (⟨#[]⟩ : ByteArray)]) ?_ 3 _ rfl; (with_reducible repeat (first | refine blk_drewN ?_ _ | refine blk_drew ?_ | refine blk_alloc ?_ _)); refine blk_put (cs := #[.string ((rd_T39 (rd_L4 x4_2 x8_3) 0).f0), .int .i64 ((rd_T39 (rd_L4 x4_2 x8_3) 0).f1), .bool false, .string (⟨#[]⟩ : ByteArray)]) ?_ 2 _ rfl; (with_reducible repeat (first | refine blk_drewN ?_ _ | refine blk_drew ?_ | refine blk_alloc ?_ _)); refine blk_put (cs := #[.string ((rd_T39 (rd_L4 x4_2 x8_3) 0).f0), .int .i64 0, .bool false, .string (⟨#[]⟩ : ByteArray)]) ?_ 1 _ rfl; (with_reducible repeat (first | refine blk_drewN ?_ _ | refine blk_drew ?_ | refine blk_alloc ?_ _)); refine blk_put (cs := #[.string (⟨#[]⟩ : ByteArray), .int .i64 0, .bool false, .string (⟨#[]⟩ : ByteArray)]) ?_ 0 _ rfl; (with_reducible repeat (first | refine blk_drewN ?_ _ | refine blk_drew ?_ | refine blk_alloc ?_ _)); exact BK131.out))⟩; have n5_ : Aside0 (Below w.heap.size w w63) := ⟨(by rw [hw]; exact (by repeat (first | (with_reducible first | exact HB.out | apply below_alloc | apply pw_below_drewN | apply below_drew1 | refine below_set ?_ GE131.out) | exact HB.out)))⟩; clear hw; clear HO_4; clear HO_7; clear BK131; clear HB; have HO_4 := n0_; have HO_7 := n1_; have BK131 := n4_; have HB := n5_; clear n0_ n1_ n4_ n5_; have p132 : 0 ≤ (x8_3 : Int) := of_decide_eq_true (by first | (with_reducible assumption) | assumption); have q132 : x8_3 < (x4_2.length : Int) := of_decide_eq_true (by first | (with_reducible assumption) | assumption); obtain ⟨ad132, A132_0, c132_0, e132, hx132_0, hl132_0, hi132_0, hi132_0w⟩ := at_GLw (Kd.S_reads' HO_4.out).2.2 x8_3 p132 q132 (by repeat (first | (with_reducible first | exact HB.out | apply below_alloc | apply pw_below_drewN | apply below_drew1) | exact HB.out)); obtain rfl : ad129 = ad132 := (by injection e132); have HR132_0 := Aside0.mk hi132_0; have HR132_0w := Aside0.mk hi132_0w; have HC132_0 := Aside0.mk hl132_0; clear hi132_0 hi132_0w hl132_0; replace p132 := eq_true p132; replace q132 := eq_true q132; have q64 : (1 : Int) ≤ (((rd_L4 x4_2 x8_3).length : Int) : Int) := of_decide_eq_true (by first | (with_reducible assumption) | assumption); obtain ⟨i064, hi064, _, hsz64, _⟩ := info_parts info39; have hroom64 : (rd_L4 x4_2 x8_3).length ≤ c132_0 := HC132_0.out; have hC64 : Kd.C k39 _ A132_0 (rd_L4 x4_2 x8_3).length (rd_L4 x4_2 x8_3) := HR132_0w.out; have hcut64 := cut_from (P := Try.prog) 23 39 .i64 Try.underlying23 hi064 4 hsz64 A132_0 (rd_L4 x4_2 x8_3).length c132_0 1 (by omega) q64; have hr64 := Kd.C_drop (m := (1 : Int).toNat) (c := c132_0) hC64 (by omega) hroom64; obtain ⟨A64, hA64⟩ : ∃ A1, A1 = (if c132_0 = (1 : Int).toNat then A132_0 else (A132_0 : Option Addr).map (·.add ((1 : Int).toNat * 4))) := ⟨_, rfl⟩; obtain ⟨c64, hc64⟩ : ∃ c1, c1 = c132_0 - (1 : Int).toNat := ⟨_, rfl⟩; have hy64 : y133.length = (rd_L4 x4_2 x8_3).length - (1 : Int).toNat := (by rw [Ny133.out, List.length_drop] <;> omega); rw [show (rd_L4 x4_2 x8_3).drop (1 : Int).toNat = y133 from Ny133.out.symm] at hr64; replace hr64 : Kd.C k39 _ A64 y133.length y133 := (by rw [hA64]; exact hr64); rw [← hy64, ← hA64, ← hc64] at hcut64; have HR136 := Aside0.mk hr64; have HC136 := Aside0.mk (show y133.length ≤ c64 from by rw [hy64, hc64]; exact Nat.sub_le_sub_right hroom64 _); clear hr64 hC64 hroom64 hi064 hsz64 hc64; have KY64 := Aside0.mk hy64; have KA64 := Aside0.mk hA64; clear hy64 hA64; replace q64 := eq_true q64; have p33 : 0 ≤ (x8_3 : Int) := of_decide_eq_true (by first | (with_reducible assumption) | assumption); have q33 : (x8_3 : Int) < ((x4_2.length : Int) : Int) := of_decide_eq_true (by first | (with_reducible assumption) | assumption); obtain ⟨go33, co33, eo33, gb33, gl33, cl33, HG33⟩ := Kd.S_form HO_4.out (by omega); (first | cases eo33 | (injection eo33 with ea_ en_ ec_; (first | subst ea_ | (injection ea_ with ea_; subst ea_)); subst ec_; clear en_)); have GB33 := Aside0.mk gb33; have GG33 := Aside0.mk HG33; clear gb33 gl33 HG33; (first | simp only [add_plain] at hx129_0 | skip); (first | simp only [add_plain] at hx132_0 | skip); obtain ⟨_, ce33, hcl33, hM33, hcc33, hfr33, _, _⟩ := Kd.S_elem HO_4.out [] (x8_3 : Int) p33 q33; obtain ⟨vA33, vc33, rfl, ge33_0, _⟩ := hM33; have hx33_0 := hcc33 0 _ rfl; have hf33_0 := hfr33 0; (try simp only [show (kGL w).sz = 1 from rfl, Nat.mul_one, Nat.add_zero] at hx33_0); (try simp only [show (kGL w).sz = 1 from rfl, Nat.mul_one, Nat.add_zero] at hf33_0); clear hcl33 hcc33 hfr33; (try clear hM33); replace p33 := eq_true p33; replace q33 := eq_true q33; have HX65 := Aside0.mk (show Kd.S (kGL w) 23 w63 w.heap.size (fun k_ => ((fun k_ => some k_ ≠ (u7 : Value).ownBlock ∧ k_ ≠ gb131)) k_ ∧ ¬ ((fun _ => False)) k_) (.slice (some ⟨go33, 0, none⟩) x4_2.length co11) x4_2 from (by (with_reducible repeat (first | apply Kd.S_alloc | apply Kd.S_drewN | apply Kd.S_drew)); exact Kd.S_mono HO_4.out (fun k_ hk => ⟨⟨hk.1, hk.2⟩, fun e_ => e_⟩))); obtain ⟨oki65, ce65, hcl65, hM65, hcc65, hfr65, hoki65, hH65⟩ := Kd.S_elem HX65.out [] (x8_3 : Int) (of_decide_eq_true (by first | (with_reducible assumption) | assumption)) (by have h_ : (x8_3 : Int) < ((x4_2.length : Int) : Int) := of_decide_eq_true (by first | (with_reducible assumption) | assumption); first | exact h_ | (have e_ := (Kd.S_reads' HO_4.out).1; omega) | simpa using h_); obtain ⟨vA65, vc65, rfl, ge65_0, _⟩ := hM65; have HP65 := Kd.S_seg hH65 (of_decide_eq_true (by first | (with_reducible assumption) | assumption)) (by have h_ : (x8_3 : Int) < ((x4_2.length : Int) : Int) := of_decide_eq_true (by first | (with_reducible assumption) | assumption); first | exact h_ | (have e_ := (Kd.S_reads' HO_4.out).1; omega) | simpa using h_) (seg := [.slice A64 y133.length c64]) (j := 0) (show 1 ≤ 1 from by decide) (x' := y133) (show (kGL w).M _ _ _ y133 [.slice A64 y133.length c64] from ⟨_, _, rfl, HC136.out, HR136.out⟩) (fun _ hk => hk) (fun k_ hk_ => hk_.elim); have hx65_0 := hcc65 0 _ rfl; (try simp only [show (kGL w).sz = 1 from rfl, Nat.mul_one, Nat.add_zero] at hx65_0); have hf65_0 := hfr65 0; (try simp only [show (kGL w).sz = 1 from rfl, Nat.mul_one, Nat.add_zero] at hf65_0); clear hcl65 hcc65 hfr65 hoki65 hH65; (try clear hM65); (try simp only [show (kGL w).sz = 1 from rfl, Nat.mul_one, Nat.add_zero] at HP65)) | ((with_reducible refine gate_store (t := 23) (p := 67) rfl ?_); refine store_event (t := 23) (p := 67) (v := ?vo_w66) (w1 := (w63.setCell ⟨go33, (x8_3 : Int).toNat, none⟩ (.slice A64 y133.length c64))) ?hg ?ho ?hn ?hr ?_; (case ho => rfl); (case hg => rfl); (case hn => rfl); (case hr => first | (go_simp; done) | (go_simp; rfl)); intro w66 hw; have hg : w63.grownBy w66 (some go33) := (by rw [hw]; exact HP65.2); have hp_ : Kd.S (kGL w) 23 w66 w.heap.size (fun k_ => some k_ ≠ (u7 : Value).ownBlock ∧ k_ ≠ gb131) (.slice (some ⟨go33, 0, none⟩) x4_2.length co11) y137 := (by rw [hw, Ny137.out]; exact HP65.1); clear HP65; have n0_ := Aside0.mk (hp_); have n1_ := Aside0.mk (Kd.R_over' (v := (.slice (some ⟨go33, 0, none⟩) x4_2.length co11)) (by (with_reducible repeat (first | apply Kd.R_alloc | apply Kd.R_drewN | apply Kd.R_drew)); exact HO_7.out) (Kd.S_typed HO_4.out) (by decide) hg); have n4_ := Aside0.mk (blk_grown (g := gb131) (o := .cells #[.string ((rd_T39 (rd_L4 x4_2 x8_3) 0).f0), .int .i64 ((rd_T39 (rd_L4 x4_2 x8_3) 0).f1), .bool ((rd_T39 (rd_L4 x4_2 x8_3) 0).f2), .string ((rd_T39 (rd_L4 x4_2 x8_3) 0).f3)] 39 (0, 0)) (by (with_reducible repeat (first | refine blk_drewN ?_ _ | refine blk_drew ?_ | refine blk_alloc ?_ _)); exact BK131.out) hg (Kd.S_ne HO_4.out BK131.out (by decide))); have n6_ := Aside0.mk ((by rw [hw]; exact below_set (HB.out) GB33.out : Below w.heap.size w w66)); clear HO_4; clear HO_7; clear BK131; clear HB; have HO_4 := n0_; have HO_7 := n1_; have BK131 := n4_; have HB := n6_; clear n0_ n1_ n4_ n6_; clear hg hw hp_; obtain ⟨Ao67, co67, eo67⟩ := Kd.R_slice HO_7.out; subst eo67))
  have n0_ := Aside0.mk (Kd.S_drew HO_4.out)
  have n1_ := Aside0.mk (Kd.R_drew HO_7.out)
  have n5_ := Aside0.mk (blk_drew BK131.out)
  have n6_ := Aside0.mk (below_drew1 HB.out)
  clear HO_4
  clear HO_7
  clear BK131
  clear HB
  have HO_4 := n0_
  have HO_7 := n1_
  have BK131 := n5_
  have HB := n6_
  clear n0_ n1_ n5_ n6_
  have p141 : 0 ≤ ((ji46) : Int) := of_decide_eq_true (by first | (with_reducible assumption) | assumption)
  have q141 : (ji46) < (x7_2.length : Int) := of_decide_eq_true (by first | (with_reducible assumption) | assumption)
  obtain ⟨ad141, e141, hx141_0, hx141_1, hx141_2, hx141_3⟩ := at_T39 (Kd.R_reads' HO_7.out).2.2 (ji46) p141 q141
  cases e141
  replace p141 := eq_true p141
  replace q141 := eq_true q141
  refine start_ (n := 12) (S := fun w' => w'.cell? ⟨gb131, 0, none⟩ = some (.string ((rd_T39 (rd_L4 x4_2 x8_3) 0).f0)) ∧ w'.cell? ⟨gb131, 1, none⟩ = some (.int .i64 ((rd_T39 (rd_L4 x4_2 x8_3) 0).f1)) ∧ w'.cell? ⟨gb131, 2, none⟩ = some (.bool ((rd_T39 (rd_L4 x4_2 x8_3) 0).f2)) ∧ w'.cell? ⟨gb131, 3, none⟩ = some (.string ((rd_T39 (rd_L4 x4_2 x8_3) 0).f3)) ∧ w'.cell? (ad141.add (((ji46)).toNat * 4)) = some (.string ((rd_T39 x7_2 (ji46)).f0)) ∧ w'.cell? ⟨(ad141.add (((ji46)).toNat * 4)).block, (ad141.add (((ji46)).toNat * 4)).off + 1, none⟩ = some (.int .i64 ((rd_T39 x7_2 (ji46)).f1)) ∧ w'.cell? ⟨(ad141.add (((ji46)).toNat * 4)).block, (ad141.add (((ji46)).toNat * 4)).off + 2, none⟩ = some (.bool ((rd_T39 x7_2 (ji46)).f2)) ∧ w'.cell? ⟨(ad141.add (((ji46)).toNat * 4)).block, (ad141.add (((ji46)).toNat * 4)).off + 3, none⟩ = some (.string ((rd_T39 x7_2 (ji46)).f3))) (ds := []) #[false, false, false, false, false, false, false, false, false, false, false, false] (by kernel_rfl) rfl rfl ⟨(blk_cell BK131.out 0).trans rfl, (blk_cell BK131.out 1).trans rfl, (blk_cell BK131.out 2).trans rfl, (blk_cell BK131.out 3).trans rfl, hx141_0, hx141_1, hx141_2, hx141_3⟩ (fun hHeld => ?_); refine with_tabW merge_Rows.tab22 merge_Rows.bits22 (fun HT_ HW_ => ?_)
  generalize w66.drew = w68 at HO_4 HO_7 BK131 HB hx141_0 hx141_1 hx141_2 hx141_3 hHeld ⊢
  refine pure_ (i := 0) (N := some 70) (v := ?_) (a' := ?_) #[true, false, false, false, false, false, false, false, false, false, false, false] rfl rfl (any_of HT_.out (by kernel_rfl)) (fun _ _ _ h => h) (Or.inl ⟨by rfl, ?_⟩) ?_ ?_
  rotate_left
  · intro w'
    go_simp
    with_reducible rfl
  rotate_left
  · simp only [Act.put, List.setIfInBounds_toArray, List.set_cons_zero, List.set_cons_succ, i64_w, i32_w]
    rfl
  refine pure_ (i := 1) (N := some 71) (v := ?_) (a' := ?_) #[true, true, false, false, false, false, false, false, false, false, false, false] rfl rfl (any_of HT_.out (by kernel_rfl)) (fun _ _ _ h => h) (Or.inl ⟨by rfl, ?_⟩) ?_ ?_
  rotate_left
  · intro w'
    go_simp
    with_reducible rfl
  rotate_left
  · simp only [Act.put, List.setIfInBounds_toArray, List.set_cons_zero, List.set_cons_succ, i64_w, i32_w]
    rfl
  refine pure_ (i := 2) (N := some 72) (v := ?_) (a' := ?_) #[true, true, true, false, false, false, false, false, false, false, false, false] rfl rfl (any_of HT_.out (by kernel_rfl)) (fun _ _ _ h => h) (Or.inl ⟨by rfl, ?_⟩) ?_ ?_
  rotate_left
  · intro w'
    go_simp
    with_reducible rfl
  rotate_left
  · simp only [Act.put, List.setIfInBounds_toArray, List.set_cons_zero, List.set_cons_succ, i64_w, i32_w]
    rfl
  refine pure_ (i := 3) (N := some 73) (v := ?_) (a' := ?_) #[true, true, true, true, false, false, false, false, false, false, false, false] rfl rfl (any_of HT_.out (by kernel_rfl)) (fun _ _ _ h => h) (Or.inl ⟨by rfl, ?_⟩) ?_ ?_
  rotate_left
  · intro w'
    go_simp
    with_reducible rfl
  rotate_left
  · simp only [Act.put, List.setIfInBounds_toArray, List.set_cons_zero, List.set_cons_succ, i64_w, i32_w]
    rfl
  refine pure_ (i := 4) (N := some 74) (v := ?_) (a' := ?_) #[true, true, true, true, true, false, false, false, false, false, false, false] rfl rfl (any_of HT_.out (by kernel_rfl)) (fun _ _ _ h => h) (Or.inl ⟨by rfl, ?_⟩) ?_ ?_
  rotate_left
  · intro w'
    go_simp
    with_reducible rfl
  rotate_left
  · simp only [Act.put, List.setIfInBounds_toArray, List.set_cons_zero, List.set_cons_succ, i64_w, i32_w]
    rfl
  refine pure_ (i := 5) (N := some 75) (v := ?_) (a' := ?_) #[true, true, true, true, true, true, false, false, false, false, false, false] rfl rfl (any_of HT_.out (by kernel_rfl)) (fun _ _ _ h => h) (Or.inl ⟨by rfl, ?_⟩) ?_ ?_
  rotate_left
  · intro w'
    go_simp
    with_reducible rfl
  rotate_left
  · simp only [Act.put, List.setIfInBounds_toArray, List.set_cons_zero, List.set_cons_succ, i64_w, i32_w]
    rfl
  refine pure_ (i := 6) (N := some 76) (v := ?_) (a' := ?_) #[true, true, true, true, true, true, true, false, false, false, false, false] rfl rfl (any_of HT_.out (by kernel_rfl)) (fun _ _ _ h => h) (Or.inl ⟨by rfl, ?_⟩) ?_ ?_
  rotate_left
  · intro w'
    go_simp
    with_reducible rfl
  rotate_left
  · simp only [Act.put, List.setIfInBounds_toArray, List.set_cons_zero, List.set_cons_succ, i64_w, i32_w]
    rfl
  refine take_ (i := 7) (N := some 77) (v := ?_) (a' := ?_) #[true, true, true, true, true, true, true, true, false, false, false, false] rfl rfl (take_ofW HT_.out HW_.out (by kernel_rfl)) (fun _ _ _ h => h) (Or.inl ⟨by rfl, ?_⟩) hHeld ?_ ?_
  rotate_left
  · rintro w' ⟨s0, s1, s2, s3, s4, s5, s6, s7⟩
    go_simp
    with_reducible rfl
  rotate_left
  · simp only [Act.put, List.setIfInBounds_toArray, List.set_cons_zero, List.set_cons_succ, i64_w, i32_w]
    rfl
  refine take_ (i := 8) (N := some 78) (v := ?_) (a' := ?_) #[true, true, true, true, true, true, true, true, true, false, false, false] rfl rfl (take_ofW HT_.out HW_.out (by kernel_rfl)) (fun _ _ _ h => h) (Or.inl ⟨by rfl, ?_⟩) hHeld ?_ ?_
  rotate_left
  · rintro w' ⟨s0, s1, s2, s3, s4, s5, s6, s7⟩
    go_simp
    with_reducible rfl
  rotate_left
  · simp only [Act.put, List.setIfInBounds_toArray, List.set_cons_zero, List.set_cons_succ, i64_w, i32_w]
    rfl
  refine one_ (i := 9) (N := some 79) #[true, true, true, true, true, true, true, true, true, true, false, false] rfl rfl (one_of HT_.out (by kernel_rfl)) (by decide) (fun K hK => ?_)
  refine goes_ Try.func24 (by kernel_rfl) rfl #[.agg #[.string ((rd_T39 x7_2 (ji46)).f0), .int .i64 ((rd_T39 x7_2 (ji46)).f1), .bool ((rd_T39 x7_2 (ji46)).f2), .string ((rd_T39 x7_2 (ji46)).f3)], .agg #[.string ((rd_T39 (rd_L4 x4_2 x8_3) 0).f0), .int .i64 ((rd_T39 (rd_L4 x4_2 x8_3) 0).f1), .bool ((rd_T39 (rd_L4 x4_2 x8_3) 0).f2), .string ((rd_T39 (rd_L4 x4_2 x8_3) 0).f3)]] (by rfl) rfl rfl (by (try simp only [List.map_toArray, List.map_cons, List.map_nil]); first | done | (simp only [hji46]; rfl) | rfl | (simp only [List.length_drop, List.length_take]; rfl)) ?_
  with_reducible refine (entry_Compare.calls k3 ((rd_T39 x7_2 (ji46)).f0) ((rd_T39 x7_2 (ji46)).f1) ((rd_T39 x7_2 (ji46)).f2) ((rd_T39 x7_2 (ji46)).f3) ((rd_T39 (rd_L4 x4_2 x8_3) 0).f0) ((rd_T39 (rd_L4 x4_2 x8_3) 0).f1) ((rd_T39 (rd_L4 x4_2 x8_3) 0).f2) ((rd_T39 (rd_L4 x4_2 x8_3) 0).f3) t142 _ A49.out).mono ?_
  rintro e w69 ⟨rfl, hb⟩
  have HS4_ := (hb.cell (World.block_lt_of_cell? _ _ (hHeld.2.2.2.2.1))).trans (hHeld.2.2.2.2.1)
  have HS5_ := (hb.cell (World.block_lt_of_cell? _ _ (hHeld.2.2.2.2.2.1))).trans (hHeld.2.2.2.2.2.1)
  have HS6_ := (hb.cell (World.block_lt_of_cell? _ _ (hHeld.2.2.2.2.2.2.1))).trans (hHeld.2.2.2.2.2.2.1)
  have HS7_ := (hb.cell (World.block_lt_of_cell? _ _ (hHeld.2.2.2.2.2.2.2))).trans (hHeld.2.2.2.2.2.2.2)
  refine ⟨_, rfl, ?_⟩
  have n0_ := Aside0.mk (Kd.S_below (by (with_reducible repeat (first | apply Kd.S_alloc | apply Kd.S_drewN | apply Kd.S_drew)); exact HO_4.out) hb)
  have n1_ := Aside0.mk (Kd.R_below (by (with_reducible repeat (first | apply Kd.R_alloc | apply Kd.R_drewN | apply Kd.R_drew)); exact HO_7.out) hb)
  have n5_ := Aside0.mk (blk_below (g := gb131) (o := .cells #[.string ((rd_T39 (rd_L4 x4_2 x8_3) 0).f0), .int .i64 ((rd_T39 (rd_L4 x4_2 x8_3) 0).f1), .bool ((rd_T39 (rd_L4 x4_2 x8_3) 0).f2), .string ((rd_T39 (rd_L4 x4_2 x8_3) 0).f3)] 39 (0, 0)) (by (with_reducible repeat (first | refine blk_drewN ?_ _ | refine blk_drew ?_ | refine blk_alloc ?_ _)); exact BK131.out) hb)
  have n6_ := Aside0.mk (below_step (by repeat (first | (with_reducible first | exact HB.out | apply below_alloc | apply pw_below_drewN | apply below_drew1 | refine below_set ?_ GE131.out) | exact HB.out)) hb)
  clear HO_4
  clear HO_7
  clear BK131
  clear HB
  have HO_4 := n0_
  have HO_7 := n1_
  have BK131 := n5_
  have HB := n6_
  clear n0_ n1_ n5_ n6_
  (try clear hb)
  (try clear hb2)
  (try clear hk)
  (try clear hi)
  refine hK.out _ _ ⟨(blk_cell BK131.out 0).trans rfl, (blk_cell BK131.out 1).trans rfl, (blk_cell BK131.out 2).trans rfl, (blk_cell BK131.out 3).trans rfl, HS4_, HS5_, HS6_, HS7_⟩ (fun hHeld => ?_)
  clear hK K
  refine norm_ (a' := ?_) ?_ ?_
  rotate_left
  · show Act.put _ (some 79) _ = _
    simp only [Act.put, List.setIfInBounds_toArray, List.set_cons_zero, List.set_cons_succ, i64_w, i32_w]
    rfl
  refine pure_ (i := 10) (N := some 80) (v := ?_) (a' := ?_) #[true, true, true, true, true, true, true, true, true, true, true, false] rfl rfl (any_of HT_.out (by kernel_rfl)) (fun _ _ _ h => h) (Or.inl ⟨by rfl, ?_⟩) ?_ ?_
  rotate_left
  · intro w'
    go_simp
    with_reducible rfl
  rotate_left
  · simp only [Act.put, List.setIfInBounds_toArray, List.set_cons_zero, List.set_cons_succ, i64_w, i32_w]
    rfl
  refine pure_ (i := 11) (N := some 81) (v := ?_) (a' := ?_) #[true, true, true, true, true, true, true, true, true, true, true, true] rfl rfl (any_of HT_.out (by kernel_rfl)) (fun _ _ _ h => h) (Or.inl ⟨by rfl, ?_⟩) ?_ ?_
  rotate_left
  · intro w'
    go_simp
    with_reducible rfl
  rotate_left
  · simp only [Act.put, List.setIfInBounds_toArray, List.set_cons_zero, List.set_cons_succ, i64_w, i32_w]
    rfl
  refine done_ (done_of HT_.out (by kernel_rfl)) ?_
  have hcz70_0 : w69.cell? ⟨gb131, 0, none⟩ = some (.string ((rd_T39 (rd_L4 x4_2 x8_3) 0).f0)) := (blk_cell BK131.out 0).trans rfl
  have hcz70_1 : w69.cell? ⟨gb131, 1, none⟩ = some (.int .i64 ((rd_T39 (rd_L4 x4_2 x8_3) 0).f1)) := (blk_cell BK131.out 1).trans rfl
  have hcz70_2 : w69.cell? ⟨gb131, 2, none⟩ = some (.bool ((rd_T39 (rd_L4 x4_2 x8_3) 0).f2)) := (blk_cell BK131.out 2).trans rfl
  have hcz70_3 : w69.cell? ⟨gb131, 3, none⟩ = some (.string ((rd_T39 (rd_L4 x4_2 x8_3) 0).f3)) := (blk_cell BK131.out 3).trans rfl
  have hfz70_0 := blk_frozen BK131.out 0
  have hfz70_1 := blk_frozen BK131.out 1
  have hfz70_2 := blk_frozen BK131.out 2
  have hfz70_3 := blk_frozen BK131.out 3
  try go_wp2_with (first | go_step3 | ((with_reducible refine gate_builtin (b := .append) (xs := #[.tmp 82, .tmp 84]) rfl ?_); at_builtin; refine Kd.R_append k39 (w0 := w) w.heap.size rfl (.tmp 82) (.tmp 84) 23 39 (.agg #[(.string ⟨#[]⟩), (.int .i64 0), (.bool false), (.string ⟨#[]⟩)]) 48 rfl Try.underlying23 info39 rfl (by decide) (by omega) (.slice (some ad141) x7_2.length co67) x7_2 (⟨(rd_T39 (rd_L4 x4_2 x8_3) 0).f0, (rd_T39 (rd_L4 x4_2 x8_3) 0).f1, (rd_T39 (rd_L4 x4_2 x8_3) 0).f2, (rd_T39 (rd_L4 x4_2 x8_3) 0).f3⟩ : S39) [.string ((rd_T39 (rd_L4 x4_2 x8_3) 0).f0), .int .i64 ((rd_T39 (rd_L4 x4_2 x8_3) 0).f1), .bool ((rd_T39 (rd_L4 x4_2 x8_3) 0).f2), .string ((rd_T39 (rd_L4 x4_2 x8_3) 0).f3)] (fun k_ => k_ ≠ gb131) (fun _ => False) rfl rfl ?aP (fun _ hk => hk.elim) ?aF ?aO ?aB ?aS ?aL ?_; (case aP => exact k39_mkM _ _ _ (⟨(rd_T39 (rd_L4 x4_2 x8_3) 0).f0, (rd_T39 (rd_L4 x4_2 x8_3) 0).f1, (rd_T39 (rd_L4 x4_2 x8_3) 0).f2, (rd_T39 (rd_L4 x4_2 x8_3) 0).f3⟩ : S39)); (case aB => exact (by repeat (first | (with_reducible first | exact HB.out | apply below_alloc | apply pw_below_drewN | apply below_drew1 | refine below_set ?_ GE131.out) | exact HB.out))); (case aF => exact (fun k_ hk => Kd.freshB (g := gb131) (o := .cells #[.string ((rd_T39 (rd_L4 x4_2 x8_3) 0).f0), .int .i64 ((rd_T39 (rd_L4 x4_2 x8_3) 0).f1), .bool ((rd_T39 (rd_L4 x4_2 x8_3) 0).f2), .string ((rd_T39 (rd_L4 x4_2 x8_3) 0).f3)] 39 (0, 0)) (by (with_reducible repeat (first | refine blk_drewN ?_ _ | refine blk_drew ?_ | refine blk_alloc ?_ _)); exact BK131.out) k_ hk)); (case aO => exact (by (with_reducible repeat (first | apply Kd.R_alloc | apply Kd.R_drewN | apply Kd.R_drew)); exact HO_7.out)); (case aS => exact (below_size (by repeat (first | (with_reducible first | exact HB.out | apply below_alloc | apply pw_below_drewN | apply below_drew1 | refine below_set ?_ GE131.out) | exact HB.out)))); (case aL => have := LMc60.out; omega); intro v144 w71 ho hb hg hat; rw [← Ny143.out] at ho; have n0_ := Aside0.mk (Kd.S_after (ok := (fun k_ => k_ ≠ gb131)) (by (with_reducible repeat (first | apply Kd.S_alloc | apply Kd.S_drewN | apply Kd.S_drew)); exact Kd.S_mono HO_4.out (fun _ hk => ⟨hk.2, hk.1⟩)) hg hat); have n3_ := Aside0.mk (blk_grown (g := gb131) (o := .cells #[.string ((rd_T39 (rd_L4 x4_2 x8_3) 0).f0), .int .i64 ((rd_T39 (rd_L4 x4_2 x8_3) 0).f1), .bool ((rd_T39 (rd_L4 x4_2 x8_3) 0).f2), .string ((rd_T39 (rd_L4 x4_2 x8_3) 0).f3)] 39 (0, 0)) (by (with_reducible repeat (first | refine blk_drewN ?_ _ | refine blk_drew ?_ | refine blk_alloc ?_ _)); exact BK131.out) hg (Kd.R_away HO_7.out (fun _ hk => hk))); have n5_ := Aside0.mk (hb); have n6_ := Aside0.mk (ho); clear HO_4; clear BK131; clear HB; clear HO_7; have HO_4 := n0_; have BK131 := n3_; have HB := n5_; have HO145 := n6_; clear n0_ n3_ n5_ n6_; clear ho hb hg hat))
  (try (rw [Exit.noGoto_normal]; go_wp2_with go_step3))
  go_roundg k3
  case measure => have := HK1.out; have := HK2.out; have := HK3.out; omega
  case rel => exact ⟨(y137), (y143), H', ⟨by have := HK1.out; have := HK2.out; have := HK3.out; omega⟩, ⟨by (with_reducible repeat (first | apply Kd.S_alloc | apply Kd.S_drewN | apply Kd.S_drew)); exact Kd.S_mono HO_4.out (fun _ hk => hk.2)⟩, ⟨by (with_reducible repeat (first | apply Kd.R_alloc | apply Kd.R_drewN | apply Kd.R_drew)); exact Kd.R_mono HO145.out (fun _ hk => trivial)⟩, ⟨by repeat (first | (with_reducible first | exact HB.out | apply below_alloc | apply pw_below_drewN | apply below_drew1 | refine below_set ?_ GE131.out) | exact HB.out)⟩⟩

end Go.Proofs.Ytjcpdbekdimceaa.P
