-- Printed by a changed copy of the kit's printer (wip/tools/ext.py); labels and more
import Derived.Test.YtjcpdbekdimceaaM0
import Derived.Test.YtjcpdbekdimceaaM7
namespace Go.Proofs.Ytjcpdbekdimceaa.P
open Go.RowKit Go.Proofs.YtjcpdbekdimceaaW.PrintWords Go.Proofs.YtjcpdbekdimceaaW.PrintLast Go.Proofs.YtjcpdbekdimceaaW.PrintMore
attribute [local go_sem] max2_int min2_int max_two min_two max_three min_three max_four min_four   -- for this text's walks alone
attribute [local go_sem high] string_leq string_geq string_gtr
set_option linter.unusedVariables false
set_option linter.unusedSimpArgs false

/-! ### ravelinref6_insert: function 25 -/
mutual
def ravelinref6_insert.l0 : Nat → List (S39) → List (S39) → Bool → Int → ByteArray → Int → Bool → ByteArray → Option ((List (S39)))
  | 0, _, _, _, _, _, _, _, _ => none
  | k + 1, x0, x5, x6, x7, x182000, x182001, x182002, x182003 => if x7 < (x0.length : Int) then (if 0 ≤ x7 then (if ((rd_T39 x0 x7).f0).toList = x182000.toList then (ravelinref6_insert.j1 k x0 x5 x6 x7 (((rd_T39 x0 x7).f1) == x182001) x182000 x182001 x182002 x182003) else (ravelinref6_insert.j1 k x0 x5 x6 x7 false x182000 x182001 x182002 x182003)) else (none)) else (if x6 = true then (some x5) else (if x5.length < 2932031007402 then (some (x5 ++ [(⟨x182000, x182001, x182002, x182003⟩ : S39)])) else (none)))
def ravelinref6_insert.j1 : Nat → List (S39) → List (S39) → Bool → Int → Bool → ByteArray → Int → Bool → ByteArray → Option ((List (S39)))
  | 0, _, _, _, _, _, _, _, _, _ => none
  | k + 1, x0, x5, x6, x7, x31, x182000, x182001, x182002, x182003 => if x31 = true then (some x0) else (if x6 = true then (if 0 ≤ x7 then (if x7 < (x0.length : Int) then (if x5.length < 2932031007402 then (ravelinref6_insert.l0 k x0 (x5 ++ [(⟨(rd_T39 x0 x7).f0, (rd_T39 x0 x7).f1, (rd_T39 x0 x7).f2, (rd_T39 x0 x7).f3⟩ : S39)]) x6 (wrap64 (x7 + 1)) x182000 x182001 x182002 x182003) else (none)) else (none)) else (none)) else (if 0 ≤ x7 then (if x7 < (x0.length : Int) then ((ravelinref6_Less.f x182000 x182001 x182002 x182003 ((rd_T39 x0 x7).f0) ((rd_T39 x0 x7).f1) ((rd_T39 x0 x7).f2) ((rd_T39 x0 x7).f3)).bind fun t192 => (if t192 = true then (if x5.length < 2932031007402 then ((some (x5 ++ [(⟨x182000, x182001, x182002, x182003⟩ : S39)] : List (S39))).bind fun y193 => (if y193.length < 2932031007402 then (ravelinref6_insert.l0 k x0 (y193 ++ [(⟨(rd_T39 x0 x7).f0, (rd_T39 x0 x7).f1, (rd_T39 x0 x7).f2, (rd_T39 x0 x7).f3⟩ : S39)]) true (wrap64 (x7 + 1)) x182000 x182001 x182002 x182003) else (none))) else (none)) else (if x5.length < 2932031007402 then (ravelinref6_insert.l0 k x0 (x5 ++ [(⟨(rd_T39 x0 x7).f0, (rd_T39 x0 x7).f1, (rd_T39 x0 x7).f2, (rd_T39 x0 x7).f3⟩ : S39)]) x6 (wrap64 (x7 + 1)) x182000 x182001 x182002 x182003) else (none)))) else (none)) else (none)))
end
def ravelinref6_insert.f (k : Nat) (l0 : List (S39)) (a1_0 : ByteArray) (a1_1 : Int) (a1_2 : Bool) (a1_3 : ByteArray) : Option ((List (S39))) := ravelinref6_insert.l0 k l0 ([] : List (S39)) false 0 a1_0 a1_1 a1_2 a1_3
theorem ravelinref6_insert.mono_l : ∀ k, (∀ y0 y1 y2 y3 y4 y5 y6 y7, LeO (ravelinref6_insert.l0 k y0 y1 y2 y3 y4 y5 y6 y7) (ravelinref6_insert.l0 (k + 1) y0 y1 y2 y3 y4 y5 y6 y7)) ∧ (∀ y0 y1 y2 y3 y4 y5 y6 y7 y8, LeO (ravelinref6_insert.j1 k y0 y1 y2 y3 y4 y5 y6 y7 y8) (ravelinref6_insert.j1 (k + 1) y0 y1 y2 y3 y4 y5 y6 y7 y8))
  | 0 => ⟨fun _ _ _ _ _ _ _ _ r h => by simp [ravelinref6_insert.l0] at h, fun _ _ _ _ _ _ _ _ _ r h => by simp [ravelinref6_insert.j1] at h⟩
  | k + 1 => by
    obtain ⟨ih0, ih1⟩ := ravelinref6_insert.mono_l k
    refine ⟨?_, ?_⟩
    all_goals
      intros
      first | unfold ravelinref6_insert.l0 | unfold ravelinref6_insert.j1
      repeat' first
      | (with_reducible exact ih0 _ _ _ _ _ _ _ _)
      | (with_reducible exact ih1 _ _ _ _ _ _ _ _ _)
      | (with_reducible exact LeO.refl _)
      | (with_reducible exact LeO.none _)
      | (with_reducible refine LeO.ite ?_ ?_)
      | (with_reducible refine LeO.bind ?_ (fun _ => ?_))
      | exact ih0 _ _ _ _ _ _ _ _
      | exact ih1 _ _ _ _ _ _ _ _ _
      | exact LeO.none _
      | refine LeO.ite ?_ ?_
      | refine LeO.bind ?_ (fun _ => ?_)
theorem ravelinref6_insert.mono : ∀ a0 a1 a2 a3 a4 k, LeO (ravelinref6_insert.f k a0 a1 a2 a3 a4) (ravelinref6_insert.f (k + 1) a0 a1 a2 a3 a4) := by
  intro a0 a1 a2 a3 a4 k
  obtain ⟨ih0, ih1⟩ := ravelinref6_insert.mono_l k
  unfold ravelinref6_insert.f
  repeat' first
      | (with_reducible exact ih0 _ _ _ _ _ _ _ _)
      | (with_reducible exact ih1 _ _ _ _ _ _ _ _ _)
      | (with_reducible exact LeO.refl _)
      | (with_reducible exact LeO.none _)
      | (with_reducible refine LeO.ite ?_ ?_)
      | (with_reducible refine LeO.bind ?_ (fun _ => ?_))
      | exact ih0 _ _ _ _ _ _ _ _
      | exact ih1 _ _ _ _ _ _ _ _ _
      | exact LeO.none _
      | refine LeO.ite ?_ ?_
      | refine LeO.bind ?_ (fun _ => ?_)
def ravelinref6_insert.T6 : Bool × List (List Nat × List Nat) := (true, [([], []), ([], []), ([0, 1], [0, 1]), ([2], [2]), ([3], [3]), ([], []), ([5], [5]), ([4, 6], [4, 6]), ([7], [7]), ([8], [8]), ([8], [8]), ([9, 10, 8], [8, 9, 10]), ([11, 8], [8, 11]), ([12, 8], [8, 12]), ([8], [8]), ([14, 8], [8, 14]), ([13, 15, 8], [8, 13, 15]), ([8, 16], [8, 16])])
def ravelinref6_insert.B6 : List Nat := [0, 0, 3, 7, 15, 0, 32, 127, 255, 511, 511, 2047, 4095, 8191, 511, 16895, 65535, 131071]
theorem ravelinref6_insert.tab6 : rtab .any (opsOf Try.f25 6) = ravelinref6_insert.T6 := by kernel_rfl
theorem ravelinref6_insert.bits6 : waitsOk ravelinref6_insert.T6.2 ravelinref6_insert.B6 = true := by kernel_rfl
def ravelinref6_insert.T8 : Bool × List (List Nat × List Nat) := (true, [([], []), ([0], [0]), ([1], [1]), ([2], [2]), ([2], [2]), ([2], [2]), ([4, 5, 2], [2, 4, 5]), ([6, 2], [2, 6]), ([3, 7, 2, 2], [2, 3, 7]), ([2, 8], [2, 8])])
def ravelinref6_insert.B8 : List Nat := [0, 1, 3, 7, 7, 7, 55, 119, 255, 511]
theorem ravelinref6_insert.tab8 : rtab .any (opsOf Try.f25 8) = ravelinref6_insert.T8 := by kernel_rfl
theorem ravelinref6_insert.bits8 : waitsOk ravelinref6_insert.T8.2 ravelinref6_insert.B8 = true := by kernel_rfl
set_option maxHeartbeats 8000000 in
set_option maxRecDepth 100000 in
theorem ravelinref6_insert.calls (k : Nat) (P0_ : Nat → Prop) (u9000_ : Value) (l0 : List (S39)) (a1_0 : ByteArray) (a1_1 : Int) (a1_2 : Bool) (a1_3 : ByteArray) (r : List (S39)) (w0 w : World) (hB : Below w0.heap.size w0 w) (ho0 : Kd.R k39 39 w w0.heap.size P0_ u9000_ l0) (h : ravelinref6_insert.f k l0 a1_0 a1_1 a1_2 a1_3 = some r) :
    Calls Try.prog 25 #[u9000_, .agg #[.string a1_0, .int .i64 a1_1, .bool a1_2, .string a1_3]] w fun e w' => ∃ v0_ : Value, e = .returned (v0_) ∧ Kd.R k39 39 w' w0.heap.size (fun k_ => (P0_ k_ ∨ w.heap.size ≤ k_)) v0_ r ∧ Below w0.heap.size w0 w' ∧ Kept w w' (fun k_ => P0_ k_) := by
  have hu39 := Try.underlying39
  have HO0 := Aside0.mk (show Kd.R k39 39 w w0.heap.size (fun k_ => (P0_ k_ ∨ w.heap.size ≤ k_)) u9000_ l0 from Kd.R_mono ho0 (fun k_ hk => (.inl hk)))
  have HK := Aside0.mk (Kept.refl w (fun k_ => P0_ k_))
  have HW0 := Aside0.mk hB.size
  have HB := Aside0.mk hB
  clear hB
  have H : (ravelinref6_insert.l0 k l0 ([] : List (S39)) false 0 a1_0 a1_1 a1_2 a1_3) = some r := h
  clear h
  have H' := Aside0.mk H
  clear H
  go_enter Try.func25, Try.ntmps25
  go_wp2_with (first | ((with_reducible refine gate_dst (N := 3) rfl ?_); refine box_event ?hg (N := 3) ?hd (cs := #[.string a1_0, .int .i64 a1_1, .bool a1_2, .string a1_3]) (t := 39) ?hr ?_; (case hd => rfl); (case hg => rfl); (case hr => first | (go_simp; done) | (go_simp; rfl)); intro gb181 hg w3 hbox hb; have n0_ := Aside0.mk (Kd.R_below (Kd.R_elderB (by (with_reducible repeat (first | apply Kd.R_alloc | apply Kd.R_drewN | apply Kd.R_drew)); exact HO0.out) gb181 (Nat.le_of_eq hg.symm)) hb); have n1_ := Aside0.mk (Kept.below (S := (fun k_ => P0_ k_)) (by repeat (first | (with_reducible first | exact HK.out | apply Kept.alloc | apply Kept.drewN | apply Kept.drew) | exact HK.out)) hb); have n2_ := Aside0.mk (below_step (by repeat (first | (with_reducible first | exact HB.out | apply below_alloc | apply pw_below_drewN | apply below_drew1) | exact HB.out)) hb); have n3_ := Aside0.mk (hbox); have n4_ := Aside0.mk ((by rw [hg]; exact (by first | exact HK.out.1 | exact (show Kept w _ (fun k_ => P0_ k_) from by repeat (first | (with_reducible first | exact HK.out | apply Kept.alloc | apply Kept.drewN | apply Kept.drew) | exact HK.out)).1) : w.heap.size ≤ gb181)); have n5_ := Aside0.mk ((by rw [hg]; exact (below_size (by repeat (first | (with_reducible first | exact HB.out | apply below_alloc | apply pw_below_drewN | apply below_drew1) | exact HB.out))) : w0.heap.size ≤ gb181)); clear HO0; clear HK; clear HB; have HO0 := n0_; have HK := n1_; have HB := n2_; have BK181 := n3_; have GW181 := n4_; have GE181 := n5_; clear n0_ n1_ n2_ n3_ n4_ n5_; clear hb hbox hg))
  go_loopg [5, 6, 7] k (fun kq v5 v6 v7 w' => ∃ (x5_1 : List (S39)) (x6_1 : Bool) (x7_1 : Int), v6 = .bool x6_1 ∧ v7 = .int .i64 x7_1 ∧ Aside0 (ravelinref6_insert.l0 kq l0 x5_1 x6_1 x7_1 a1_0 a1_1 a1_2 a1_3 = some r) ∧ Aside0 (kq ≤ k) ∧ Aside0 (Kd.R k39 39 w' w0.heap.size (fun k_ => (P0_ k_ ∨ w.heap.size ≤ k_) ∧ some k_ ≠ (v5 : Value).ownBlock ∧ k_ ≠ gb181) u9000_ l0) ∧ Aside0 (Kd.R k39 39 w' w0.heap.size (fun k_ => (P0_ k_ ∨ w.heap.size ≤ k_) ∧ some k_ ≠ (u9000_ : Value).ownBlock ∧ k_ ≠ gb181) v5 x5_1) ∧ Aside0 (w'.heap[gb181]? = some (.cells #[.string a1_0, .int .i64 a1_1, .bool a1_2, .string a1_3] 39 (0, 0))) ∧ Aside0 (Kept w w' (fun k_ => P0_ k_)) ∧ Aside0 (Below w0.heap.size w0 w'))
  case atStart => exact ⟨(([] : List (S39))), (false), (0), (by first | rfl | (simp; done) | (simp [*]; done)), (by first | rfl | (simp; done) | (simp [*]; done)), H', ⟨Nat.le_refl _⟩, ⟨by (with_reducible repeat (first | apply Kd.R_alloc | apply Kd.R_drewN | apply Kd.R_drew)); exact Kd.R_mono HO0.out (fun _ hk => ⟨hk.1, ⟨(by simp [Value.ownBlock]), hk.2⟩⟩)⟩, ⟨by first | exact Kd.R_nil _ _ _ _ _ | exact Kd.N_nil _ _ _ _ _ | exact Kd.V_nil _ _ _ _ _ | exact Kd.Q_nil _ _ _ _ _ | exact Kd.S_nil _ _ _ _ _⟩, ⟨by (with_reducible repeat (first | refine blk_drewN ?_ _ | refine blk_drew ?_ | refine blk_alloc ?_ _)); exact BK181.out⟩, ⟨by repeat (first | (with_reducible first | exact HK.out | apply Kept.alloc | apply Kept.drewN | apply Kept.drew | refine Kept.setCell ?_ (.inr GW181.out) _) | exact HK.out)⟩, ⟨by repeat (first | (with_reducible first | exact HB.out | apply below_alloc | apply pw_below_drewN | apply below_drew1 | refine below_set ?_ GE181.out) | exact HB.out)⟩⟩
  clear H'
  try clear c2
  try clear p2
  obtain ⟨x5_1, x6_1, x7_1, rfl, rfl, HA, HK1, HO_0, HO_5, BK181, HK, HB⟩ := hrel
  cases gk with
  | zero => exact absurd HA.out (by simp [ravelinref6_insert.l0])
  | succ k1 => ?_
  have H := HA.out
  clear HA
  simp only [ravelinref6_insert.l0] at H
  by_cases c4 : x7_1 < (l0.length : Int)
  rotate_left
  · rw [if_neg c4] at H
    have c4b0 : decide (x7_1 < (l0.length : Int)) = false := decide_eq_false c4
    clear c4
    by_cases c33 : x6_1 = true
    · subst c33
      have H1 : (some x5_1) = some r := by rw [if_pos rfl] at H; exact H
      clear H
      have H := H1
      clear H1
      obtain rfl := Option.some.inj H
      obtain ⟨Ao34, co34, eo34⟩ := Kd.R_slice HO_0.out
      subst eo34
      go_wp2
      go_ret
      exact ⟨_, by first | rfl | (simp [errW_none, errW_some] <;> rfl) | (simp [*, errW_none, errW_some] <;> rfl), by (with_reducible repeat (first | apply Kd.R_alloc | apply Kd.R_drewN | apply Kd.R_drew)); exact Kd.R_mono HO_5.out (fun _ hk => hk.1), by repeat (first | (with_reducible first | exact HB.out | apply below_alloc | apply pw_below_drewN | apply below_drew1 | refine below_set ?_ GE181.out) | exact HB.out), by repeat (first | (with_reducible first | exact HK.out | apply Kept.alloc | apply Kept.drewN | apply Kept.drew | refine Kept.setCell ?_ (.inr GW181.out) _) | exact HK.out)⟩
    replace c33 := Bool.eq_false_iff.mpr c33
    subst c33
    have H1 : (if x5_1.length < 2932031007402 then (some (x5_1 ++ [(⟨a1_0, a1_1, a1_2, a1_3⟩ : S39)])) else (none)) = some r := by rw [if_neg (show ¬ (false = true) by decide)] at H; exact H
    clear H
    have H := H1
    clear H1
    by_cases c35 : x5_1.length < 2932031007402
    rotate_left
    · rw [if_neg c35] at H
      exact absurd H (by simp)
    rw [if_pos c35] at H
    have LMc35 := Aside0.mk c35
    clear c35
    obtain ⟨y182, hy182⟩ : ∃ y_ : List (S39), y_ = (x5_1 ++ [(⟨a1_0, a1_1, a1_2, a1_3⟩ : S39)]) := ⟨_, rfl⟩
    replace H : (some y182) = some r := by first | (rw [hy182]; with_reducible exact H) | (have H2_ := (Option.bind_some _ _).symm.trans H; rw [hy182]; with_reducible exact H2_) | (have H2_ := (Option.bind_some _ _).symm.trans H; with_reducible exact H2_) | with_reducible exact H | (rw [hy182]; exact H) | exact H
    have Ny182 := Aside0.mk hy182
    clear hy182
    obtain rfl := Option.some.inj H
    obtain ⟨Ao36, co36, eo36⟩ := Kd.R_slice HO_0.out
    subst eo36
    have hcz37_0 : wr.cell? ⟨gb181, 0, none⟩ = some (.string a1_0) := (blk_cell BK181.out 0).trans rfl
    have hcz37_1 : wr.cell? ⟨gb181, 1, none⟩ = some (.int .i64 a1_1) := (blk_cell BK181.out 1).trans rfl
    have hcz37_2 : wr.cell? ⟨gb181, 2, none⟩ = some (.bool a1_2) := (blk_cell BK181.out 2).trans rfl
    have hcz37_3 : wr.cell? ⟨gb181, 3, none⟩ = some (.string a1_3) := (blk_cell BK181.out 3).trans rfl
    have hfz37_0 := blk_frozen BK181.out 0
    have hfz37_1 := blk_frozen BK181.out 1
    have hfz37_2 := blk_frozen BK181.out 2
    have hfz37_3 := blk_frozen BK181.out 3
    go_wp2_with (first | ((with_reducible refine gate_builtin (b := .append) (xs := #[.tmp 56, .tmp 58]) rfl ?_); at_builtin; refine Kd.R_append k39 (w0 := w0) w0.heap.size rfl (.tmp 56) (.tmp 58) 23 39 (.agg #[(.string ⟨#[]⟩), (.int .i64 0), (.bool false), (.string ⟨#[]⟩)]) 48 rfl Try.underlying23 info39 rfl (by decide) (by omega) u5 x5_1 (⟨a1_0, a1_1, a1_2, a1_3⟩ : S39) [.string a1_0, .int .i64 a1_1, .bool a1_2, .string a1_3] (fun k_ => (P0_ k_ ∨ w.heap.size ≤ k_) ∧ some k_ ≠ (.slice Ao36 l0.length co36 : Value).ownBlock ∧ k_ ≠ gb181) (fun _ => False) rfl rfl ?aP (fun _ hk => hk.elim) ?aF ?aO ?aB ?aS ?aL ?_; (case aP => exact k39_mkM _ _ _ (⟨a1_0, a1_1, a1_2, a1_3⟩ : S39)); (case aB => exact (by repeat (first | (with_reducible first | exact HB.out | apply below_alloc | apply pw_below_drewN | apply below_drew1 | refine below_set ?_ GE181.out) | exact HB.out))); (case aF => exact (fun k_ hk => ⟨(.inr (Nat.le_trans (by first | exact HK.out.1 | exact (show Kept w _ (fun k_ => P0_ k_) from by repeat (first | (with_reducible first | exact HK.out | apply Kept.alloc | apply Kept.drewN | apply Kept.drew | refine Kept.setCell ?_ (.inr GW181.out) _) | exact HK.out)).1) hk)), Kd.fresh' (Kd.R_lt (by (with_reducible repeat (first | apply Kd.R_alloc | apply Kd.R_drewN | apply Kd.R_drew)); exact HO_0.out)) k_ hk, Kd.freshB (g := gb181) (o := .cells #[.string a1_0, .int .i64 a1_1, .bool a1_2, .string a1_3] 39 (0, 0)) (by (with_reducible repeat (first | refine blk_drewN ?_ _ | refine blk_drew ?_ | refine blk_alloc ?_ _)); exact BK181.out) k_ hk⟩)); (case aO => exact (by (with_reducible repeat (first | apply Kd.R_alloc | apply Kd.R_drewN | apply Kd.R_drew)); exact HO_5.out)); (case aS => exact (below_size (by repeat (first | (with_reducible first | exact HB.out | apply below_alloc | apply pw_below_drewN | apply below_drew1 | refine below_set ?_ GE181.out) | exact HB.out)))); (case aL => have := LMc35.out; omega); intro v183 w38 ho hb hg hat; rw [← Ny182.out] at ho; have n0_ := Aside0.mk (Kd.R_after (ok := (fun k_ => (P0_ k_ ∨ w.heap.size ≤ k_) ∧ k_ ≠ gb181)) (by (with_reducible repeat (first | apply Kd.R_alloc | apply Kd.R_drewN | apply Kd.R_drew)); exact Kd.R_mono HO_0.out (fun _ hk => ⟨⟨hk.1, hk.2.2⟩, hk.2.1⟩)) hg hat); have n1_ := Aside0.mk (blk_grown (g := gb181) (o := .cells #[.string a1_0, .int .i64 a1_1, .bool a1_2, .string a1_3] 39 (0, 0)) (by (with_reducible repeat (first | refine blk_drewN ?_ _ | refine blk_drew ?_ | refine blk_alloc ?_ _)); exact BK181.out) hg (Kd.R_away HO_5.out (fun _ hk => hk.2.2))); have n2_ := Aside0.mk (hb); have n3_ := Aside0.mk (Kept.of_grown (S := (fun k_ => P0_ k_)) hg (by repeat (first | (with_reducible first | exact HK.out | apply Kept.alloc | apply Kept.drewN | apply Kept.drew | refine Kept.setCell ?_ (.inr GW181.out) _) | exact HK.out)) (fun k_ e_ => (HO_5.out.1 k_ e_).1)); have n4_ := Aside0.mk (ho); clear HO_0; clear BK181; clear HB; clear HK; clear HO_5; have HO_0 := n0_; have BK181 := n1_; have HB := n2_; have HK := n3_; have HO184 := n4_; clear n0_ n1_ n2_ n3_ n4_; clear ho hb hg hat))
    go_ret
    exact ⟨_, by first | rfl | (simp [errW_none, errW_some] <;> rfl) | (simp [*, errW_none, errW_some] <;> rfl), by (with_reducible repeat (first | apply Kd.R_alloc | apply Kd.R_drewN | apply Kd.R_drew)); exact Kd.R_mono HO184.out (fun _ hk => hk.1), by repeat (first | (with_reducible first | exact HB.out | apply below_alloc | apply pw_below_drewN | apply below_drew1 | refine below_set ?_ GE181.out) | exact HB.out), by repeat (first | (with_reducible first | exact HK.out | apply Kept.alloc | apply Kept.drewN | apply Kept.drew | refine Kept.setCell ?_ (.inr GW181.out) _) | exact HK.out)⟩
  rw [if_pos c4] at H
  have c4b0 : decide (x7_1 < (l0.length : Int)) = true := decide_eq_true c4
  clear c4
  have HC5 := Aside0.mk H
  clear H
  obtain ⟨Ao6, co6, eo6⟩ := Kd.R_slice HO_0.out
  subst eo6
  go_upto_region 6 with (fail)
  go_cut [31] (fun v31 wc => ∃ (kq : Nat) (x31_4 : Bool), v31 = .bool x31_4 ∧ Aside0 (ravelinref6_insert.j1 kq l0 x5_1 x6_1 x7_1 x31_4 a1_0 a1_1 a1_2 a1_3 = some r) ∧ Aside0 (kq ≤ k1) ∧ Aside0 (Kd.R k39 39 wc w0.heap.size (fun k_ => (P0_ k_ ∨ w.heap.size ≤ k_) ∧ some k_ ≠ (u5 : Value).ownBlock ∧ k_ ≠ gb181) (.slice Ao6 l0.length co6) l0) ∧ Aside0 (Kd.R k39 39 wc w0.heap.size (fun k_ => (P0_ k_ ∨ w.heap.size ≤ k_) ∧ some k_ ≠ ((.slice Ao6 l0.length co6) : Value).ownBlock ∧ k_ ≠ gb181) u5 x5_1) ∧ Aside0 (wc.heap[gb181]? = some (.cells #[.string a1_0, .int .i64 a1_1, .bool a1_2, .string a1_3] 39 (0, 0))) ∧ Aside0 (Kept w wc (fun k_ => P0_ k_)) ∧ Aside0 (Below w0.heap.size w0 wc))
  case first =>
    have H := HC5.out
    clear HC5
    by_cases c7 : 0 ≤ x7_1
    rotate_left
    · rw [if_neg c7] at H
      exact absurd H (by simp)
    rw [if_pos c7] at H
    have c7b0 : decide (0 ≤ x7_1) = true := decide_eq_true c7
    clear c7
    (first | rw [c7b0] | (simp only [i64_w, i32_w]; rw [c7b0]) | skip)
    by_cases c8 : ((rd_T39 l0 x7_1).f0).toList = a1_0.toList
    rotate_left
    · rw [if_neg c8] at H
      have c8b0 : (((rd_T39 l0 x7_1).f0).toList == a1_0.toList) = false := beq_eq_false_iff_ne.mpr c8
      have c8b1 : (((rd_T39 l0 x7_1).f0).toList != a1_0.toList) = true := bne_iff_ne.mpr c8
      have H' := Aside0.mk H
      clear H
      try go_wp2
      have n0_ := Aside0.mk (Kd.R_drew HO_0.out)
      have n1_ := Aside0.mk (Kd.R_drew HO_5.out)
      have n2_ := Aside0.mk (blk_drew BK181.out)
      have n3_ := Aside0.mk (Kept.drew HK.out)
      have n4_ := Aside0.mk (below_drew1 HB.out)
      clear HO_0
      clear HO_5
      clear BK181
      clear HK
      clear HB
      have HO_0 := n0_
      have HO_5 := n1_
      have BK181 := n2_
      have HK := n3_
      have HB := n4_
      clear n0_ n1_ n2_ n3_ n4_
      have p185 : 0 ≤ (x7_1 : Int) := of_decide_eq_true (by first | (with_reducible assumption) | assumption)
      have q185 : x7_1 < (l0.length : Int) := of_decide_eq_true (by first | (with_reducible assumption) | assumption)
      obtain ⟨ad185, e185, hx185_0, hx185_1, hx185_2, hx185_3⟩ := at_T39 (Kd.R_reads' HO_0.out).2.2 x7_1 p185 q185
      cases e185
      replace p185 := eq_true p185
      replace q185 := eq_true q185
      refine start_ (n := 18) (S := fun w' => w'.cell? ⟨gb181, 0, none⟩ = some (.string a1_0) ∧ w'.cell? ⟨gb181, 1, none⟩ = some (.int .i64 a1_1) ∧ w'.cell? ⟨gb181, 2, none⟩ = some (.bool a1_2) ∧ w'.cell? ⟨gb181, 3, none⟩ = some (.string a1_3) ∧ w'.cell? (ad185.add ((x7_1).toNat * 4)) = some (.string ((rd_T39 l0 x7_1).f0)) ∧ w'.cell? ⟨(ad185.add ((x7_1).toNat * 4)).block, (ad185.add ((x7_1).toNat * 4)).off + 1, none⟩ = some (.int .i64 ((rd_T39 l0 x7_1).f1)) ∧ w'.cell? ⟨(ad185.add ((x7_1).toNat * 4)).block, (ad185.add ((x7_1).toNat * 4)).off + 2, none⟩ = some (.bool ((rd_T39 l0 x7_1).f2)) ∧ w'.cell? ⟨(ad185.add ((x7_1).toNat * 4)).block, (ad185.add ((x7_1).toNat * 4)).off + 3, none⟩ = some (.string ((rd_T39 l0 x7_1).f3))) (ds := []) #[false, false, false, false, false, false, false, false, false, false, false, false, false, false, false, false, false, false] (by kernel_rfl) rfl rfl ⟨(blk_cell BK181.out 0).trans rfl, (blk_cell BK181.out 1).trans rfl, (blk_cell BK181.out 2).trans rfl, (blk_cell BK181.out 3).trans rfl, hx185_0, hx185_1, hx185_2, hx185_3⟩ (fun hHeld => ?_); refine with_tabW ravelinref6_insert.tab6 ravelinref6_insert.bits6 (fun HT_ HW_ => ?_)
      generalize wr.drew = w10 at HO_0 HO_5 BK181 HK HB hx185_0 hx185_1 hx185_2 hx185_3 hHeld ⊢
      refine pure_ (i := 0) (N := some 14) (v := ?_) (a' := ?_) #[true, false, false, false, false, false, false, false, false, false, false, false, false, false, false, false, false, false] rfl rfl (any_of HT_.out (by kernel_rfl)) (fun _ _ _ h => h) (Or.inl ⟨by rfl, ?_⟩) ?_ ?_
      rotate_left
      · intro w'
        go_simp
        with_reducible rfl
      rotate_left
      · simp only [Act.put, List.setIfInBounds_toArray, List.set_cons_zero, List.set_cons_succ, i64_w, i32_w]
        rfl
      refine pure_ (i := 1) (N := some 15) (v := ?_) (a' := ?_) #[true, true, false, false, false, false, false, false, false, false, false, false, false, false, false, false, false, false] rfl rfl (any_of HT_.out (by kernel_rfl)) (fun _ _ _ h => h) (Or.inl ⟨by rfl, ?_⟩) ?_ ?_
      rotate_left
      · intro w'
        go_simp
        with_reducible rfl
      rotate_left
      · simp only [Act.put, List.setIfInBounds_toArray, List.set_cons_zero, List.set_cons_succ, i64_w, i32_w]
        rfl
      refine pure_ (i := 2) (N := some 16) (v := ?_) (a' := ?_) #[true, true, true, false, false, false, false, false, false, false, false, false, false, false, false, false, false, false] rfl rfl (any_of HT_.out (by kernel_rfl)) (fun _ _ _ h => h) (Or.inl ⟨by rfl, ?_⟩) ?_ ?_
      rotate_left
      · intro w'
        go_simp
        with_reducible rfl
      rotate_left
      · simp only [Act.put, List.setIfInBounds_toArray, List.set_cons_zero, List.set_cons_succ, i64_w, i32_w]
        rfl
      refine pure_ (i := 3) (N := some 17) (v := ?_) (a' := ?_) #[true, true, true, true, false, false, false, false, false, false, false, false, false, false, false, false, false, false] rfl rfl (any_of HT_.out (by kernel_rfl)) (fun _ _ _ h => h) (Or.inl ⟨by rfl, ?_⟩) ?_ ?_
      rotate_left
      · intro w'
        go_simp
        with_reducible rfl
      rotate_left
      · simp only [Act.put, List.setIfInBounds_toArray, List.set_cons_zero, List.set_cons_succ, i64_w, i32_w]
        rfl
      refine pure_ (i := 5) (N := some 19) (v := ?_) (a' := ?_) #[true, true, true, true, false, true, false, false, false, false, false, false, false, false, false, false, false, false] rfl rfl (any_of HT_.out (by kernel_rfl)) (fun _ _ _ h => h) (Or.inl ⟨by rfl, ?_⟩) ?_ ?_
      rotate_left
      · intro w'
        go_simp
        with_reducible rfl
      rotate_left
      · simp only [Act.put, List.setIfInBounds_toArray, List.set_cons_zero, List.set_cons_succ, i64_w, i32_w]
        rfl
      refine take_ (i := 4) (N := some 18) (v := ?_) (a' := ?_) #[true, true, true, true, true, true, false, false, false, false, false, false, false, false, false, false, false, false] rfl rfl (take_ofW HT_.out HW_.out (by kernel_rfl)) (fun _ _ _ h => h) (Or.inl ⟨by rfl, ?_⟩) hHeld ?_ ?_
      rotate_left
      · rintro w' ⟨s0, s1, s2, s3, s4, s5, s6, s7⟩
        go_simp
        with_reducible rfl
      rotate_left
      · simp only [Act.put, List.setIfInBounds_toArray, List.set_cons_zero, List.set_cons_succ, i64_w, i32_w]
        rfl
      refine take_ (i := 6) (N := some 20) (v := ?_) (a' := ?_) #[true, true, true, true, true, true, true, false, false, false, false, false, false, false, false, false, false, false] rfl rfl (take_ofW HT_.out HW_.out (by kernel_rfl)) (fun _ _ _ h => h) (Or.inl ⟨by rfl, ?_⟩) hHeld ?_ ?_
      rotate_left
      · rintro w' ⟨s0, s1, s2, s3, s4, s5, s6, s7⟩
        go_simp
        with_reducible rfl
      rotate_left
      · simp only [Act.put, List.setIfInBounds_toArray, List.set_cons_zero, List.set_cons_succ, i64_w, i32_w]
        rfl
      refine pure_ (i := 7) (N := some 21) (v := ?_) (a' := ?_) #[true, true, true, true, true, true, true, true, false, false, false, false, false, false, false, false, false, false] rfl rfl (any_of HT_.out (by kernel_rfl)) (fun _ _ _ h => h) (Or.inl ⟨by rfl, ?_⟩) ?_ ?_
      rotate_left
      · intro w'
        go_simp
        with_reducible rfl
      rotate_left
      · simp only [Act.put, List.setIfInBounds_toArray, List.set_cons_zero, List.set_cons_succ, i64_w, i32_w]
        rfl
      refine pure_ (i := 8) (N := some 22) (v := ?_) (a' := ?_) #[true, true, true, true, true, true, true, true, true, false, false, false, false, false, false, false, false, false] rfl rfl (any_of HT_.out (by kernel_rfl)) (fun _ _ _ h => h) (Or.inl ⟨by rfl, ?_⟩) ?_ ?_
      rotate_left
      · intro w'
        go_simp
        with_reducible rfl
      rotate_left
      · simp only [Act.put, List.setIfInBounds_toArray, List.set_cons_zero, List.set_cons_succ, i64_w, i32_w]
        rfl
      refine pure_ (i := 9) (N := some 23) (v := undef) (a' := ?_) #[true, true, true, true, true, true, true, true, true, true, false, false, false, false, false, false, false, false] rfl rfl (any_of HT_.out (by kernel_rfl)) (fun _ _ _ h => h) (Or.inr ⟨by rfl, rfl⟩) ?_ ?_
      rotate_left
      · simp only [Act.put, List.setIfInBounds_toArray, List.set_cons_zero, List.set_cons_succ, i64_w, i32_w]
        rfl
      refine pure_ (i := 10) (N := some 24) (v := undef) (a' := ?_) #[true, true, true, true, true, true, true, true, true, true, true, false, false, false, false, false, false, false] rfl rfl (any_of HT_.out (by kernel_rfl)) (fun _ _ _ h => h) (Or.inr ⟨by rfl, rfl⟩) ?_ ?_
      rotate_left
      · simp only [Act.put, List.setIfInBounds_toArray, List.set_cons_zero, List.set_cons_succ, i64_w, i32_w]
        rfl
      refine pure_ (i := 11) (N := some 25) (v := undef) (a' := ?_) #[true, true, true, true, true, true, true, true, true, true, true, true, false, false, false, false, false, false] rfl rfl (any_of HT_.out (by kernel_rfl)) (fun _ _ _ h => h) (Or.inr ⟨by rfl, rfl⟩) ?_ ?_
      rotate_left
      · simp only [Act.put, List.setIfInBounds_toArray, List.set_cons_zero, List.set_cons_succ, i64_w, i32_w]
        rfl
      refine pure_ (i := 12) (N := some 26) (v := undef) (a' := ?_) #[true, true, true, true, true, true, true, true, true, true, true, true, true, false, false, false, false, false] rfl rfl (any_of HT_.out (by kernel_rfl)) (fun _ _ _ h => h) (Or.inr ⟨by rfl, rfl⟩) ?_ ?_
      rotate_left
      · simp only [Act.put, List.setIfInBounds_toArray, List.set_cons_zero, List.set_cons_succ, i64_w, i32_w]
        rfl
      refine pure_ (i := 13) (N := some 27) (v := undef) (a' := ?_) #[true, true, true, true, true, true, true, true, true, true, true, true, true, true, false, false, false, false] rfl rfl (any_of HT_.out (by kernel_rfl)) (fun _ _ _ h => h) (Or.inr ⟨by rfl, rfl⟩) ?_ ?_
      rotate_left
      · simp only [Act.put, List.setIfInBounds_toArray, List.set_cons_zero, List.set_cons_succ, i64_w, i32_w]
        rfl
      refine pure_ (i := 14) (N := some 28) (v := undef) (a' := ?_) #[true, true, true, true, true, true, true, true, true, true, true, true, true, true, true, false, false, false] rfl rfl (any_of HT_.out (by kernel_rfl)) (fun _ _ _ h => h) (Or.inr ⟨by rfl, rfl⟩) ?_ ?_
      rotate_left
      · simp only [Act.put, List.setIfInBounds_toArray, List.set_cons_zero, List.set_cons_succ, i64_w, i32_w]
        rfl
      refine pure_ (i := 15) (N := some 29) (v := undef) (a' := ?_) #[true, true, true, true, true, true, true, true, true, true, true, true, true, true, true, true, false, false] rfl rfl (any_of HT_.out (by kernel_rfl)) (fun _ _ _ h => h) (Or.inr ⟨by rfl, rfl⟩) ?_ ?_
      rotate_left
      · simp only [Act.put, List.setIfInBounds_toArray, List.set_cons_zero, List.set_cons_succ, i64_w, i32_w]
        rfl
      refine pure_ (i := 16) (N := some 30) (v := undef) (a' := ?_) #[true, true, true, true, true, true, true, true, true, true, true, true, true, true, true, true, true, false] rfl rfl (any_of HT_.out (by kernel_rfl)) (fun _ _ _ h => h) (Or.inr ⟨by rfl, rfl⟩) ?_ ?_
      rotate_left
      · simp only [Act.put, List.setIfInBounds_toArray, List.set_cons_zero, List.set_cons_succ, i64_w, i32_w]
        rfl
      refine pure_ (i := 17) (N := some 31) (v := ?_) (a' := ?_) #[true, true, true, true, true, true, true, true, true, true, true, true, true, true, true, true, true, true] rfl rfl (any_of HT_.out (by kernel_rfl)) (fun _ _ _ h => h) (Or.inl ⟨by rfl, ?_⟩) ?_ ?_
      rotate_left
      · intro w'
        go_simp
        with_reducible rfl
      rotate_left
      · simp only [Act.put, List.setIfInBounds_toArray, List.set_cons_zero, List.set_cons_succ, i64_w, i32_w]
        rfl
      refine done_ (done_of HT_.out (by kernel_rfl)) ?_
      try go_wp2
      go_meet
      case rel => exact ⟨_, (false), (by first | rfl | (simp; done) | (simp [*]; done)), H', ⟨by have := HK1.out; first | omega | exact Nat.le_refl _⟩, ⟨by (with_reducible repeat (first | apply Kd.R_alloc | apply Kd.R_drewN | apply Kd.R_drew)); exact HO_0.out⟩, ⟨by (with_reducible repeat (first | apply Kd.R_alloc | apply Kd.R_drewN | apply Kd.R_drew)); exact HO_5.out⟩, ⟨by (with_reducible repeat (first | refine blk_drewN ?_ _ | refine blk_drew ?_ | refine blk_alloc ?_ _)); exact BK181.out⟩, ⟨by repeat (first | (with_reducible first | exact HK.out | apply Kept.alloc | apply Kept.drewN | apply Kept.drew | refine Kept.setCell ?_ (.inr GW181.out) _) | exact HK.out)⟩, ⟨by repeat (first | (with_reducible first | exact HB.out | apply below_alloc | apply pw_below_drewN | apply below_drew1 | refine below_set ?_ GE181.out) | exact HB.out)⟩⟩
    rw [if_pos c8] at H
    have c8b0 : (((rd_T39 l0 x7_1).f0).toList == a1_0.toList) = true := beq_iff_eq.mpr c8
    have c8b1 : (((rd_T39 l0 x7_1).f0).toList != a1_0.toList) = false := bne_eq_false_iff_eq.mpr c8
    clear c8
    have H' := Aside0.mk H
    clear H
    try go_wp2
    have n0_ := Aside0.mk (Kd.R_drew HO_0.out)
    have n1_ := Aside0.mk (Kd.R_drew HO_5.out)
    have n2_ := Aside0.mk (blk_drew BK181.out)
    have n3_ := Aside0.mk (Kept.drew HK.out)
    have n4_ := Aside0.mk (below_drew1 HB.out)
    clear HO_0
    clear HO_5
    clear BK181
    clear HK
    clear HB
    have HO_0 := n0_
    have HO_5 := n1_
    have BK181 := n2_
    have HK := n3_
    have HB := n4_
    clear n0_ n1_ n2_ n3_ n4_
    have p185 : 0 ≤ (x7_1 : Int) := of_decide_eq_true (by first | (with_reducible assumption) | assumption)
    have q185 : x7_1 < (l0.length : Int) := of_decide_eq_true (by first | (with_reducible assumption) | assumption)
    obtain ⟨ad185, e185, hx185_0, hx185_1, hx185_2, hx185_3⟩ := at_T39 (Kd.R_reads' HO_0.out).2.2 x7_1 p185 q185
    cases e185
    replace p185 := eq_true p185
    replace q185 := eq_true q185
    have p186 : 0 ≤ (x7_1 : Int) := of_decide_eq_true (by first | (with_reducible assumption) | assumption)
    have q186 : x7_1 < (l0.length : Int) := of_decide_eq_true (by first | (with_reducible assumption) | assumption)
    obtain ⟨ad186, e186, hx186_0, hx186_1, hx186_2, hx186_3⟩ := at_T39 (Kd.R_reads' HO_0.out).2.2 x7_1 p186 q186
    obtain rfl : ad185 = ad186 := (by injection e186)
    replace p186 := eq_true p186
    replace q186 := eq_true q186
    refine start_ (n := 18) (S := fun w' => w'.cell? ⟨gb181, 0, none⟩ = some (.string a1_0) ∧ w'.cell? ⟨gb181, 1, none⟩ = some (.int .i64 a1_1) ∧ w'.cell? ⟨gb181, 2, none⟩ = some (.bool a1_2) ∧ w'.cell? ⟨gb181, 3, none⟩ = some (.string a1_3) ∧ w'.cell? (ad185.add ((x7_1).toNat * 4)) = some (.string ((rd_T39 l0 x7_1).f0)) ∧ w'.cell? ⟨(ad185.add ((x7_1).toNat * 4)).block, (ad185.add ((x7_1).toNat * 4)).off + 1, none⟩ = some (.int .i64 ((rd_T39 l0 x7_1).f1)) ∧ w'.cell? ⟨(ad185.add ((x7_1).toNat * 4)).block, (ad185.add ((x7_1).toNat * 4)).off + 2, none⟩ = some (.bool ((rd_T39 l0 x7_1).f2)) ∧ w'.cell? ⟨(ad185.add ((x7_1).toNat * 4)).block, (ad185.add ((x7_1).toNat * 4)).off + 3, none⟩ = some (.string ((rd_T39 l0 x7_1).f3)) ∧ w'.cell? (ad185.add ((x7_1).toNat * 4)) = some (.string ((rd_T39 l0 x7_1).f0)) ∧ w'.cell? ⟨(ad185.add ((x7_1).toNat * 4)).block, (ad185.add ((x7_1).toNat * 4)).off + 1, none⟩ = some (.int .i64 ((rd_T39 l0 x7_1).f1)) ∧ w'.cell? ⟨(ad185.add ((x7_1).toNat * 4)).block, (ad185.add ((x7_1).toNat * 4)).off + 2, none⟩ = some (.bool ((rd_T39 l0 x7_1).f2)) ∧ w'.cell? ⟨(ad185.add ((x7_1).toNat * 4)).block, (ad185.add ((x7_1).toNat * 4)).off + 3, none⟩ = some (.string ((rd_T39 l0 x7_1).f3))) (ds := []) #[false, false, false, false, false, false, false, false, false, false, false, false, false, false, false, false, false, false] (by kernel_rfl) rfl rfl ⟨(blk_cell BK181.out 0).trans rfl, (blk_cell BK181.out 1).trans rfl, (blk_cell BK181.out 2).trans rfl, (blk_cell BK181.out 3).trans rfl, hx185_0, hx185_1, hx185_2, hx185_3, hx186_0, hx186_1, hx186_2, hx186_3⟩ (fun hHeld => ?_); refine with_tabW ravelinref6_insert.tab6 ravelinref6_insert.bits6 (fun HT_ HW_ => ?_)
    generalize wr.drew = w9 at HO_0 HO_5 BK181 HK HB hx185_0 hx185_1 hx185_2 hx185_3 hx186_0 hx186_1 hx186_2 hx186_3 hHeld ⊢
    refine pure_ (i := 0) (N := some 14) (v := ?_) (a' := ?_) #[true, false, false, false, false, false, false, false, false, false, false, false, false, false, false, false, false, false] rfl rfl (any_of HT_.out (by kernel_rfl)) (fun _ _ _ h => h) (Or.inl ⟨by rfl, ?_⟩) ?_ ?_
    rotate_left
    · intro w'
      go_simp
      with_reducible rfl
    rotate_left
    · simp only [Act.put, List.setIfInBounds_toArray, List.set_cons_zero, List.set_cons_succ, i64_w, i32_w]
      rfl
    refine pure_ (i := 1) (N := some 15) (v := ?_) (a' := ?_) #[true, true, false, false, false, false, false, false, false, false, false, false, false, false, false, false, false, false] rfl rfl (any_of HT_.out (by kernel_rfl)) (fun _ _ _ h => h) (Or.inl ⟨by rfl, ?_⟩) ?_ ?_
    rotate_left
    · intro w'
      go_simp
      with_reducible rfl
    rotate_left
    · simp only [Act.put, List.setIfInBounds_toArray, List.set_cons_zero, List.set_cons_succ, i64_w, i32_w]
      rfl
    refine pure_ (i := 2) (N := some 16) (v := ?_) (a' := ?_) #[true, true, true, false, false, false, false, false, false, false, false, false, false, false, false, false, false, false] rfl rfl (any_of HT_.out (by kernel_rfl)) (fun _ _ _ h => h) (Or.inl ⟨by rfl, ?_⟩) ?_ ?_
    rotate_left
    · intro w'
      go_simp
      with_reducible rfl
    rotate_left
    · simp only [Act.put, List.setIfInBounds_toArray, List.set_cons_zero, List.set_cons_succ, i64_w, i32_w]
      rfl
    refine pure_ (i := 3) (N := some 17) (v := ?_) (a' := ?_) #[true, true, true, true, false, false, false, false, false, false, false, false, false, false, false, false, false, false] rfl rfl (any_of HT_.out (by kernel_rfl)) (fun _ _ _ h => h) (Or.inl ⟨by rfl, ?_⟩) ?_ ?_
    rotate_left
    · intro w'
      go_simp
      with_reducible rfl
    rotate_left
    · simp only [Act.put, List.setIfInBounds_toArray, List.set_cons_zero, List.set_cons_succ, i64_w, i32_w]
      rfl
    refine pure_ (i := 5) (N := some 19) (v := ?_) (a' := ?_) #[true, true, true, true, false, true, false, false, false, false, false, false, false, false, false, false, false, false] rfl rfl (any_of HT_.out (by kernel_rfl)) (fun _ _ _ h => h) (Or.inl ⟨by rfl, ?_⟩) ?_ ?_
    rotate_left
    · intro w'
      go_simp
      with_reducible rfl
    rotate_left
    · simp only [Act.put, List.setIfInBounds_toArray, List.set_cons_zero, List.set_cons_succ, i64_w, i32_w]
      rfl
    refine take_ (i := 4) (N := some 18) (v := ?_) (a' := ?_) #[true, true, true, true, true, true, false, false, false, false, false, false, false, false, false, false, false, false] rfl rfl (take_ofW HT_.out HW_.out (by kernel_rfl)) (fun _ _ _ h => h) (Or.inl ⟨by rfl, ?_⟩) hHeld ?_ ?_
    rotate_left
    · rintro w' ⟨s0, s1, s2, s3, s4, s5, s6, s7, s8, s9, s10, s11⟩
      go_simp
      with_reducible rfl
    rotate_left
    · simp only [Act.put, List.setIfInBounds_toArray, List.set_cons_zero, List.set_cons_succ, i64_w, i32_w]
      rfl
    refine take_ (i := 6) (N := some 20) (v := ?_) (a' := ?_) #[true, true, true, true, true, true, true, false, false, false, false, false, false, false, false, false, false, false] rfl rfl (take_ofW HT_.out HW_.out (by kernel_rfl)) (fun _ _ _ h => h) (Or.inl ⟨by rfl, ?_⟩) hHeld ?_ ?_
    rotate_left
    · rintro w' ⟨s0, s1, s2, s3, s4, s5, s6, s7, s8, s9, s10, s11⟩
      go_simp
      with_reducible rfl
    rotate_left
    · simp only [Act.put, List.setIfInBounds_toArray, List.set_cons_zero, List.set_cons_succ, i64_w, i32_w]
      rfl
    refine pure_ (i := 7) (N := some 21) (v := ?_) (a' := ?_) #[true, true, true, true, true, true, true, true, false, false, false, false, false, false, false, false, false, false] rfl rfl (any_of HT_.out (by kernel_rfl)) (fun _ _ _ h => h) (Or.inl ⟨by rfl, ?_⟩) ?_ ?_
    rotate_left
    · intro w'
      go_simp
      with_reducible rfl
    rotate_left
    · simp only [Act.put, List.setIfInBounds_toArray, List.set_cons_zero, List.set_cons_succ, i64_w, i32_w]
      rfl
    refine pure_ (i := 8) (N := some 22) (v := ?_) (a' := ?_) #[true, true, true, true, true, true, true, true, true, false, false, false, false, false, false, false, false, false] rfl rfl (any_of HT_.out (by kernel_rfl)) (fun _ _ _ h => h) (Or.inl ⟨by rfl, ?_⟩) ?_ ?_
    rotate_left
    · intro w'
      go_simp
      with_reducible rfl
    rotate_left
    · simp only [Act.put, List.setIfInBounds_toArray, List.set_cons_zero, List.set_cons_succ, i64_w, i32_w]
      rfl
    refine pure_ (i := 9) (N := some 23) (v := ?_) (a' := ?_) #[true, true, true, true, true, true, true, true, true, true, false, false, false, false, false, false, false, false] rfl rfl (any_of HT_.out (by kernel_rfl)) (fun _ _ _ h => h) (Or.inl ⟨by rfl, ?_⟩) ?_ ?_
    rotate_left
    · intro w'
      go_simp
      with_reducible rfl
    rotate_left
    · simp only [Act.put, List.setIfInBounds_toArray, List.set_cons_zero, List.set_cons_succ, i64_w, i32_w]
      rfl
    refine pure_ (i := 10) (N := some 24) (v := ?_) (a' := ?_) #[true, true, true, true, true, true, true, true, true, true, true, false, false, false, false, false, false, false] rfl rfl (any_of HT_.out (by kernel_rfl)) (fun _ _ _ h => h) (Or.inl ⟨by rfl, ?_⟩) ?_ ?_
    rotate_left
    · intro w'
      go_simp
      with_reducible rfl
    rotate_left
    · simp only [Act.put, List.setIfInBounds_toArray, List.set_cons_zero, List.set_cons_succ, i64_w, i32_w]
      rfl
    refine pure_ (i := 11) (N := some 25) (v := ?_) (a' := ?_) #[true, true, true, true, true, true, true, true, true, true, true, true, false, false, false, false, false, false] rfl rfl (any_of HT_.out (by kernel_rfl)) (fun _ _ _ h => h) (Or.inl ⟨by rfl, ?_⟩) ?_ ?_
    rotate_left
    · intro w'
      go_simp
      with_reducible rfl
    rotate_left
    · simp only [Act.put, List.setIfInBounds_toArray, List.set_cons_zero, List.set_cons_succ, i64_w, i32_w]
      rfl
    refine pure_ (i := 12) (N := some 26) (v := ?_) (a' := ?_) #[true, true, true, true, true, true, true, true, true, true, true, true, true, false, false, false, false, false] rfl rfl (any_of HT_.out (by kernel_rfl)) (fun _ _ _ h => h) (Or.inl ⟨by rfl, ?_⟩) ?_ ?_
    rotate_left
    · intro w'
      go_simp
      with_reducible rfl
    rotate_left
    · simp only [Act.put, List.setIfInBounds_toArray, List.set_cons_zero, List.set_cons_succ, i64_w, i32_w]
      rfl
    refine pure_ (i := 14) (N := some 28) (v := ?_) (a' := ?_) #[true, true, true, true, true, true, true, true, true, true, true, true, true, false, true, false, false, false] rfl rfl (any_of HT_.out (by kernel_rfl)) (fun _ _ _ h => h) (Or.inl ⟨by rfl, ?_⟩) ?_ ?_
    rotate_left
    · intro w'
      go_simp
      with_reducible rfl
    rotate_left
    · simp only [Act.put, List.setIfInBounds_toArray, List.set_cons_zero, List.set_cons_succ, i64_w, i32_w]
      rfl
    refine take_ (i := 13) (N := some 27) (v := ?_) (a' := ?_) #[true, true, true, true, true, true, true, true, true, true, true, true, true, true, true, false, false, false] rfl rfl (take_ofW HT_.out HW_.out (by kernel_rfl)) (fun _ _ _ h => h) (Or.inl ⟨by rfl, ?_⟩) hHeld ?_ ?_
    rotate_left
    · rintro w' ⟨s0, s1, s2, s3, s4, s5, s6, s7, s8, s9, s10, s11⟩
      go_simp
      with_reducible rfl
    rotate_left
    · simp only [Act.put, List.setIfInBounds_toArray, List.set_cons_zero, List.set_cons_succ, i64_w, i32_w]
      rfl
    refine take_ (i := 15) (N := some 29) (v := ?_) (a' := ?_) #[true, true, true, true, true, true, true, true, true, true, true, true, true, true, true, true, false, false] rfl rfl (take_ofW HT_.out HW_.out (by kernel_rfl)) (fun _ _ _ h => h) (Or.inl ⟨by rfl, ?_⟩) hHeld ?_ ?_
    rotate_left
    · rintro w' ⟨s0, s1, s2, s3, s4, s5, s6, s7, s8, s9, s10, s11⟩
      go_simp
      with_reducible rfl
    rotate_left
    · simp only [Act.put, List.setIfInBounds_toArray, List.set_cons_zero, List.set_cons_succ, i64_w, i32_w]
      rfl
    refine pure_ (i := 16) (N := some 30) (v := ?_) (a' := ?_) #[true, true, true, true, true, true, true, true, true, true, true, true, true, true, true, true, true, false] rfl rfl (any_of HT_.out (by kernel_rfl)) (fun _ _ _ h => h) (Or.inl ⟨by rfl, ?_⟩) ?_ ?_
    rotate_left
    · intro w'
      go_simp
      with_reducible rfl
    rotate_left
    · simp only [Act.put, List.setIfInBounds_toArray, List.set_cons_zero, List.set_cons_succ, i64_w, i32_w]
      rfl
    refine pure_ (i := 17) (N := some 31) (v := ?_) (a' := ?_) #[true, true, true, true, true, true, true, true, true, true, true, true, true, true, true, true, true, true] rfl rfl (any_of HT_.out (by kernel_rfl)) (fun _ _ _ h => h) (Or.inl ⟨by rfl, ?_⟩) ?_ ?_
    rotate_left
    · intro w'
      go_simp
      with_reducible rfl
    rotate_left
    · simp only [Act.put, List.setIfInBounds_toArray, List.set_cons_zero, List.set_cons_succ, i64_w, i32_w]
      rfl
    refine done_ (done_of HT_.out (by kernel_rfl)) ?_
    try go_wp2
    go_meet
    case rel => exact ⟨_, ((((rd_T39 l0 x7_1).f1) == a1_1)), (by first | rfl | (simp; done) | (simp [*]; done)), H', ⟨by have := HK1.out; first | omega | exact Nat.le_refl _⟩, ⟨by (with_reducible repeat (first | apply Kd.R_alloc | apply Kd.R_drewN | apply Kd.R_drew)); exact HO_0.out⟩, ⟨by (with_reducible repeat (first | apply Kd.R_alloc | apply Kd.R_drewN | apply Kd.R_drew)); exact HO_5.out⟩, ⟨by (with_reducible repeat (first | refine blk_drewN ?_ _ | refine blk_drew ?_ | refine blk_alloc ?_ _)); exact BK181.out⟩, ⟨by repeat (first | (with_reducible first | exact HK.out | apply Kept.alloc | apply Kept.drewN | apply Kept.drew | refine Kept.setCell ?_ (.inr GW181.out) _) | exact HK.out)⟩, ⟨by repeat (first | (with_reducible first | exact HB.out | apply below_alloc | apply pw_below_drewN | apply below_drew1 | refine below_set ?_ GE181.out) | exact HB.out)⟩⟩
  clear HC5
  try clear p1
  try clear q1
  try clear hx1
  try clear c2
  try clear p2
  try clear c4
  try clear c4b0
  try clear c7
  try clear c7b0
  try clear c8
  try clear c8b0
  try clear c8b1
  try clear hx185_0
  try clear hx185_1
  try clear hx185_2
  try clear hx185_3
  try clear hx186_0
  try clear hx186_1
  try clear hx186_2
  try clear hx186_3
  try clear p185
  try clear p186
  try clear p2
  try clear q185
  try clear q186
  obtain ⟨kq, x31_4, rfl, HA, HJ4, HO_0, HO_5, BK181, HK, HB⟩ := hcut
  cases kq with
  | zero => exact absurd HA.out (by simp [ravelinref6_insert.j1])
  | succ kj4 => ?_
  have H := HA.out
  clear HA
  simp only [ravelinref6_insert.j1] at H
  by_cases c11 : x31_4 = true
  · subst c11
    have H1 : (some l0) = some r := by rw [if_pos rfl] at H; exact H
    clear H
    have H := H1
    clear H1
    obtain rfl := Option.some.inj H
    go_wp2
    go_ret
    exact ⟨_, by first | rfl | (simp [errW_none, errW_some] <;> rfl) | (simp [*, errW_none, errW_some] <;> rfl), by (with_reducible repeat (first | apply Kd.R_alloc | apply Kd.R_drewN | apply Kd.R_drew)); exact Kd.R_mono HO_0.out (fun _ hk => hk.1), by repeat (first | (with_reducible first | exact HB.out | apply below_alloc | apply pw_below_drewN | apply below_drew1 | refine below_set ?_ GE181.out) | exact HB.out), by repeat (first | (with_reducible first | exact HK.out | apply Kept.alloc | apply Kept.drewN | apply Kept.drew | refine Kept.setCell ?_ (.inr GW181.out) _) | exact HK.out)⟩
  replace c11 := Bool.eq_false_iff.mpr c11
  subst c11
  have H1 : (if x6_1 = true then (if 0 ≤ x7_1 then (if x7_1 < (l0.length : Int) then (if x5_1.length < 2932031007402 then (ravelinref6_insert.l0 kj4 l0 (x5_1 ++ [(⟨(rd_T39 l0 x7_1).f0, (rd_T39 l0 x7_1).f1, (rd_T39 l0 x7_1).f2, (rd_T39 l0 x7_1).f3⟩ : S39)]) x6_1 (wrap64 (x7_1 + 1)) a1_0 a1_1 a1_2 a1_3) else (none)) else (none)) else (none)) else (if 0 ≤ x7_1 then (if x7_1 < (l0.length : Int) then ((ravelinref6_Less.f a1_0 a1_1 a1_2 a1_3 ((rd_T39 l0 x7_1).f0) ((rd_T39 l0 x7_1).f1) ((rd_T39 l0 x7_1).f2) ((rd_T39 l0 x7_1).f3)).bind fun t192 => (if t192 = true then (if x5_1.length < 2932031007402 then ((some (x5_1 ++ [(⟨a1_0, a1_1, a1_2, a1_3⟩ : S39)] : List (S39))).bind fun y193 => (if y193.length < 2932031007402 then (ravelinref6_insert.l0 kj4 l0 (y193 ++ [(⟨(rd_T39 l0 x7_1).f0, (rd_T39 l0 x7_1).f1, (rd_T39 l0 x7_1).f2, (rd_T39 l0 x7_1).f3⟩ : S39)]) true (wrap64 (x7_1 + 1)) a1_0 a1_1 a1_2 a1_3) else (none))) else (none)) else (if x5_1.length < 2932031007402 then (ravelinref6_insert.l0 kj4 l0 (x5_1 ++ [(⟨(rd_T39 l0 x7_1).f0, (rd_T39 l0 x7_1).f1, (rd_T39 l0 x7_1).f2, (rd_T39 l0 x7_1).f3⟩ : S39)]) x6_1 (wrap64 (x7_1 + 1)) a1_0 a1_1 a1_2 a1_3) else (none)))) else (none)) else (none))) = some r := by rw [if_neg (show ¬ (false = true) by decide)] at H; exact H
  clear H
  have H := H1
  clear H1
  by_cases c12 : x6_1 = true
  · subst c12
    have H1 : (if 0 ≤ x7_1 then (if x7_1 < (l0.length : Int) then (if x5_1.length < 2932031007402 then (ravelinref6_insert.l0 kj4 l0 (x5_1 ++ [(⟨(rd_T39 l0 x7_1).f0, (rd_T39 l0 x7_1).f1, (rd_T39 l0 x7_1).f2, (rd_T39 l0 x7_1).f3⟩ : S39)]) true (wrap64 (x7_1 + 1)) a1_0 a1_1 a1_2 a1_3) else (none)) else (none)) else (none)) = some r := by rw [if_pos rfl] at H; exact H
    clear H
    have H := H1
    clear H1
    by_cases c13 : 0 ≤ x7_1
    rotate_left
    · rw [if_neg c13] at H
      exact absurd H (by simp)
    rw [if_pos c13] at H
    have c13b0 : decide (0 ≤ x7_1) = true := decide_eq_true c13
    clear c13
    by_cases c14 : x7_1 < (l0.length : Int)
    rotate_left
    · rw [if_neg c14] at H
      exact absurd H (by simp)
    rw [if_pos c14] at H
    have c14b0 : decide (x7_1 < (l0.length : Int)) = true := decide_eq_true c14
    clear c14
    by_cases c15 : x5_1.length < 2932031007402
    rotate_left
    · rw [if_neg c15] at H
      exact absurd H (by simp)
    rw [if_pos c15] at H
    have LMc15 := Aside0.mk c15
    clear c15
    obtain ⟨y188, hy188⟩ : ∃ y_ : List (S39), y_ = (x5_1 ++ [(⟨(rd_T39 l0 x7_1).f0, (rd_T39 l0 x7_1).f1, (rd_T39 l0 x7_1).f2, (rd_T39 l0 x7_1).f3⟩ : S39)]) := ⟨_, rfl⟩
    replace H : (ravelinref6_insert.l0 kj4 l0 y188 true (wrap64 (x7_1 + 1)) a1_0 a1_1 a1_2 a1_3) = some r := by first | (rw [hy188]; with_reducible exact H) | (have H2_ := (Option.bind_some _ _).symm.trans H; rw [hy188]; with_reducible exact H2_) | (have H2_ := (Option.bind_some _ _).symm.trans H; with_reducible exact H2_) | with_reducible exact H | (rw [hy188]; exact H) | exact H
    have Ny188 := Aside0.mk hy188
    clear hy188
    have H' := Aside0.mk H
    clear H
    try go_wp2
    have n0_ := Aside0.mk (Kd.R_drew HO_0.out)
    have n1_ := Aside0.mk (Kd.R_drew HO_5.out)
    have n2_ := Aside0.mk (blk_drew BK181.out)
    have n3_ := Aside0.mk (Kept.drew HK.out)
    have n4_ := Aside0.mk (below_drew1 HB.out)
    clear HO_0
    clear HO_5
    clear BK181
    clear HK
    clear HB
    have HO_0 := n0_
    have HO_5 := n1_
    have BK181 := n2_
    have HK := n3_
    have HB := n4_
    clear n0_ n1_ n2_ n3_ n4_
    refine start_ (n := 10) (S := fun w' => True) (ds := []) #[false, false, false, false, false, false, false, false, false, false] (by kernel_rfl) rfl rfl trivial (fun hHeld => ?_); refine with_tabW ravelinref6_insert.tab8 ravelinref6_insert.bits8 (fun HT_ HW_ => ?_)
    generalize wc.drew = w16 at HO_0 HO_5 BK181 HK HB hHeld ⊢
    refine pure_ (i := 0) (N := some 33) (v := ?_) (a' := ?_) #[true, false, false, false, false, false, false, false, false, false] rfl rfl (any_of HT_.out (by kernel_rfl)) (fun _ _ _ h => h) (Or.inl ⟨by rfl, ?_⟩) ?_ ?_
    rotate_left
    · intro w'
      go_simp
      with_reducible rfl
    rotate_left
    · simp only [Act.put, List.setIfInBounds_toArray, List.set_cons_zero, List.set_cons_succ, i64_w, i32_w]
      rfl
    refine pure_ (i := 1) (N := some 34) (v := ?_) (a' := ?_) #[true, true, false, false, false, false, false, false, false, false] rfl rfl (any_of HT_.out (by kernel_rfl)) (fun _ _ _ h => h) (Or.inl ⟨by rfl, ?_⟩) ?_ ?_
    rotate_left
    · intro w'
      go_simp
      with_reducible rfl
    rotate_left
    · simp only [Act.put, List.setIfInBounds_toArray, List.set_cons_zero, List.set_cons_succ, i64_w, i32_w]
      rfl
    refine pure_ (i := 2) (N := some 35) (v := ?_) (a' := ?_) #[true, true, true, false, false, false, false, false, false, false] rfl rfl (any_of HT_.out (by kernel_rfl)) (fun _ _ _ h => h) (Or.inl ⟨by rfl, ?_⟩) ?_ ?_
    rotate_left
    · intro w'
      go_simp
      with_reducible rfl
    rotate_left
    · simp only [Act.put, List.setIfInBounds_toArray, List.set_cons_zero, List.set_cons_succ, i64_w, i32_w]
      rfl
    refine pure_ (i := 3) (N := some 36) (v := undef) (a' := ?_) #[true, true, true, true, false, false, false, false, false, false] rfl rfl (any_of HT_.out (by kernel_rfl)) (fun _ _ _ h => h) (Or.inr ⟨by rfl, rfl⟩) ?_ ?_
    rotate_left
    · simp only [Act.put, List.setIfInBounds_toArray, List.set_cons_zero, List.set_cons_succ, i64_w, i32_w]
      rfl
    refine pure_ (i := 4) (N := some 37) (v := undef) (a' := ?_) #[true, true, true, true, true, false, false, false, false, false] rfl rfl (any_of HT_.out (by kernel_rfl)) (fun _ _ _ h => h) (Or.inr ⟨by rfl, rfl⟩) ?_ ?_
    rotate_left
    · simp only [Act.put, List.setIfInBounds_toArray, List.set_cons_zero, List.set_cons_succ, i64_w, i32_w]
      rfl
    refine pure_ (i := 5) (N := some 38) (v := undef) (a' := ?_) #[true, true, true, true, true, true, false, false, false, false] rfl rfl (any_of HT_.out (by kernel_rfl)) (fun _ _ _ h => h) (Or.inr ⟨by rfl, rfl⟩) ?_ ?_
    rotate_left
    · simp only [Act.put, List.setIfInBounds_toArray, List.set_cons_zero, List.set_cons_succ, i64_w, i32_w]
      rfl
    refine pure_ (i := 6) (N := some 39) (v := undef) (a' := ?_) #[true, true, true, true, true, true, true, false, false, false] rfl rfl (any_of HT_.out (by kernel_rfl)) (fun _ _ _ h => h) (Or.inr ⟨by rfl, rfl⟩) ?_ ?_
    rotate_left
    · simp only [Act.put, List.setIfInBounds_toArray, List.set_cons_zero, List.set_cons_succ, i64_w, i32_w]
      rfl
    refine pure_ (i := 7) (N := some 40) (v := undef) (a' := ?_) #[true, true, true, true, true, true, true, true, false, false] rfl rfl (any_of HT_.out (by kernel_rfl)) (fun _ _ _ h => h) (Or.inr ⟨by rfl, rfl⟩) ?_ ?_
    rotate_left
    · simp only [Act.put, List.setIfInBounds_toArray, List.set_cons_zero, List.set_cons_succ, i64_w, i32_w]
      rfl
    refine pure_ (i := 8) (N := some 41) (v := undef) (a' := ?_) #[true, true, true, true, true, true, true, true, true, false] rfl rfl (any_of HT_.out (by kernel_rfl)) (fun _ _ _ h => h) (Or.inr ⟨by rfl, rfl⟩) ?_ ?_
    rotate_left
    · simp only [Act.put, List.setIfInBounds_toArray, List.set_cons_zero, List.set_cons_succ, i64_w, i32_w]
      rfl
    refine pure_ (i := 9) (N := some 42) (v := ?_) (a' := ?_) #[true, true, true, true, true, true, true, true, true, true] rfl rfl (any_of HT_.out (by kernel_rfl)) (fun _ _ _ h => h) (Or.inl ⟨by rfl, ?_⟩) ?_ ?_
    rotate_left
    · intro w'
      go_simp
      with_reducible rfl
    rotate_left
    · simp only [Act.put, List.setIfInBounds_toArray, List.set_cons_zero, List.set_cons_succ, i64_w, i32_w]
      rfl
    refine done_ (done_of HT_.out (by kernel_rfl)) ?_
    have p187 : 0 ≤ (x7_1 : Int) := of_decide_eq_true (by first | (with_reducible assumption) | assumption)
    have q187 : x7_1 < (l0.length : Int) := of_decide_eq_true (by first | (with_reducible assumption) | assumption)
    obtain ⟨ad187, e187, hx187_0, hx187_1, hx187_2, hx187_3⟩ := at_T39 (Kd.R_reads' HO_0.out).2.2 x7_1 p187 q187
    cases e187
    replace p187 := eq_true p187
    replace q187 := eq_true q187
    try go_wp2_with (first | ((with_reducible refine gate_builtin (b := .append) (xs := #[.tmp 47, .tmp 52]) rfl ?_); at_builtin; refine Kd.R_append k39 (w0 := w0) w0.heap.size rfl (.tmp 47) (.tmp 52) 23 39 (.agg #[(.string ⟨#[]⟩), (.int .i64 0), (.bool false), (.string ⟨#[]⟩)]) 48 rfl Try.underlying23 info39 rfl (by decide) (by omega) u5 x5_1 (⟨(rd_T39 l0 x7_1).f0, (rd_T39 l0 x7_1).f1, (rd_T39 l0 x7_1).f2, (rd_T39 l0 x7_1).f3⟩ : S39) [.string ((rd_T39 l0 x7_1).f0), .int .i64 ((rd_T39 l0 x7_1).f1), .bool ((rd_T39 l0 x7_1).f2), .string ((rd_T39 l0 x7_1).f3)] (fun k_ => (P0_ k_ ∨ w.heap.size ≤ k_) ∧ some k_ ≠ (.slice (some ad187) l0.length co6 : Value).ownBlock ∧ k_ ≠ gb181) (fun _ => False) rfl rfl ?aP (fun _ hk => hk.elim) ?aF ?aO ?aB ?aS ?aL ?_; (case aP => exact k39_mkM _ _ _ (⟨(rd_T39 l0 x7_1).f0, (rd_T39 l0 x7_1).f1, (rd_T39 l0 x7_1).f2, (rd_T39 l0 x7_1).f3⟩ : S39)); (case aB => exact (by repeat (first | (with_reducible first | exact HB.out | apply below_alloc | apply pw_below_drewN | apply below_drew1 | refine below_set ?_ GE181.out) | exact HB.out))); (case aF => exact (fun k_ hk => ⟨(.inr (Nat.le_trans (by first | exact HK.out.1 | exact (show Kept w _ (fun k_ => P0_ k_) from by repeat (first | (with_reducible first | exact HK.out | apply Kept.alloc | apply Kept.drewN | apply Kept.drew | refine Kept.setCell ?_ (.inr GW181.out) _) | exact HK.out)).1) hk)), Kd.fresh' (Kd.R_lt (by (with_reducible repeat (first | apply Kd.R_alloc | apply Kd.R_drewN | apply Kd.R_drew)); exact HO_0.out)) k_ hk, Kd.freshB (g := gb181) (o := .cells #[.string a1_0, .int .i64 a1_1, .bool a1_2, .string a1_3] 39 (0, 0)) (by (with_reducible repeat (first | refine blk_drewN ?_ _ | refine blk_drew ?_ | refine blk_alloc ?_ _)); exact BK181.out) k_ hk⟩)); (case aO => exact (by (with_reducible repeat (first | apply Kd.R_alloc | apply Kd.R_drewN | apply Kd.R_drew)); exact HO_5.out)); (case aS => exact (below_size (by repeat (first | (with_reducible first | exact HB.out | apply below_alloc | apply pw_below_drewN | apply below_drew1 | refine below_set ?_ GE181.out) | exact HB.out)))); (case aL => have := LMc15.out; omega); intro v189 w17 ho hb hg hat; rw [← Ny188.out] at ho; have n0_ := Aside0.mk (Kd.R_after (ok := (fun k_ => (P0_ k_ ∨ w.heap.size ≤ k_) ∧ k_ ≠ gb181)) (by (with_reducible repeat (first | apply Kd.R_alloc | apply Kd.R_drewN | apply Kd.R_drew)); exact Kd.R_mono HO_0.out (fun _ hk => ⟨⟨hk.1, hk.2.2⟩, hk.2.1⟩)) hg hat); have n1_ := Aside0.mk (blk_grown (g := gb181) (o := .cells #[.string a1_0, .int .i64 a1_1, .bool a1_2, .string a1_3] 39 (0, 0)) (by (with_reducible repeat (first | refine blk_drewN ?_ _ | refine blk_drew ?_ | refine blk_alloc ?_ _)); exact BK181.out) hg (Kd.R_away HO_5.out (fun _ hk => hk.2.2))); have n2_ := Aside0.mk (hb); have n3_ := Aside0.mk (Kept.of_grown (S := (fun k_ => P0_ k_)) hg (by repeat (first | (with_reducible first | exact HK.out | apply Kept.alloc | apply Kept.drewN | apply Kept.drew | refine Kept.setCell ?_ (.inr GW181.out) _) | exact HK.out)) (fun k_ e_ => (HO_5.out.1 k_ e_).1)); have n4_ := Aside0.mk (ho); clear HO_0; clear BK181; clear HB; clear HK; clear HO_5; have HO_0 := n0_; have BK181 := n1_; have HB := n2_; have HK := n3_; have HO190 := n4_; clear n0_ n1_ n2_ n3_ n4_; clear ho hb hg hat))
    go_roundg kj4
    case measure => have := HK1.out; have := HJ4.out; omega
    case rel => exact ⟨(y188), (true), (wrap64 (x7_1 + 1)), (by first | rfl | (simp; done) | (simp [*]; done)), (by first | rfl | (simp; done) | (simp [*]; done)), H', ⟨by have := HK1.out; have := HJ4.out; omega⟩, ⟨by (with_reducible repeat (first | apply Kd.R_alloc | apply Kd.R_drewN | apply Kd.R_drew)); exact Kd.R_mono HO_0.out (fun _ hk => ⟨hk.1.1, ⟨hk.2, hk.1.2⟩⟩)⟩, ⟨by (with_reducible repeat (first | apply Kd.R_alloc | apply Kd.R_drewN | apply Kd.R_drew)); exact HO190.out⟩, ⟨by (with_reducible repeat (first | refine blk_drewN ?_ _ | refine blk_drew ?_ | refine blk_alloc ?_ _)); exact BK181.out⟩, ⟨by repeat (first | (with_reducible first | exact HK.out | apply Kept.alloc | apply Kept.drewN | apply Kept.drew | refine Kept.setCell ?_ (.inr GW181.out) _) | exact HK.out)⟩, ⟨by repeat (first | (with_reducible first | exact HB.out | apply below_alloc | apply pw_below_drewN | apply below_drew1 | refine below_set ?_ GE181.out) | exact HB.out)⟩⟩
  replace c12 := Bool.eq_false_iff.mpr c12
  subst c12
  have H1 : (if 0 ≤ x7_1 then (if x7_1 < (l0.length : Int) then ((ravelinref6_Less.f a1_0 a1_1 a1_2 a1_3 ((rd_T39 l0 x7_1).f0) ((rd_T39 l0 x7_1).f1) ((rd_T39 l0 x7_1).f2) ((rd_T39 l0 x7_1).f3)).bind fun t192 => (if t192 = true then (if x5_1.length < 2932031007402 then ((some (x5_1 ++ [(⟨a1_0, a1_1, a1_2, a1_3⟩ : S39)] : List (S39))).bind fun y193 => (if y193.length < 2932031007402 then (ravelinref6_insert.l0 kj4 l0 (y193 ++ [(⟨(rd_T39 l0 x7_1).f0, (rd_T39 l0 x7_1).f1, (rd_T39 l0 x7_1).f2, (rd_T39 l0 x7_1).f3⟩ : S39)]) true (wrap64 (x7_1 + 1)) a1_0 a1_1 a1_2 a1_3) else (none))) else (none)) else (if x5_1.length < 2932031007402 then (ravelinref6_insert.l0 kj4 l0 (x5_1 ++ [(⟨(rd_T39 l0 x7_1).f0, (rd_T39 l0 x7_1).f1, (rd_T39 l0 x7_1).f2, (rd_T39 l0 x7_1).f3⟩ : S39)]) false (wrap64 (x7_1 + 1)) a1_0 a1_1 a1_2 a1_3) else (none)))) else (none)) else (none)) = some r := by rw [if_neg (show ¬ (false = true) by decide)] at H; exact H
  clear H
  have H := H1
  clear H1
  by_cases c18 : 0 ≤ x7_1
  rotate_left
  · rw [if_neg c18] at H
    exact absurd H (by simp)
  rw [if_pos c18] at H
  have c18b0 : decide (0 ≤ x7_1) = true := decide_eq_true c18
  clear c18
  by_cases c19 : x7_1 < (l0.length : Int)
  rotate_left
  · rw [if_neg c19] at H
    exact absurd H (by simp)
  rw [if_pos c19] at H
  have c19b0 : decide (x7_1 < (l0.length : Int)) = true := decide_eq_true c19
  clear c19
  replace H := Option.bind_eq_some_iff.mp H
  obtain ⟨t192, A200, H⟩ := H
  replace H : (if t192 = true then (if x5_1.length < 2932031007402 then ((some (x5_1 ++ [(⟨a1_0, a1_1, a1_2, a1_3⟩ : S39)] : List (S39))).bind fun y193 => (if y193.length < 2932031007402 then (ravelinref6_insert.l0 kj4 l0 (y193 ++ [(⟨(rd_T39 l0 x7_1).f0, (rd_T39 l0 x7_1).f1, (rd_T39 l0 x7_1).f2, (rd_T39 l0 x7_1).f3⟩ : S39)]) true (wrap64 (x7_1 + 1)) a1_0 a1_1 a1_2 a1_3) else (none))) else (none)) else (if x5_1.length < 2932031007402 then (ravelinref6_insert.l0 kj4 l0 (x5_1 ++ [(⟨(rd_T39 l0 x7_1).f0, (rd_T39 l0 x7_1).f1, (rd_T39 l0 x7_1).f2, (rd_T39 l0 x7_1).f3⟩ : S39)]) false (wrap64 (x7_1 + 1)) a1_0 a1_1 a1_2 a1_3) else (none))) = some r := H
  have A20 := Aside0.mk A200
  clear A200
  by_cases c21 : t192 = true
  rotate_left
  · replace c21 := Bool.eq_false_iff.mpr c21
    subst c21
    have H1 : (if x5_1.length < 2932031007402 then (ravelinref6_insert.l0 kj4 l0 (x5_1 ++ [(⟨(rd_T39 l0 x7_1).f0, (rd_T39 l0 x7_1).f1, (rd_T39 l0 x7_1).f2, (rd_T39 l0 x7_1).f3⟩ : S39)]) false (wrap64 (x7_1 + 1)) a1_0 a1_1 a1_2 a1_3) else (none)) = some r := by rw [if_neg (show ¬ (false = true) by decide)] at H; exact H
    clear H
    have H := H1
    clear H1
    by_cases c29 : x5_1.length < 2932031007402
    rotate_left
    · rw [if_neg c29] at H
      exact absurd H (by simp)
    rw [if_pos c29] at H
    have LMc29 := Aside0.mk c29
    clear c29
    obtain ⟨y201, hy201⟩ : ∃ y_ : List (S39), y_ = (x5_1 ++ [(⟨(rd_T39 l0 x7_1).f0, (rd_T39 l0 x7_1).f1, (rd_T39 l0 x7_1).f2, (rd_T39 l0 x7_1).f3⟩ : S39)]) := ⟨_, rfl⟩
    replace H : (ravelinref6_insert.l0 kj4 l0 y201 false (wrap64 (x7_1 + 1)) a1_0 a1_1 a1_2 a1_3) = some r := by first | (rw [hy201]; with_reducible exact H) | (have H2_ := (Option.bind_some _ _).symm.trans H; rw [hy201]; with_reducible exact H2_) | (have H2_ := (Option.bind_some _ _).symm.trans H; with_reducible exact H2_) | with_reducible exact H | (rw [hy201]; exact H) | exact H
    have Ny201 := Aside0.mk hy201
    clear hy201
    have H' := Aside0.mk H
    clear H
    try go_wp2
    have n0_ := Aside0.mk (Kd.R_drew HO_0.out)
    have n1_ := Aside0.mk (Kd.R_drew HO_5.out)
    have n2_ := Aside0.mk (blk_drew BK181.out)
    have n3_ := Aside0.mk (Kept.drew HK.out)
    have n4_ := Aside0.mk (below_drew1 HB.out)
    clear HO_0
    clear HO_5
    clear BK181
    clear HK
    clear HB
    have HO_0 := n0_
    have HO_5 := n1_
    have BK181 := n2_
    have HK := n3_
    have HB := n4_
    clear n0_ n1_ n2_ n3_ n4_
    have p191 : 0 ≤ (x7_1 : Int) := of_decide_eq_true (by first | (with_reducible assumption) | assumption)
    have q191 : x7_1 < (l0.length : Int) := of_decide_eq_true (by first | (with_reducible assumption) | assumption)
    obtain ⟨ad191, e191, hx191_0, hx191_1, hx191_2, hx191_3⟩ := at_T39 (Kd.R_reads' HO_0.out).2.2 x7_1 p191 q191
    cases e191
    replace p191 := eq_true p191
    replace q191 := eq_true q191
    refine start_ (n := 10) (S := fun w' => w'.cell? ⟨gb181, 0, none⟩ = some (.string a1_0) ∧ w'.cell? ⟨gb181, 1, none⟩ = some (.int .i64 a1_1) ∧ w'.cell? ⟨gb181, 2, none⟩ = some (.bool a1_2) ∧ w'.cell? ⟨gb181, 3, none⟩ = some (.string a1_3) ∧ w'.cell? (ad191.add ((x7_1).toNat * 4)) = some (.string ((rd_T39 l0 x7_1).f0)) ∧ w'.cell? ⟨(ad191.add ((x7_1).toNat * 4)).block, (ad191.add ((x7_1).toNat * 4)).off + 1, none⟩ = some (.int .i64 ((rd_T39 l0 x7_1).f1)) ∧ w'.cell? ⟨(ad191.add ((x7_1).toNat * 4)).block, (ad191.add ((x7_1).toNat * 4)).off + 2, none⟩ = some (.bool ((rd_T39 l0 x7_1).f2)) ∧ w'.cell? ⟨(ad191.add ((x7_1).toNat * 4)).block, (ad191.add ((x7_1).toNat * 4)).off + 3, none⟩ = some (.string ((rd_T39 l0 x7_1).f3))) (ds := []) #[false, false, false, false, false, false, false, false, false, false] (by kernel_rfl) rfl rfl ⟨(blk_cell BK181.out 0).trans rfl, (blk_cell BK181.out 1).trans rfl, (blk_cell BK181.out 2).trans rfl, (blk_cell BK181.out 3).trans rfl, hx191_0, hx191_1, hx191_2, hx191_3⟩ (fun hHeld => ?_); refine with_tabW ravelinref6_insert.tab8 ravelinref6_insert.bits8 (fun HT_ HW_ => ?_)
    generalize wc.drew = w30 at HO_0 HO_5 BK181 HK HB hx191_0 hx191_1 hx191_2 hx191_3 hHeld ⊢
    refine pure_ (i := 0) (N := some 33) (v := ?_) (a' := ?_) #[true, false, false, false, false, false, false, false, false, false] rfl rfl (any_of HT_.out (by kernel_rfl)) (fun _ _ _ h => h) (Or.inl ⟨by rfl, ?_⟩) ?_ ?_
    rotate_left
    · intro w'
      go_simp
      with_reducible rfl
    rotate_left
    · simp only [Act.put, List.setIfInBounds_toArray, List.set_cons_zero, List.set_cons_succ, i64_w, i32_w]
      rfl
    refine pure_ (i := 1) (N := some 34) (v := ?_) (a' := ?_) #[true, true, false, false, false, false, false, false, false, false] rfl rfl (any_of HT_.out (by kernel_rfl)) (fun _ _ _ h => h) (Or.inl ⟨by rfl, ?_⟩) ?_ ?_
    rotate_left
    · intro w'
      go_simp
      with_reducible rfl
    rotate_left
    · simp only [Act.put, List.setIfInBounds_toArray, List.set_cons_zero, List.set_cons_succ, i64_w, i32_w]
      rfl
    refine pure_ (i := 2) (N := some 35) (v := ?_) (a' := ?_) #[true, true, true, false, false, false, false, false, false, false] rfl rfl (any_of HT_.out (by kernel_rfl)) (fun _ _ _ h => h) (Or.inl ⟨by rfl, ?_⟩) ?_ ?_
    rotate_left
    · intro w'
      go_simp
      with_reducible rfl
    rotate_left
    · simp only [Act.put, List.setIfInBounds_toArray, List.set_cons_zero, List.set_cons_succ, i64_w, i32_w]
      rfl
    refine pure_ (i := 4) (N := some 37) (v := ?_) (a' := ?_) #[true, true, true, false, true, false, false, false, false, false] rfl rfl (any_of HT_.out (by kernel_rfl)) (fun _ _ _ h => h) (Or.inl ⟨by rfl, ?_⟩) ?_ ?_
    rotate_left
    · intro w'
      go_simp
      with_reducible rfl
    rotate_left
    · simp only [Act.put, List.setIfInBounds_toArray, List.set_cons_zero, List.set_cons_succ, i64_w, i32_w]
      rfl
    refine pure_ (i := 5) (N := some 38) (v := ?_) (a' := ?_) #[true, true, true, false, true, true, false, false, false, false] rfl rfl (any_of HT_.out (by kernel_rfl)) (fun _ _ _ h => h) (Or.inl ⟨by rfl, ?_⟩) ?_ ?_
    rotate_left
    · intro w'
      go_simp
      with_reducible rfl
    rotate_left
    · simp only [Act.put, List.setIfInBounds_toArray, List.set_cons_zero, List.set_cons_succ, i64_w, i32_w]
      rfl
    refine pure_ (i := 6) (N := some 39) (v := ?_) (a' := ?_) #[true, true, true, false, true, true, true, false, false, false] rfl rfl (any_of HT_.out (by kernel_rfl)) (fun _ _ _ h => h) (Or.inl ⟨by rfl, ?_⟩) ?_ ?_
    rotate_left
    · intro w'
      go_simp
      with_reducible rfl
    rotate_left
    · simp only [Act.put, List.setIfInBounds_toArray, List.set_cons_zero, List.set_cons_succ, i64_w, i32_w]
      rfl
    refine take_ (i := 3) (N := some 36) (v := ?_) (a' := ?_) #[true, true, true, true, true, true, true, false, false, false] rfl rfl (take_ofW HT_.out HW_.out (by kernel_rfl)) (fun _ _ _ h => h) (Or.inl ⟨by rfl, ?_⟩) hHeld ?_ ?_
    rotate_left
    · rintro w' ⟨s0, s1, s2, s3, s4, s5, s6, s7⟩
      go_simp
      with_reducible rfl
    rotate_left
    · simp only [Act.put, List.setIfInBounds_toArray, List.set_cons_zero, List.set_cons_succ, i64_w, i32_w]
      rfl
    refine take_ (i := 7) (N := some 40) (v := ?_) (a' := ?_) #[true, true, true, true, true, true, true, true, false, false] rfl rfl (take_ofW HT_.out HW_.out (by kernel_rfl)) (fun _ _ _ h => h) (Or.inl ⟨by rfl, ?_⟩) hHeld ?_ ?_
    rotate_left
    · rintro w' ⟨s0, s1, s2, s3, s4, s5, s6, s7⟩
      go_simp
      with_reducible rfl
    rotate_left
    · simp only [Act.put, List.setIfInBounds_toArray, List.set_cons_zero, List.set_cons_succ, i64_w, i32_w]
      rfl
    refine one_ (i := 8) (N := some 41) #[true, true, true, true, true, true, true, true, true, false] rfl rfl (one_of HT_.out (by kernel_rfl)) (by decide) (fun K hK => ?_)
    refine goes_ Try.func31 (by kernel_rfl) rfl #[.agg #[.string a1_0, .int .i64 a1_1, .bool a1_2, .string a1_3], .agg #[.string ((rd_T39 l0 x7_1).f0), .int .i64 ((rd_T39 l0 x7_1).f1), .bool ((rd_T39 l0 x7_1).f2), .string ((rd_T39 l0 x7_1).f3)]] (by rfl) rfl rfl (by (try simp only [List.map_toArray, List.map_cons, List.map_nil]); first | done | rfl | (simp only [List.length_drop, List.length_take]; rfl)) ?_
    with_reducible refine (ravelinref6_Less.calls a1_0 a1_1 a1_2 a1_3 ((rd_T39 l0 x7_1).f0) ((rd_T39 l0 x7_1).f1) ((rd_T39 l0 x7_1).f2) ((rd_T39 l0 x7_1).f3) false _ A20.out).mono ?_
    rintro e w31 ⟨rfl, hb⟩
    have HS4_ := (hb.cell (World.block_lt_of_cell? _ _ (hHeld.2.2.2.2.1))).trans (hHeld.2.2.2.2.1)
    have HS5_ := (hb.cell (World.block_lt_of_cell? _ _ (hHeld.2.2.2.2.2.1))).trans (hHeld.2.2.2.2.2.1)
    have HS6_ := (hb.cell (World.block_lt_of_cell? _ _ (hHeld.2.2.2.2.2.2.1))).trans (hHeld.2.2.2.2.2.2.1)
    have HS7_ := (hb.cell (World.block_lt_of_cell? _ _ (hHeld.2.2.2.2.2.2.2))).trans (hHeld.2.2.2.2.2.2.2)
    refine ⟨_, rfl, ?_⟩
    have n0_ := Aside0.mk (Kd.R_below (by (with_reducible repeat (first | apply Kd.R_alloc | apply Kd.R_drewN | apply Kd.R_drew)); exact HO_0.out) hb)
    have n1_ := Aside0.mk (Kd.R_below (by (with_reducible repeat (first | apply Kd.R_alloc | apply Kd.R_drewN | apply Kd.R_drew)); exact HO_5.out) hb)
    have n2_ := Aside0.mk (blk_below (g := gb181) (o := .cells #[.string a1_0, .int .i64 a1_1, .bool a1_2, .string a1_3] 39 (0, 0)) (by (with_reducible repeat (first | refine blk_drewN ?_ _ | refine blk_drew ?_ | refine blk_alloc ?_ _)); exact BK181.out) hb)
    have n3_ := Aside0.mk (Kept.below (S := (fun k_ => P0_ k_)) (by repeat (first | (with_reducible first | exact HK.out | apply Kept.alloc | apply Kept.drewN | apply Kept.drew | refine Kept.setCell ?_ (.inr GW181.out) _) | exact HK.out)) hb)
    have n4_ := Aside0.mk (below_step (by repeat (first | (with_reducible first | exact HB.out | apply below_alloc | apply pw_below_drewN | apply below_drew1 | refine below_set ?_ GE181.out) | exact HB.out)) hb)
    clear HO_0
    clear HO_5
    clear BK181
    clear HK
    clear HB
    have HO_0 := n0_
    have HO_5 := n1_
    have BK181 := n2_
    have HK := n3_
    have HB := n4_
    clear n0_ n1_ n2_ n3_ n4_
    (try clear hb)
    (try clear hb2)
    (try clear hk)
    (try clear hi)
    refine hK.out _ _ ⟨(blk_cell BK181.out 0).trans rfl, (blk_cell BK181.out 1).trans rfl, (blk_cell BK181.out 2).trans rfl, (blk_cell BK181.out 3).trans rfl, HS4_, HS5_, HS6_, HS7_⟩ (fun hHeld => ?_)
    clear hK K
    refine norm_ (a' := ?_) ?_ ?_
    rotate_left
    · show Act.put _ (some 41) _ = _
      simp only [Act.put, List.setIfInBounds_toArray, List.set_cons_zero, List.set_cons_succ, i64_w, i32_w]
      rfl
    refine pure_ (i := 9) (N := some 42) (v := ?_) (a' := ?_) #[true, true, true, true, true, true, true, true, true, true] rfl rfl (any_of HT_.out (by kernel_rfl)) (fun _ _ _ h => h) (Or.inl ⟨by rfl, ?_⟩) ?_ ?_
    rotate_left
    · intro w'
      go_simp
      with_reducible rfl
    rotate_left
    · simp only [Act.put, List.setIfInBounds_toArray, List.set_cons_zero, List.set_cons_succ, i64_w, i32_w]
      rfl
    refine done_ (done_of HT_.out (by kernel_rfl)) ?_
    have p200 : 0 ≤ (x7_1 : Int) := of_decide_eq_true (by first | (with_reducible assumption) | assumption)
    have q200 : x7_1 < (l0.length : Int) := of_decide_eq_true (by first | (with_reducible assumption) | assumption)
    obtain ⟨ad200, e200, hx200_0, hx200_1, hx200_2, hx200_3⟩ := at_T39 (Kd.R_reads' HO_0.out).2.2 x7_1 p200 q200
    obtain rfl : ad191 = ad200 := (by injection e200)
    replace p200 := eq_true p200
    replace q200 := eq_true q200
    try go_wp2_with (first | ((with_reducible refine gate_builtin (b := .append) (xs := #[.tmp 47, .tmp 52]) rfl ?_); at_builtin; refine Kd.R_append k39 (w0 := w0) w0.heap.size rfl (.tmp 47) (.tmp 52) 23 39 (.agg #[(.string ⟨#[]⟩), (.int .i64 0), (.bool false), (.string ⟨#[]⟩)]) 48 rfl Try.underlying23 info39 rfl (by decide) (by omega) u5 x5_1 (⟨(rd_T39 l0 x7_1).f0, (rd_T39 l0 x7_1).f1, (rd_T39 l0 x7_1).f2, (rd_T39 l0 x7_1).f3⟩ : S39) [.string ((rd_T39 l0 x7_1).f0), .int .i64 ((rd_T39 l0 x7_1).f1), .bool ((rd_T39 l0 x7_1).f2), .string ((rd_T39 l0 x7_1).f3)] (fun k_ => (P0_ k_ ∨ w.heap.size ≤ k_) ∧ some k_ ≠ (.slice (some ad191) l0.length co6 : Value).ownBlock ∧ k_ ≠ gb181) (fun _ => False) rfl rfl ?aP (fun _ hk => hk.elim) ?aF ?aO ?aB ?aS ?aL ?_; (case aP => exact k39_mkM _ _ _ (⟨(rd_T39 l0 x7_1).f0, (rd_T39 l0 x7_1).f1, (rd_T39 l0 x7_1).f2, (rd_T39 l0 x7_1).f3⟩ : S39)); (case aB => exact (by repeat (first | (with_reducible first | exact HB.out | apply below_alloc | apply pw_below_drewN | apply below_drew1 | refine below_set ?_ GE181.out) | exact HB.out))); (case aF => exact (fun k_ hk => ⟨(.inr (Nat.le_trans (by first | exact HK.out.1 | exact (show Kept w _ (fun k_ => P0_ k_) from by repeat (first | (with_reducible first | exact HK.out | apply Kept.alloc | apply Kept.drewN | apply Kept.drew | refine Kept.setCell ?_ (.inr GW181.out) _) | exact HK.out)).1) hk)), Kd.fresh' (Kd.R_lt (by (with_reducible repeat (first | apply Kd.R_alloc | apply Kd.R_drewN | apply Kd.R_drew)); exact HO_0.out)) k_ hk, Kd.freshB (g := gb181) (o := .cells #[.string a1_0, .int .i64 a1_1, .bool a1_2, .string a1_3] 39 (0, 0)) (by (with_reducible repeat (first | refine blk_drewN ?_ _ | refine blk_drew ?_ | refine blk_alloc ?_ _)); exact BK181.out) k_ hk⟩)); (case aO => exact (by (with_reducible repeat (first | apply Kd.R_alloc | apply Kd.R_drewN | apply Kd.R_drew)); exact HO_5.out)); (case aS => exact (below_size (by repeat (first | (with_reducible first | exact HB.out | apply below_alloc | apply pw_below_drewN | apply below_drew1 | refine below_set ?_ GE181.out) | exact HB.out)))); (case aL => have := LMc29.out; omega); intro v202 w32 ho hb hg hat; rw [← Ny201.out] at ho; have n0_ := Aside0.mk (Kd.R_after (ok := (fun k_ => (P0_ k_ ∨ w.heap.size ≤ k_) ∧ k_ ≠ gb181)) (by (with_reducible repeat (first | apply Kd.R_alloc | apply Kd.R_drewN | apply Kd.R_drew)); exact Kd.R_mono HO_0.out (fun _ hk => ⟨⟨hk.1, hk.2.2⟩, hk.2.1⟩)) hg hat); have n1_ := Aside0.mk (blk_grown (g := gb181) (o := .cells #[.string a1_0, .int .i64 a1_1, .bool a1_2, .string a1_3] 39 (0, 0)) (by (with_reducible repeat (first | refine blk_drewN ?_ _ | refine blk_drew ?_ | refine blk_alloc ?_ _)); exact BK181.out) hg (Kd.R_away HO_5.out (fun _ hk => hk.2.2))); have n2_ := Aside0.mk (hb); have n3_ := Aside0.mk (Kept.of_grown (S := (fun k_ => P0_ k_)) hg (by repeat (first | (with_reducible first | exact HK.out | apply Kept.alloc | apply Kept.drewN | apply Kept.drew | refine Kept.setCell ?_ (.inr GW181.out) _) | exact HK.out)) (fun k_ e_ => (HO_5.out.1 k_ e_).1)); have n4_ := Aside0.mk (ho); clear HO_0; clear BK181; clear HB; clear HK; clear HO_5; have HO_0 := n0_; have BK181 := n1_; have HB := n2_; have HK := n3_; have HO203 := n4_; clear n0_ n1_ n2_ n3_ n4_; clear ho hb hg hat))
    go_roundg kj4
    case measure => have := HK1.out; have := HJ4.out; omega
    case rel => exact ⟨(y201), (false), (wrap64 (x7_1 + 1)), (by first | rfl | (simp; done) | (simp [*]; done)), (by first | rfl | (simp; done) | (simp [*]; done)), H', ⟨by have := HK1.out; have := HJ4.out; omega⟩, ⟨by (with_reducible repeat (first | apply Kd.R_alloc | apply Kd.R_drewN | apply Kd.R_drew)); exact Kd.R_mono HO_0.out (fun _ hk => ⟨hk.1.1, ⟨hk.2, hk.1.2⟩⟩)⟩, ⟨by (with_reducible repeat (first | apply Kd.R_alloc | apply Kd.R_drewN | apply Kd.R_drew)); exact HO203.out⟩, ⟨by (with_reducible repeat (first | refine blk_drewN ?_ _ | refine blk_drew ?_ | refine blk_alloc ?_ _)); exact BK181.out⟩, ⟨by repeat (first | (with_reducible first | exact HK.out | apply Kept.alloc | apply Kept.drewN | apply Kept.drew | refine Kept.setCell ?_ (.inr GW181.out) _) | exact HK.out)⟩, ⟨by repeat (first | (with_reducible first | exact HB.out | apply below_alloc | apply pw_below_drewN | apply below_drew1 | refine below_set ?_ GE181.out) | exact HB.out)⟩⟩
  subst c21
  have H1 : (if x5_1.length < 2932031007402 then ((some (x5_1 ++ [(⟨a1_0, a1_1, a1_2, a1_3⟩ : S39)] : List (S39))).bind fun y193 => (if y193.length < 2932031007402 then (ravelinref6_insert.l0 kj4 l0 (y193 ++ [(⟨(rd_T39 l0 x7_1).f0, (rd_T39 l0 x7_1).f1, (rd_T39 l0 x7_1).f2, (rd_T39 l0 x7_1).f3⟩ : S39)]) true (wrap64 (x7_1 + 1)) a1_0 a1_1 a1_2 a1_3) else (none))) else (none)) = some r := by rw [if_pos rfl] at H; exact H
  clear H
  have H := H1
  clear H1
  by_cases c22 : x5_1.length < 2932031007402
  rotate_left
  · rw [if_neg c22] at H
    exact absurd H (by simp)
  rw [if_pos c22] at H
  have LMc22 := Aside0.mk c22
  clear c22
  obtain ⟨y193, hy193⟩ : ∃ y_ : List (S39), y_ = (x5_1 ++ [(⟨a1_0, a1_1, a1_2, a1_3⟩ : S39)]) := ⟨_, rfl⟩
  replace H : (if y193.length < 2932031007402 then (ravelinref6_insert.l0 kj4 l0 (y193 ++ [(⟨(rd_T39 l0 x7_1).f0, (rd_T39 l0 x7_1).f1, (rd_T39 l0 x7_1).f2, (rd_T39 l0 x7_1).f3⟩ : S39)]) true (wrap64 (x7_1 + 1)) a1_0 a1_1 a1_2 a1_3) else (none)) = some r := by first | (rw [hy193]; with_reducible exact H) | (have H2_ := (Option.bind_some _ _).symm.trans H; rw [hy193]; with_reducible exact H2_) | (have H2_ := (Option.bind_some _ _).symm.trans H; with_reducible exact H2_) | with_reducible exact H | (rw [hy193]; exact H) | exact H
  have Ny193 := Aside0.mk hy193
  clear hy193
  by_cases c23 : y193.length < 2932031007402
  rotate_left
  · rw [if_neg c23] at H
    exact absurd H (by simp)
  rw [if_pos c23] at H
  have LMc23 := Aside0.mk c23
  clear c23
  obtain ⟨y197, hy197⟩ : ∃ y_ : List (S39), y_ = (y193 ++ [(⟨(rd_T39 l0 x7_1).f0, (rd_T39 l0 x7_1).f1, (rd_T39 l0 x7_1).f2, (rd_T39 l0 x7_1).f3⟩ : S39)]) := ⟨_, rfl⟩
  replace H : (ravelinref6_insert.l0 kj4 l0 y197 true (wrap64 (x7_1 + 1)) a1_0 a1_1 a1_2 a1_3) = some r := by first | (rw [hy197]; with_reducible exact H) | (have H2_ := (Option.bind_some _ _).symm.trans H; rw [hy197]; with_reducible exact H2_) | (have H2_ := (Option.bind_some _ _).symm.trans H; with_reducible exact H2_) | with_reducible exact H | (rw [hy197]; exact H) | exact H
  have Ny197 := Aside0.mk hy197
  clear hy197
  have H' := Aside0.mk H
  clear H
  try go_wp2
  have n0_ := Aside0.mk (Kd.R_drew HO_0.out)
  have n1_ := Aside0.mk (Kd.R_drew HO_5.out)
  have n2_ := Aside0.mk (blk_drew BK181.out)
  have n3_ := Aside0.mk (Kept.drew HK.out)
  have n4_ := Aside0.mk (below_drew1 HB.out)
  clear HO_0
  clear HO_5
  clear BK181
  clear HK
  clear HB
  have HO_0 := n0_
  have HO_5 := n1_
  have BK181 := n2_
  have HK := n3_
  have HB := n4_
  clear n0_ n1_ n2_ n3_ n4_
  have p191 : 0 ≤ (x7_1 : Int) := of_decide_eq_true (by first | (with_reducible assumption) | assumption)
  have q191 : x7_1 < (l0.length : Int) := of_decide_eq_true (by first | (with_reducible assumption) | assumption)
  obtain ⟨ad191, e191, hx191_0, hx191_1, hx191_2, hx191_3⟩ := at_T39 (Kd.R_reads' HO_0.out).2.2 x7_1 p191 q191
  cases e191
  replace p191 := eq_true p191
  replace q191 := eq_true q191
  refine start_ (n := 10) (S := fun w' => w'.cell? ⟨gb181, 0, none⟩ = some (.string a1_0) ∧ w'.cell? ⟨gb181, 1, none⟩ = some (.int .i64 a1_1) ∧ w'.cell? ⟨gb181, 2, none⟩ = some (.bool a1_2) ∧ w'.cell? ⟨gb181, 3, none⟩ = some (.string a1_3) ∧ w'.cell? (ad191.add ((x7_1).toNat * 4)) = some (.string ((rd_T39 l0 x7_1).f0)) ∧ w'.cell? ⟨(ad191.add ((x7_1).toNat * 4)).block, (ad191.add ((x7_1).toNat * 4)).off + 1, none⟩ = some (.int .i64 ((rd_T39 l0 x7_1).f1)) ∧ w'.cell? ⟨(ad191.add ((x7_1).toNat * 4)).block, (ad191.add ((x7_1).toNat * 4)).off + 2, none⟩ = some (.bool ((rd_T39 l0 x7_1).f2)) ∧ w'.cell? ⟨(ad191.add ((x7_1).toNat * 4)).block, (ad191.add ((x7_1).toNat * 4)).off + 3, none⟩ = some (.string ((rd_T39 l0 x7_1).f3))) (ds := []) #[false, false, false, false, false, false, false, false, false, false] (by kernel_rfl) rfl rfl ⟨(blk_cell BK181.out 0).trans rfl, (blk_cell BK181.out 1).trans rfl, (blk_cell BK181.out 2).trans rfl, (blk_cell BK181.out 3).trans rfl, hx191_0, hx191_1, hx191_2, hx191_3⟩ (fun hHeld => ?_); refine with_tabW ravelinref6_insert.tab8 ravelinref6_insert.bits8 (fun HT_ HW_ => ?_)
  generalize wc.drew = w24 at HO_0 HO_5 BK181 HK HB hx191_0 hx191_1 hx191_2 hx191_3 hHeld ⊢
  refine pure_ (i := 0) (N := some 33) (v := ?_) (a' := ?_) #[true, false, false, false, false, false, false, false, false, false] rfl rfl (any_of HT_.out (by kernel_rfl)) (fun _ _ _ h => h) (Or.inl ⟨by rfl, ?_⟩) ?_ ?_
  rotate_left
  · intro w'
    go_simp
    with_reducible rfl
  rotate_left
  · simp only [Act.put, List.setIfInBounds_toArray, List.set_cons_zero, List.set_cons_succ, i64_w, i32_w]
    rfl
  refine pure_ (i := 1) (N := some 34) (v := ?_) (a' := ?_) #[true, true, false, false, false, false, false, false, false, false] rfl rfl (any_of HT_.out (by kernel_rfl)) (fun _ _ _ h => h) (Or.inl ⟨by rfl, ?_⟩) ?_ ?_
  rotate_left
  · intro w'
    go_simp
    with_reducible rfl
  rotate_left
  · simp only [Act.put, List.setIfInBounds_toArray, List.set_cons_zero, List.set_cons_succ, i64_w, i32_w]
    rfl
  refine pure_ (i := 2) (N := some 35) (v := ?_) (a' := ?_) #[true, true, true, false, false, false, false, false, false, false] rfl rfl (any_of HT_.out (by kernel_rfl)) (fun _ _ _ h => h) (Or.inl ⟨by rfl, ?_⟩) ?_ ?_
  rotate_left
  · intro w'
    go_simp
    with_reducible rfl
  rotate_left
  · simp only [Act.put, List.setIfInBounds_toArray, List.set_cons_zero, List.set_cons_succ, i64_w, i32_w]
    rfl
  refine pure_ (i := 4) (N := some 37) (v := ?_) (a' := ?_) #[true, true, true, false, true, false, false, false, false, false] rfl rfl (any_of HT_.out (by kernel_rfl)) (fun _ _ _ h => h) (Or.inl ⟨by rfl, ?_⟩) ?_ ?_
  rotate_left
  · intro w'
    go_simp
    with_reducible rfl
  rotate_left
  · simp only [Act.put, List.setIfInBounds_toArray, List.set_cons_zero, List.set_cons_succ, i64_w, i32_w]
    rfl
  refine pure_ (i := 5) (N := some 38) (v := ?_) (a' := ?_) #[true, true, true, false, true, true, false, false, false, false] rfl rfl (any_of HT_.out (by kernel_rfl)) (fun _ _ _ h => h) (Or.inl ⟨by rfl, ?_⟩) ?_ ?_
  rotate_left
  · intro w'
    go_simp
    with_reducible rfl
  rotate_left
  · simp only [Act.put, List.setIfInBounds_toArray, List.set_cons_zero, List.set_cons_succ, i64_w, i32_w]
    rfl
  refine pure_ (i := 6) (N := some 39) (v := ?_) (a' := ?_) #[true, true, true, false, true, true, true, false, false, false] rfl rfl (any_of HT_.out (by kernel_rfl)) (fun _ _ _ h => h) (Or.inl ⟨by rfl, ?_⟩) ?_ ?_
  rotate_left
  · intro w'
    go_simp
    with_reducible rfl
  rotate_left
  · simp only [Act.put, List.setIfInBounds_toArray, List.set_cons_zero, List.set_cons_succ, i64_w, i32_w]
    rfl
  refine take_ (i := 3) (N := some 36) (v := ?_) (a' := ?_) #[true, true, true, true, true, true, true, false, false, false] rfl rfl (take_ofW HT_.out HW_.out (by kernel_rfl)) (fun _ _ _ h => h) (Or.inl ⟨by rfl, ?_⟩) hHeld ?_ ?_
  rotate_left
  · rintro w' ⟨s0, s1, s2, s3, s4, s5, s6, s7⟩
    go_simp
    with_reducible rfl
  rotate_left
  · simp only [Act.put, List.setIfInBounds_toArray, List.set_cons_zero, List.set_cons_succ, i64_w, i32_w]
    rfl
  refine take_ (i := 7) (N := some 40) (v := ?_) (a' := ?_) #[true, true, true, true, true, true, true, true, false, false] rfl rfl (take_ofW HT_.out HW_.out (by kernel_rfl)) (fun _ _ _ h => h) (Or.inl ⟨by rfl, ?_⟩) hHeld ?_ ?_
  rotate_left
  · rintro w' ⟨s0, s1, s2, s3, s4, s5, s6, s7⟩
    go_simp
    with_reducible rfl
  rotate_left
  · simp only [Act.put, List.setIfInBounds_toArray, List.set_cons_zero, List.set_cons_succ, i64_w, i32_w]
    rfl
  refine one_ (i := 8) (N := some 41) #[true, true, true, true, true, true, true, true, true, false] rfl rfl (one_of HT_.out (by kernel_rfl)) (by decide) (fun K hK => ?_)
  refine goes_ Try.func31 (by kernel_rfl) rfl #[.agg #[.string a1_0, .int .i64 a1_1, .bool a1_2, .string a1_3], .agg #[.string ((rd_T39 l0 x7_1).f0), .int .i64 ((rd_T39 l0 x7_1).f1), .bool ((rd_T39 l0 x7_1).f2), .string ((rd_T39 l0 x7_1).f3)]] (by rfl) rfl rfl (by (try simp only [List.map_toArray, List.map_cons, List.map_nil]); first | done | rfl | (simp only [List.length_drop, List.length_take]; rfl)) ?_
  with_reducible refine (ravelinref6_Less.calls a1_0 a1_1 a1_2 a1_3 ((rd_T39 l0 x7_1).f0) ((rd_T39 l0 x7_1).f1) ((rd_T39 l0 x7_1).f2) ((rd_T39 l0 x7_1).f3) true _ A20.out).mono ?_
  rintro e w25 ⟨rfl, hb⟩
  have HS4_ := (hb.cell (World.block_lt_of_cell? _ _ (hHeld.2.2.2.2.1))).trans (hHeld.2.2.2.2.1)
  have HS5_ := (hb.cell (World.block_lt_of_cell? _ _ (hHeld.2.2.2.2.2.1))).trans (hHeld.2.2.2.2.2.1)
  have HS6_ := (hb.cell (World.block_lt_of_cell? _ _ (hHeld.2.2.2.2.2.2.1))).trans (hHeld.2.2.2.2.2.2.1)
  have HS7_ := (hb.cell (World.block_lt_of_cell? _ _ (hHeld.2.2.2.2.2.2.2))).trans (hHeld.2.2.2.2.2.2.2)
  refine ⟨_, rfl, ?_⟩
  have n0_ := Aside0.mk (Kd.R_below (by (with_reducible repeat (first | apply Kd.R_alloc | apply Kd.R_drewN | apply Kd.R_drew)); exact HO_0.out) hb)
  have n1_ := Aside0.mk (Kd.R_below (by (with_reducible repeat (first | apply Kd.R_alloc | apply Kd.R_drewN | apply Kd.R_drew)); exact HO_5.out) hb)
  have n2_ := Aside0.mk (blk_below (g := gb181) (o := .cells #[.string a1_0, .int .i64 a1_1, .bool a1_2, .string a1_3] 39 (0, 0)) (by (with_reducible repeat (first | refine blk_drewN ?_ _ | refine blk_drew ?_ | refine blk_alloc ?_ _)); exact BK181.out) hb)
  have n3_ := Aside0.mk (Kept.below (S := (fun k_ => P0_ k_)) (by repeat (first | (with_reducible first | exact HK.out | apply Kept.alloc | apply Kept.drewN | apply Kept.drew | refine Kept.setCell ?_ (.inr GW181.out) _) | exact HK.out)) hb)
  have n4_ := Aside0.mk (below_step (by repeat (first | (with_reducible first | exact HB.out | apply below_alloc | apply pw_below_drewN | apply below_drew1 | refine below_set ?_ GE181.out) | exact HB.out)) hb)
  clear HO_0
  clear HO_5
  clear BK181
  clear HK
  clear HB
  have HO_0 := n0_
  have HO_5 := n1_
  have BK181 := n2_
  have HK := n3_
  have HB := n4_
  clear n0_ n1_ n2_ n3_ n4_
  (try clear hb)
  (try clear hb2)
  (try clear hk)
  (try clear hi)
  refine hK.out _ _ ⟨(blk_cell BK181.out 0).trans rfl, (blk_cell BK181.out 1).trans rfl, (blk_cell BK181.out 2).trans rfl, (blk_cell BK181.out 3).trans rfl, HS4_, HS5_, HS6_, HS7_⟩ (fun hHeld => ?_)
  clear hK K
  refine norm_ (a' := ?_) ?_ ?_
  rotate_left
  · show Act.put _ (some 41) _ = _
    simp only [Act.put, List.setIfInBounds_toArray, List.set_cons_zero, List.set_cons_succ, i64_w, i32_w]
    rfl
  refine pure_ (i := 9) (N := some 42) (v := ?_) (a' := ?_) #[true, true, true, true, true, true, true, true, true, true] rfl rfl (any_of HT_.out (by kernel_rfl)) (fun _ _ _ h => h) (Or.inl ⟨by rfl, ?_⟩) ?_ ?_
  rotate_left
  · intro w'
    go_simp
    with_reducible rfl
  rotate_left
  · simp only [Act.put, List.setIfInBounds_toArray, List.set_cons_zero, List.set_cons_succ, i64_w, i32_w]
    rfl
  refine done_ (done_of HT_.out (by kernel_rfl)) ?_
  have hcz26_0 : w25.cell? ⟨gb181, 0, none⟩ = some (.string a1_0) := (blk_cell BK181.out 0).trans rfl
  have hcz26_1 : w25.cell? ⟨gb181, 1, none⟩ = some (.int .i64 a1_1) := (blk_cell BK181.out 1).trans rfl
  have hcz26_2 : w25.cell? ⟨gb181, 2, none⟩ = some (.bool a1_2) := (blk_cell BK181.out 2).trans rfl
  have hcz26_3 : w25.cell? ⟨gb181, 3, none⟩ = some (.string a1_3) := (blk_cell BK181.out 3).trans rfl
  have hfz26_0 := blk_frozen BK181.out 0
  have hfz26_1 := blk_frozen BK181.out 1
  have hfz26_2 := blk_frozen BK181.out 2
  have hfz26_3 := blk_frozen BK181.out 3
  try go_wp2_with (first | ((with_reducible refine gate_builtin (b := .append) (xs := #[.tmp 43, .tmp 45]) rfl ?_); at_builtin; refine Kd.R_append k39 (w0 := w0) w0.heap.size rfl (.tmp 43) (.tmp 45) 23 39 (.agg #[(.string ⟨#[]⟩), (.int .i64 0), (.bool false), (.string ⟨#[]⟩)]) 48 rfl Try.underlying23 info39 rfl (by decide) (by omega) u5 x5_1 (⟨a1_0, a1_1, a1_2, a1_3⟩ : S39) [.string a1_0, .int .i64 a1_1, .bool a1_2, .string a1_3] (fun k_ => (P0_ k_ ∨ w.heap.size ≤ k_) ∧ some k_ ≠ (.slice (some ad191) l0.length co6 : Value).ownBlock ∧ k_ ≠ gb181) (fun _ => False) rfl rfl ?aP (fun _ hk => hk.elim) ?aF ?aO ?aB ?aS ?aL ?_; (case aP => exact k39_mkM _ _ _ (⟨a1_0, a1_1, a1_2, a1_3⟩ : S39)); (case aB => exact (by repeat (first | (with_reducible first | exact HB.out | apply below_alloc | apply pw_below_drewN | apply below_drew1 | refine below_set ?_ GE181.out) | exact HB.out))); (case aF => exact (fun k_ hk => ⟨(.inr (Nat.le_trans (by first | exact HK.out.1 | exact (show Kept w _ (fun k_ => P0_ k_) from by repeat (first | (with_reducible first | exact HK.out | apply Kept.alloc | apply Kept.drewN | apply Kept.drew | refine Kept.setCell ?_ (.inr GW181.out) _) | exact HK.out)).1) hk)), Kd.fresh' (Kd.R_lt (by (with_reducible repeat (first | apply Kd.R_alloc | apply Kd.R_drewN | apply Kd.R_drew)); exact HO_0.out)) k_ hk, Kd.freshB (g := gb181) (o := .cells #[.string a1_0, .int .i64 a1_1, .bool a1_2, .string a1_3] 39 (0, 0)) (by (with_reducible repeat (first | refine blk_drewN ?_ _ | refine blk_drew ?_ | refine blk_alloc ?_ _)); exact BK181.out) k_ hk⟩)); (case aO => exact (by (with_reducible repeat (first | apply Kd.R_alloc | apply Kd.R_drewN | apply Kd.R_drew)); exact HO_5.out)); (case aS => exact (below_size (by repeat (first | (with_reducible first | exact HB.out | apply below_alloc | apply pw_below_drewN | apply below_drew1 | refine below_set ?_ GE181.out) | exact HB.out)))); (case aL => have := LMc22.out; omega); intro v194 w27 ho hb hg hat; rw [← Ny193.out] at ho; have n0_ := Aside0.mk (Kd.R_after (ok := (fun k_ => (P0_ k_ ∨ w.heap.size ≤ k_) ∧ k_ ≠ gb181)) (by (with_reducible repeat (first | apply Kd.R_alloc | apply Kd.R_drewN | apply Kd.R_drew)); exact Kd.R_mono HO_0.out (fun _ hk => ⟨⟨hk.1, hk.2.2⟩, hk.2.1⟩)) hg hat); have n1_ := Aside0.mk (blk_grown (g := gb181) (o := .cells #[.string a1_0, .int .i64 a1_1, .bool a1_2, .string a1_3] 39 (0, 0)) (by (with_reducible repeat (first | refine blk_drewN ?_ _ | refine blk_drew ?_ | refine blk_alloc ?_ _)); exact BK181.out) hg (Kd.R_away HO_5.out (fun _ hk => hk.2.2))); have n2_ := Aside0.mk (hb); have n3_ := Aside0.mk (Kept.of_grown (S := (fun k_ => P0_ k_)) hg (by repeat (first | (with_reducible first | exact HK.out | apply Kept.alloc | apply Kept.drewN | apply Kept.drew | refine Kept.setCell ?_ (.inr GW181.out) _) | exact HK.out)) (fun k_ e_ => (HO_5.out.1 k_ e_).1)); have n4_ := Aside0.mk (ho); clear HO_0; clear BK181; clear HB; clear HK; clear HO_5; have HO_0 := n0_; have BK181 := n1_; have HB := n2_; have HK := n3_; have HO195 := n4_; clear n0_ n1_ n2_ n3_ n4_; clear ho hb hg hat; have p196 : 0 ≤ (x7_1 : Int) := of_decide_eq_true (by first | (with_reducible assumption) | assumption); have q196 : x7_1 < (l0.length : Int) := of_decide_eq_true (by first | (with_reducible assumption) | assumption); obtain ⟨ad196, e196, hx196_0, hx196_1, hx196_2, hx196_3⟩ := at_T39 (Kd.R_reads' HO_0.out).2.2 x7_1 p196 q196; obtain rfl : ad191 = ad196 := (by injection e196); replace p196 := eq_true p196; replace q196 := eq_true q196) | ((with_reducible refine gate_builtin (b := .append) (xs := #[.tmp 47, .tmp 52]) rfl ?_); at_builtin; refine Kd.R_append k39 (w0 := w0) w0.heap.size rfl (.tmp 47) (.tmp 52) 23 39 (.agg #[(.string ⟨#[]⟩), (.int .i64 0), (.bool false), (.string ⟨#[]⟩)]) 48 rfl Try.underlying23 info39 rfl (by decide) (by omega) v194 y193 (⟨(rd_T39 l0 x7_1).f0, (rd_T39 l0 x7_1).f1, (rd_T39 l0 x7_1).f2, (rd_T39 l0 x7_1).f3⟩ : S39) [.string ((rd_T39 l0 x7_1).f0), .int .i64 ((rd_T39 l0 x7_1).f1), .bool ((rd_T39 l0 x7_1).f2), .string ((rd_T39 l0 x7_1).f3)] (fun k_ => (P0_ k_ ∨ w.heap.size ≤ k_) ∧ some k_ ≠ (.slice (some ad191) l0.length co6 : Value).ownBlock ∧ k_ ≠ gb181) (fun _ => False) rfl rfl ?aP (fun _ hk => hk.elim) ?aF ?aO ?aB ?aS ?aL ?_; (case aP => exact k39_mkM _ _ _ (⟨(rd_T39 l0 x7_1).f0, (rd_T39 l0 x7_1).f1, (rd_T39 l0 x7_1).f2, (rd_T39 l0 x7_1).f3⟩ : S39)); (case aB => exact (by repeat (first | (with_reducible first | exact HB.out | apply below_alloc | apply pw_below_drewN | apply below_drew1 | refine below_set ?_ GE181.out) | exact HB.out))); (case aF => exact (fun k_ hk => ⟨(.inr (Nat.le_trans (by first | exact HK.out.1 | exact (show Kept w _ (fun k_ => P0_ k_) from by repeat (first | (with_reducible first | exact HK.out | apply Kept.alloc | apply Kept.drewN | apply Kept.drew | refine Kept.setCell ?_ (.inr GW181.out) _) | exact HK.out)).1) hk)), Kd.fresh' (Kd.R_lt (by (with_reducible repeat (first | apply Kd.R_alloc | apply Kd.R_drewN | apply Kd.R_drew)); exact HO_0.out)) k_ hk, Kd.freshB (g := gb181) (o := .cells #[.string a1_0, .int .i64 a1_1, .bool a1_2, .string a1_3] 39 (0, 0)) (by (with_reducible repeat (first | refine blk_drewN ?_ _ | refine blk_drew ?_ | refine blk_alloc ?_ _)); exact BK181.out) k_ hk⟩)); (case aO => exact (by (with_reducible repeat (first | apply Kd.R_alloc | apply Kd.R_drewN | apply Kd.R_drew)); exact HO195.out)); (case aS => exact (below_size (by repeat (first | (with_reducible first | exact HB.out | apply below_alloc | apply pw_below_drewN | apply below_drew1 | refine below_set ?_ GE181.out) | exact HB.out)))); (case aL => have := LMc23.out; omega); intro v198 w28 ho hb hg hat; rw [← Ny197.out] at ho; have n0_ := Aside0.mk (Kd.R_after (ok := (fun k_ => (P0_ k_ ∨ w.heap.size ≤ k_) ∧ k_ ≠ gb181)) (by (with_reducible repeat (first | apply Kd.R_alloc | apply Kd.R_drewN | apply Kd.R_drew)); exact HO_0.out) hg hat); have n1_ := Aside0.mk (blk_grown (g := gb181) (o := .cells #[.string a1_0, .int .i64 a1_1, .bool a1_2, .string a1_3] 39 (0, 0)) (by (with_reducible repeat (first | refine blk_drewN ?_ _ | refine blk_drew ?_ | refine blk_alloc ?_ _)); exact BK181.out) hg (Kd.R_away HO195.out (fun _ hk => hk.2.2))); have n2_ := Aside0.mk (hb); have n3_ := Aside0.mk (Kept.of_grown (S := (fun k_ => P0_ k_)) hg (by repeat (first | (with_reducible first | exact HK.out | apply Kept.alloc | apply Kept.drewN | apply Kept.drew | refine Kept.setCell ?_ (.inr GW181.out) _) | exact HK.out)) (fun k_ e_ => (HO195.out.1 k_ e_).1)); have n4_ := Aside0.mk (ho); clear HO_0; clear BK181; clear HB; clear HK; clear HO195; have HO_0 := n0_; have BK181 := n1_; have HB := n2_; have HK := n3_; have HO199 := n4_; clear n0_ n1_ n2_ n3_ n4_; clear ho hb hg hat))
  go_roundg kj4
  case measure => have := HK1.out; have := HJ4.out; omega
  case rel => exact ⟨(y197), (true), (wrap64 (x7_1 + 1)), (by first | rfl | (simp; done) | (simp [*]; done)), (by first | rfl | (simp; done) | (simp [*]; done)), H', ⟨by have := HK1.out; have := HJ4.out; omega⟩, ⟨by (with_reducible repeat (first | apply Kd.R_alloc | apply Kd.R_drewN | apply Kd.R_drew)); exact Kd.R_mono HO_0.out (fun _ hk => ⟨hk.1.1, ⟨hk.2, hk.1.2⟩⟩)⟩, ⟨by (with_reducible repeat (first | apply Kd.R_alloc | apply Kd.R_drewN | apply Kd.R_drew)); exact HO199.out⟩, ⟨by (with_reducible repeat (first | refine blk_drewN ?_ _ | refine blk_drew ?_ | refine blk_alloc ?_ _)); exact BK181.out⟩, ⟨by repeat (first | (with_reducible first | exact HK.out | apply Kept.alloc | apply Kept.drewN | apply Kept.drew | refine Kept.setCell ?_ (.inr GW181.out) _) | exact HK.out)⟩, ⟨by repeat (first | (with_reducible first | exact HB.out | apply below_alloc | apply pw_below_drewN | apply below_drew1 | refine below_set ?_ GE181.out) | exact HB.out)⟩⟩

end Go.Proofs.Ytjcpdbekdimceaa.P
