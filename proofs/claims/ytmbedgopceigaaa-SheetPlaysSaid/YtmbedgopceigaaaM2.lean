-- Printed by a changed copy of the kit's printer (wip/tools/ext.py); labels and more
import Derived.Test.YtmbedgopceigaaaM0
namespace Go.Proofs.Ytmbedgopceigaaa.P
open Go.RowKit Go.Proofs.YtmbedgopceigaaaW.PrintWords Go.Proofs.YtmbedgopceigaaaW.PrintLast Go.Proofs.YtmbedgopceigaaaW.PrintMore
attribute [local go_sem] max2_int min2_int max_two min_two max_three min_three max_four min_four   -- for this text's walks alone
attribute [local go_sem high] string_leq string_geq string_gtr
set_option linter.unusedVariables false
set_option linter.unusedSimpArgs false

/-! ### sheet_apart: function 32 -/
mutual
def sheet_apart.l0 : Nat → List (S32) → List (S32) → Int → Int → Option (Bool)
  | 0, _, _, _, _ => none
  | k + 1, x0, x7, x8, x9 => if x9 < x8 then (if 0 ≤ x9 then (if x9 < (x7.length : Int) then (if x9 ≤ (x0.length : Int) then ((some (x0.take (x9 : Int).toNat : List (S32))).bind fun y115 => (sheet_apart.l1 k x0 x7 x8 x9 y115 (y115.length : Int) 0 ((rd_T32 x7 x9).f0) ((rd_T32 x7 x9).f1) ((rd_T32 x7 x9).f2) ((rd_T32 x7 x9).f3) ((rd_T32 x7 x9).f4))) else (none)) else (none)) else (none)) else (some true)
def sheet_apart.l1 : Nat → List (S32) → List (S32) → Int → Int → List (S32) → Int → Int → Int → Int → ByteArray → ByteArray → Int → Option (Bool)
  | 0, _, _, _, _, _, _, _, _, _, _, _, _ => none
  | k + 1, x0, x7, x8, x9, x16, x17, x18, x115000, x115001, x115002, x115003, x115004 => if x18 < x17 then (if 0 ≤ x18 then (if x18 < (x16.length : Int) then (if x115001 = 0 then (sheet_apart.j2 k x0 x7 x8 x9 x16 x17 x18 true x115000 x115001 x115002 x115003 x115004 ((rd_T32 x16 x18).f0) ((rd_T32 x16 x18).f1) ((rd_T32 x16 x18).f2) ((rd_T32 x16 x18).f3) ((rd_T32 x16 x18).f4)) else (sheet_apart.j2 k x0 x7 x8 x9 x16 x17 x18 (((rd_T32 x16 x18).f1) == 0) x115000 x115001 x115002 x115003 x115004 ((rd_T32 x16 x18).f0) ((rd_T32 x16 x18).f1) ((rd_T32 x16 x18).f2) ((rd_T32 x16 x18).f3) ((rd_T32 x16 x18).f4))) else (none)) else (none)) else (sheet_apart.l0 k x0 x7 x8 (wrap64 (x9 + 1)))
def sheet_apart.j2 : Nat → List (S32) → List (S32) → Int → Int → List (S32) → Int → Int → Bool → Int → Int → ByteArray → ByteArray → Int → Int → Int → ByteArray → ByteArray → Int → Option (Bool)
  | 0, _, _, _, _, _, _, _, _, _, _, _, _, _, _, _, _, _, _ => none
  | k + 1, x0, x7, x8, x9, x16, x17, x18, x22, x115000, x115001, x115002, x115003, x115004, x121000, x121001, x121002, x121003, x121004 => if x22 = true then (sheet_apart.l1 k x0 x7 x8 x9 x16 x17 (wrap64 (x18 + 1)) x115000 x115001 x115002 x115003 x115004) else (if ((Op.bytesLess x121003.toList x115002.toList) = true) then (sheet_apart.l1 k x0 x7 x8 x9 x16 x17 (wrap64 (x18 + 1)) x115000 x115001 x115002 x115003 x115004) else (if ((Op.bytesLess x115003.toList x121002.toList) = true) then (sheet_apart.l1 k x0 x7 x8 x9 x16 x17 (wrap64 (x18 + 1)) x115000 x115001 x115002 x115003 x115004) else (some false)))
end
def sheet_apart.f (k : Nat) (l0 : List (S32)) : Option (Bool) := sheet_apart.l0 k l0 l0 (l0.length : Int) 0
theorem sheet_apart.mono_l : ∀ k, (∀ y0 y1 y2 y3, LeO (sheet_apart.l0 k y0 y1 y2 y3) (sheet_apart.l0 (k + 1) y0 y1 y2 y3)) ∧ (∀ y0 y1 y2 y3 y4 y5 y6 y7 y8 y9 y10 y11, LeO (sheet_apart.l1 k y0 y1 y2 y3 y4 y5 y6 y7 y8 y9 y10 y11) (sheet_apart.l1 (k + 1) y0 y1 y2 y3 y4 y5 y6 y7 y8 y9 y10 y11)) ∧ (∀ y0 y1 y2 y3 y4 y5 y6 y7 y8 y9 y10 y11 y12 y13 y14 y15 y16 y17, LeO (sheet_apart.j2 k y0 y1 y2 y3 y4 y5 y6 y7 y8 y9 y10 y11 y12 y13 y14 y15 y16 y17) (sheet_apart.j2 (k + 1) y0 y1 y2 y3 y4 y5 y6 y7 y8 y9 y10 y11 y12 y13 y14 y15 y16 y17))
  | 0 => ⟨fun _ _ _ _ r h => by simp [sheet_apart.l0] at h, fun _ _ _ _ _ _ _ _ _ _ _ _ r h => by simp [sheet_apart.l1] at h, fun _ _ _ _ _ _ _ _ _ _ _ _ _ _ _ _ _ _ r h => by simp [sheet_apart.j2] at h⟩
  | k + 1 => by
    obtain ⟨ih0, ih1, ih2⟩ := sheet_apart.mono_l k
    refine ⟨?_, ?_, ?_⟩
    all_goals
      intros
      first | unfold sheet_apart.l0 | unfold sheet_apart.l1 | unfold sheet_apart.j2
      repeat' first
      | (with_reducible exact ih0 _ _ _ _)
      | (with_reducible exact ih1 _ _ _ _ _ _ _ _ _ _ _ _)
      | (with_reducible exact ih2 _ _ _ _ _ _ _ _ _ _ _ _ _ _ _ _ _ _)
      | (with_reducible exact LeO.refl _)
      | (with_reducible exact LeO.none _)
      | (with_reducible refine LeO.ite ?_ ?_)
      | (with_reducible refine LeO.bind ?_ (fun _ => ?_))
      | exact ih0 _ _ _ _
      | exact ih1 _ _ _ _ _ _ _ _ _ _ _ _
      | exact ih2 _ _ _ _ _ _ _ _ _ _ _ _ _ _ _ _ _ _
      | exact LeO.none _
      | refine LeO.ite ?_ ?_
      | refine LeO.bind ?_ (fun _ => ?_)
theorem sheet_apart.mono : ∀ a0 k, LeO (sheet_apart.f k a0) (sheet_apart.f (k + 1) a0) := by
  intro a0 k
  obtain ⟨ih0, ih1, ih2⟩ := sheet_apart.mono_l k
  unfold sheet_apart.f
  repeat' first
      | (with_reducible exact ih0 _ _ _ _)
      | (with_reducible exact ih1 _ _ _ _ _ _ _ _ _ _ _ _)
      | (with_reducible exact ih2 _ _ _ _ _ _ _ _ _ _ _ _ _ _ _ _ _ _)
      | (with_reducible exact LeO.refl _)
      | (with_reducible exact LeO.none _)
      | (with_reducible refine LeO.ite ?_ ?_)
      | (with_reducible refine LeO.bind ?_ (fun _ => ?_))
      | exact ih0 _ _ _ _
      | exact ih1 _ _ _ _ _ _ _ _ _ _ _ _
      | exact ih2 _ _ _ _ _ _ _ _ _ _ _ _ _ _ _ _ _ _
      | exact LeO.none _
      | refine LeO.ite ?_ ?_
      | refine LeO.bind ?_ (fun _ => ?_)
set_option maxHeartbeats 8000000 in
set_option maxRecDepth 100000 in
theorem sheet_apart.calls (k : Nat) (A0 : Option Addr) (c0 : Nat) (l0 : List (S32)) (r : Bool) (w : World) (hr0 : Kd.C k32 w A0 l0.length l0) (hc0 : l0.length ≤ c0) (h : sheet_apart.f k l0 = some r) :
    Calls Try.prog 32 #[.slice A0 l0.length c0] w fun e w' => e = .returned (.bool r) ∧ Below w.heap.size w w' := by
  have hu32 := Try.underlying32
  have HR0 := Aside0.mk hr0
  have HC0 := Aside0.mk hc0
  clear hr0 hc0
  have HB := Aside0.mk (Below.refl w.heap.size w)
  have H : (sheet_apart.l0 k l0 l0 (l0.length : Int) 0) = some r := h
  clear h
  have H' := Aside0.mk H
  clear H
  go_enter Try.func32, Try.ntmps32
  go_wp2_with (first | go_step3 | go_in)
  go_loopg [9] k (fun kq v9 w' => ∃ (x9_1 : Int), v9 = .int .i64 x9_1 ∧ Aside0 (sheet_apart.l0 kq l0 l0 (l0.length : Int) x9_1 = some r) ∧ Aside0 (kq ≤ k) ∧ Aside0 (Below w.heap.size w w'))
  case atStart => exact ⟨(0), (by first | rfl | (simp; done) | (simp [*]; done)), H', ⟨Nat.le_refl _⟩, ⟨by repeat (first | (with_reducible first | exact HB.out | apply below_alloc | apply pw_below_drewN | apply below_drew1) | exact HB.out)⟩⟩
  clear H'
  obtain ⟨x9_1, rfl, HA, HK1, HB⟩ := hrel
  cases gk with
  | zero => exact absurd HA.out (by simp [sheet_apart.l0])
  | succ k1 => ?_
  have H := HA.out
  clear HA
  simp only [sheet_apart.l0] at H
  by_cases c2 : x9_1 < (l0.length : Int)
  rotate_left
  · rw [if_neg c2] at H
    have c2b0 : decide (x9_1 < (l0.length : Int)) = false := decide_eq_false c2
    clear c2
    obtain rfl := Option.some.inj H
    go_wp2_with (first | go_step3 | go_in)
    ((try rw [Exit.noGoto_ret]); go_ret)
    exact ⟨by first | rfl | (simp [errW_none, errW_some] <;> rfl) | (simp [*, errW_none, errW_some] <;> rfl), by repeat (first | (with_reducible first | exact HB.out | apply below_alloc | apply pw_below_drewN | apply below_drew1) | exact HB.out)⟩
  rw [if_pos c2] at H
  have c2b0 : decide (x9_1 < (l0.length : Int)) = true := decide_eq_true c2
  clear c2
  by_cases c3 : 0 ≤ x9_1
  rotate_left
  · rw [if_neg c3] at H
    exact absurd H (by simp)
  rw [if_pos c3] at H
  have c3b0 : decide (0 ≤ x9_1) = true := decide_eq_true c3
  clear c3
  by_cases c4 : x9_1 < (l0.length : Int)
  rotate_left
  · rw [if_neg c4] at H
    exact absurd H (by simp)
  rw [if_pos c4] at H
  have c4b0 : decide (x9_1 < (l0.length : Int)) = true := decide_eq_true c4
  clear c4
  have c5b0 := eq_true (of_decide_eq_true (by first | (with_reducible assumption) | assumption) : 0 ≤ x9_1)
  by_cases c6 : x9_1 ≤ (l0.length : Int)
  rotate_left
  · rw [if_neg c6] at H
    exact absurd H (by simp)
  rw [if_pos c6] at H
  have c6b0 := eq_true c6
  have c6b1 : decide (x9_1 ≤ (l0.length : Int)) = true := decide_eq_true c6
  clear c6
  obtain ⟨y115, hy115⟩ : ∃ y_ : List (S32), y_ = (l0.take (x9_1 : Int).toNat) := ⟨_, rfl⟩
  replace H : (sheet_apart.l1 k1 l0 l0 (l0.length : Int) x9_1 y115 (y115.length : Int) 0 ((rd_T32 l0 x9_1).f0) ((rd_T32 l0 x9_1).f1) ((rd_T32 l0 x9_1).f2) ((rd_T32 l0 x9_1).f3) ((rd_T32 l0 x9_1).f4)) = some r := by first | (rw [hy115]; with_reducible exact H) | (have H2_ := (Option.bind_some _ _).symm.trans H; rw [hy115]; with_reducible exact H2_) | (have H2_ := (Option.bind_some _ _).symm.trans H; with_reducible exact H2_) | with_reducible exact H | (rw [hy115]; exact H) | exact H
  have Ny115 := Aside0.mk hy115
  clear hy115
  have H' := Aside0.mk H
  clear H
  have p113 : 0 ≤ (x9_1 : Int) := of_decide_eq_true (by first | (with_reducible assumption) | assumption)
  have q113 : x9_1 < (l0.length : Int) := of_decide_eq_true (by first | (with_reducible assumption) | assumption)
  obtain ⟨ad113, e113, hx113_0, hx113_1, hx113_2, hx113_3, hx113_4⟩ := at_T32 HR0.out x9_1 p113 q113
  cases e113
  replace hx113_0 := (HB.out.cell (World.block_lt_of_cell? w _ hx113_0)).trans hx113_0
  replace hx113_1 := (HB.out.cell (World.block_lt_of_cell? w _ hx113_1)).trans hx113_1
  replace hx113_2 := (HB.out.cell (World.block_lt_of_cell? w _ hx113_2)).trans hx113_2
  replace hx113_3 := (HB.out.cell (World.block_lt_of_cell? w _ hx113_3)).trans hx113_3
  replace hx113_4 := (HB.out.cell (World.block_lt_of_cell? w _ hx113_4)).trans hx113_4
  replace p113 := eq_true p113
  replace q113 := eq_true q113
  go_wp2_with (first | go_step3 | ((with_reducible refine gate_dst (N := 4) rfl ?_); refine box_event ?hg (N := 4) ?hd (cs := #[.int .i64 0, .int .i64 0, .string (⟨#[]⟩ : ByteArray), .string (⟨#[]⟩ : ByteArray), .int .i64 0]) (t := 32) ?hr ?_; (case hd => rfl); (case hg => rfl); (case hr => first | (go_simp; done) | (go_simp; rfl)); intro gb114 hg w7 hbox hb; have n0_ := Aside0.mk (below_step (by repeat (first | (with_reducible first | exact HB.out | apply below_alloc | apply pw_below_drewN | apply below_drew1) | exact HB.out)) hb); have n1_ := Aside0.mk (hbox); have n2_ := Aside0.mk ((by rw [hg]; exact (below_size (by repeat (first | (with_reducible first | exact HB.out | apply below_alloc | apply pw_below_drewN | apply below_drew1) | exact HB.out))) : w.heap.size ≤ gb114)); have n3_ := Aside0.mk ((by rw [hg]; exact (below_size (by repeat (first | (with_reducible first | exact HB.out | apply below_alloc | apply pw_below_drewN | apply below_drew1) | exact HB.out))) : w.heap.size ≤ gb114)); clear HB; have HB := n0_; have BK114 := n1_; have GW114 := n2_; have GE114 := n3_; clear n0_ n1_ n2_ n3_; clear hb hbox hg; have hcz8_0 : w7.cell? ⟨gb114, 0, none⟩ = some (.int .i64 0) := (blk_cell BK114.out 0).trans rfl; have hcz8_1 : w7.cell? ⟨gb114, 1, none⟩ = some (.int .i64 0) := (blk_cell BK114.out 1).trans rfl; have hcz8_2 : w7.cell? ⟨gb114, 2, none⟩ = some (.string (⟨#[]⟩ : ByteArray)) := (blk_cell BK114.out 2).trans rfl; have hcz8_3 : w7.cell? ⟨gb114, 3, none⟩ = some (.string (⟨#[]⟩ : ByteArray)) := (blk_cell BK114.out 3).trans rfl; have hcz8_4 : w7.cell? ⟨gb114, 4, none⟩ = some (.int .i64 0) := (blk_cell BK114.out 4).trans rfl; have hfz8_0 := blk_frozen BK114.out 0; have hfz8_1 := blk_frozen BK114.out 1; have hfz8_2 := blk_frozen BK114.out 2; have hfz8_3 := blk_frozen BK114.out 3; have hfz8_4 := blk_frozen BK114.out 4) | ((with_reducible refine gate_store (t := 32) (p := 4) rfl ?_); refine store_event (t := 32) (p := 4) (v := ?vo_w9) (w1 := (((((w7.setCell ⟨gb114, 0, none⟩ (.int .i64 ((rd_T32 l0 x9_1).f0))).setCell ⟨gb114, 1, none⟩ (.int .i64 ((rd_T32 l0 x9_1).f1))).setCell ⟨gb114, 2, none⟩ (.string ((rd_T32 l0 x9_1).f2))).setCell ⟨gb114, 3, none⟩ (.string ((rd_T32 l0 x9_1).f3))).setCell ⟨gb114, 4, none⟩ (.int .i64 ((rd_T32 l0 x9_1).f4)))) ?hg ?ho ?hn ?hr ?_; (case ho => rfl); (case hg => rfl); (case hn => rfl); (case hr => first | (go_simp; done) | (go_simp; rfl)); intro w9 hw; have n0_ : Aside0 (w9.heap[gb114]? = some (.cells #[.int .i64 ((rd_T32 l0 x9_1).f0), .int .i64 ((rd_T32 l0 x9_1).f1), .string ((rd_T32 l0 x9_1).f2), .string ((rd_T32 l0 x9_1).f3), .int .i64 ((rd_T32 l0 x9_1).f4)] 32 (0, 0))) := ⟨(by rw [hw]; exact (by (with_reducible repeat (first | refine blk_drewN ?_ _ | refine blk_drew ?_ | refine blk_alloc ?_ _)); refine blk_put (cs := #[.int .i64 ((rd_T32 l0 x9_1).f0), .int .i64 ((rd_T32 l0 x9_1).f1), .string ((rd_T32 l0 x9_1).f2), .string ((rd_T32 l0 x9_1).f3), .int .i64 0]) ?_ 4 _ rfl; (with_reducible repeat (first | refine blk_drewN ?_ _ | refine blk_drew ?_ | refine blk_alloc ?_ _)); refine blk_put (cs := #[.int .i64 ((rd_T32 l0 x9_1).f0), .int .i64 ((rd_T32 l0 x9_1).f1), .string ((rd_T32 l0 x9_1).f2), .string (⟨#[]⟩ : ByteArray), .int .i64 0]) ?_ 3 _ rfl; (with_reducible repeat (first | refine blk_drewN ?_ _ | refine blk_drew ?_ | refine blk_alloc ?_ _)); refine blk_put (cs := #[.int .i64 ((rd_T32 l0 x9_1).f0), .int .i64 ((rd_T32 l0 x9_1).f1), .string (⟨#[]⟩ : ByteArray), .string (⟨#[]⟩ : ByteArray), .int .i64 0]) ?_ 2 _ rfl; (with_reducible repeat (first | refine blk_drewN ?_ _ | refine blk_drew ?_ | refine blk_alloc ?_ _)); refine blk_put (cs := #[.int .i64 ((rd_T32 l0 x9_1).f0), .int .i64 0, .string (⟨#[]⟩ : ByteArray), .string (⟨#[]⟩ : ByteArray), .int .i64 0]) ?_ 1 _ rfl; (with_reducible repeat (first | refine blk_drewN ?_ _ | refine blk_drew ?_ | refine blk_alloc ?_ _)); refine blk_put (cs := #[.int .i64 0, .int .i64 0, .string (⟨#[]⟩ : ByteArray), .string (⟨#[]⟩ : ByteArray), .int .i64 0]) ?_ 0 _ rfl; (with_reducible repeat (first | refine blk_drewN ?_ _ | refine blk_drew ?_ | refine blk_alloc ?_ _)); exact BK114.out))⟩; have n1_ : Aside0 (Below w.heap.size w w9) := ⟨(by rw [hw]; exact (by repeat (first | (with_reducible first | exact HB.out | apply below_alloc | apply pw_below_drewN | apply below_drew1 | refine below_set ?_ GE114.out) | exact HB.out)))⟩; clear hw; clear BK114; clear HB; have BK114 := n0_; have HB := n1_; clear n0_ n1_; have q10 : (x9_1 : Int) ≤ ((l0.length : Int) : Int) := of_decide_eq_true (by first | (with_reducible assumption) | assumption); obtain ⟨i010, hi010, _, hsz10, _⟩ := info_parts info32; have hroom10 : l0.length ≤ c0 := HC0.out; have hC10 : Kd.C k32 _ (some ad113) l0.length l0 := HR0.out; have hcut10 := cut_to (P := Try.prog) 33 32 .i64 Try.underlying33 hi010 (some ad113) l0.length c0 x9_1 (of_decide_eq_true (by first | (with_reducible assumption) | assumption)) q10 hroom10; have hr10 := Kd.C_take (m := (x9_1 : Int).toNat) hC10 (by omega); have hy10 : y115.length = (x9_1 : Int).toNat := (by rw [Ny115.out, List.length_take]; omega); rw [← Ny115.out] at hr10; rw [← hy10] at hcut10; have HR118 := Aside0.mk hr10; have HC118 := Aside0.mk (show y115.length ≤ c0 from by omega); clear hr10 hC10 hroom10 hi010 hsz10; have KY10 := Aside0.mk hy10; clear hy10; replace q10 := eq_true q10))
  go_loopg [18] k1 (fun kq v18 w' => ∃ (x18_2 : Int), v18 = .int .i64 x18_2 ∧ Aside0 (sheet_apart.l1 kq l0 l0 (l0.length : Int) x9_1 y115 (y115.length : Int) x18_2 ((rd_T32 l0 x9_1).f0) ((rd_T32 l0 x9_1).f1) ((rd_T32 l0 x9_1).f2) ((rd_T32 l0 x9_1).f3) ((rd_T32 l0 x9_1).f4) = some r) ∧ Aside0 (kq ≤ k1) ∧ Aside0 (w'.heap[gb114]? = some (.cells #[.int .i64 ((rd_T32 l0 x9_1).f0), .int .i64 ((rd_T32 l0 x9_1).f1), .string ((rd_T32 l0 x9_1).f2), .string ((rd_T32 l0 x9_1).f3), .int .i64 ((rd_T32 l0 x9_1).f4)] 32 (0, 0))) ∧ Aside0 (Below w.heap.size w w'))
  case atStart => exact ⟨(0), (by first | rfl | (simp; done) | (simp [*]; done)), H', ⟨Nat.le_refl _⟩, ⟨by (with_reducible repeat (first | refine blk_drewN ?_ _ | refine blk_drew ?_ | refine blk_alloc ?_ _)); exact BK114.out⟩, ⟨by repeat (first | (with_reducible first | exact HB.out | apply below_alloc | apply pw_below_drewN | apply below_drew1 | refine below_set ?_ GE114.out) | exact HB.out)⟩⟩
  clear H'
  try clear p1
  try clear q1
  try clear hx1
  try clear c2
  try clear c2b0
  try clear p2
  try clear c3
  try clear c3b0
  try clear p3
  try clear c4
  try clear c4b0
  try clear c5
  try clear c5b0
  try clear c6
  try clear c6b0
  try clear c6b1
  try clear q10
  try clear hcz8_0
  try clear hcz8_1
  try clear hcz8_2
  try clear hcz8_3
  try clear hcz8_4
  try clear hfz8_0
  try clear hfz8_1
  try clear hfz8_2
  try clear hfz8_3
  try clear hfz8_4
  try clear hx113_0
  try clear hx113_1
  try clear hx113_2
  try clear hx113_3
  try clear hx113_4
  try clear p113
  try clear q10
  try clear q113
  obtain ⟨x18_2, rfl, HA, HK2, BK114, HB⟩ := hrel
  cases gk with
  | zero => exact absurd HA.out (by simp [sheet_apart.l1])
  | succ k2 => ?_
  have H := HA.out
  clear HA
  simp only [sheet_apart.l1] at H
  by_cases c11 : x18_2 < (y115.length : Int)
  rotate_left
  · rw [if_neg c11] at H
    have c11b0 : decide (x18_2 < (y115.length : Int)) = false := decide_eq_false c11
    clear c11
    have H' := Aside0.mk H
    clear H
    go_wp2_with (first | go_step3 | go_in)
    (try (rw [Exit.noGoto_normal]; go_wp2_with go_step3))
    go_roundg k2
    case measure => have := HK1.out; have := HK2.out; omega
    case rel => exact ⟨(wrap64 (x9_1 + 1)), (by first | rfl | (simp; done) | (simp [*]; done)), H', ⟨by have := HK1.out; have := HK2.out; omega⟩, ⟨by repeat (first | (with_reducible first | exact HB.out | apply below_alloc | apply pw_below_drewN | apply below_drew1 | refine below_set ?_ GE114.out) | exact HB.out)⟩⟩
  rw [if_pos c11] at H
  have c11b0 : decide (x18_2 < (y115.length : Int)) = true := decide_eq_true c11
  clear c11
  by_cases c12 : 0 ≤ x18_2
  rotate_left
  · rw [if_neg c12] at H
    exact absurd H (by simp)
  rw [if_pos c12] at H
  have c12b0 : decide (0 ≤ x18_2) = true := decide_eq_true c12
  clear c12
  by_cases c13 : x18_2 < (y115.length : Int)
  rotate_left
  · rw [if_neg c13] at H
    exact absurd H (by simp)
  rw [if_pos c13] at H
  have c13b0 : decide (x18_2 < (y115.length : Int)) = true := decide_eq_true c13
  clear c13
  have HC14 := Aside0.mk H
  clear H
  have p119 : 0 ≤ (x18_2 : Int) := of_decide_eq_true (by first | (with_reducible assumption) | assumption)
  have q119 : x18_2 < (y115.length : Int) := of_decide_eq_true (by first | (with_reducible assumption) | assumption)
  obtain ⟨ad119, e119, hx119_0, hx119_1, hx119_2, hx119_3, hx119_4⟩ := at_T32 HR118.out x18_2 p119 q119
  obtain rfl : ad113 = ad119 := (by injection e119)
  replace hx119_0 := (HB.out.cell (World.block_lt_of_cell? w _ hx119_0)).trans hx119_0
  replace hx119_1 := (HB.out.cell (World.block_lt_of_cell? w _ hx119_1)).trans hx119_1
  replace hx119_2 := (HB.out.cell (World.block_lt_of_cell? w _ hx119_2)).trans hx119_2
  replace hx119_3 := (HB.out.cell (World.block_lt_of_cell? w _ hx119_3)).trans hx119_3
  replace hx119_4 := (HB.out.cell (World.block_lt_of_cell? w _ hx119_4)).trans hx119_4
  replace p119 := eq_true p119
  replace q119 := eq_true q119
  go_upto_region 7 with (first | go_step3 | ((with_reducible refine gate_dst (N := 6) rfl ?_); refine box_event ?hg (N := 6) ?hd (cs := #[.int .i64 0, .int .i64 0, .string (⟨#[]⟩ : ByteArray), .string (⟨#[]⟩ : ByteArray), .int .i64 0]) (t := 32) ?hr ?_; (case hd => rfl); (case hg => rfl); (case hr => first | (go_simp; done) | (go_simp; rfl)); intro gb120 hg w15 hbox hb; have n0_ := Aside0.mk (blk_below (g := gb114) (o := .cells #[.int .i64 ((rd_T32 l0 x9_1).f0), .int .i64 ((rd_T32 l0 x9_1).f1), .string ((rd_T32 l0 x9_1).f2), .string ((rd_T32 l0 x9_1).f3), .int .i64 ((rd_T32 l0 x9_1).f4)] 32 (0, 0)) (by (with_reducible repeat (first | refine blk_drewN ?_ _ | refine blk_drew ?_ | refine blk_alloc ?_ _)); exact BK114.out) hb); have n1_ := Aside0.mk (below_step (by repeat (first | (with_reducible first | exact HB.out | apply below_alloc | apply pw_below_drewN | apply below_drew1 | refine below_set ?_ GE114.out) | exact HB.out)) hb); have n2_ := Aside0.mk (hbox); have n3_ := Aside0.mk ((by rw [hg]; exact (below_size (by repeat (first | (with_reducible first | exact HB.out | apply below_alloc | apply pw_below_drewN | apply below_drew1 | refine below_set ?_ GE114.out) | exact HB.out))) : w.heap.size ≤ gb120)); have n4_ := Aside0.mk ((by rw [hg]; exact (below_size (by repeat (first | (with_reducible first | exact HB.out | apply below_alloc | apply pw_below_drewN | apply below_drew1 | refine below_set ?_ GE114.out) | exact HB.out))) : w.heap.size ≤ gb120)); have n5_ := Aside0.mk ((by rw [hg]; exact Nat.ne_of_lt (blk_lt (g := gb114) (o := .cells #[.int .i64 ((rd_T32 l0 x9_1).f0), .int .i64 ((rd_T32 l0 x9_1).f1), .string ((rd_T32 l0 x9_1).f2), .string ((rd_T32 l0 x9_1).f3), .int .i64 ((rd_T32 l0 x9_1).f4)] 32 (0, 0)) (by (with_reducible repeat (first | refine blk_drewN ?_ _ | refine blk_drew ?_ | refine blk_alloc ?_ _)); exact BK114.out)) : gb114 ≠ gb120)); have n6_ := Aside0.mk ((by rw [hg]; exact Nat.ne_of_gt (blk_lt (g := gb114) (o := .cells #[.int .i64 ((rd_T32 l0 x9_1).f0), .int .i64 ((rd_T32 l0 x9_1).f1), .string ((rd_T32 l0 x9_1).f2), .string ((rd_T32 l0 x9_1).f3), .int .i64 ((rd_T32 l0 x9_1).f4)] 32 (0, 0)) (by (with_reducible repeat (first | refine blk_drewN ?_ _ | refine blk_drew ?_ | refine blk_alloc ?_ _)); exact BK114.out)) : gb120 ≠ gb114)); clear BK114; clear HB; have BK114 := n0_; have HB := n1_; have BK120 := n2_; have GW120 := n3_; have GE120 := n4_; have NB114_120 := n5_; have NB120_114 := n6_; clear n0_ n1_ n2_ n3_ n4_ n5_ n6_; clear hb hbox hg; have hnb16 := NB120_114.out; have hnc16 := NB114_120.out; have hcz17_0 : w15.cell? ⟨gb120, 0, none⟩ = some (.int .i64 0) := (blk_cell BK120.out 0).trans rfl; have hcz17_1 : w15.cell? ⟨gb120, 1, none⟩ = some (.int .i64 0) := (blk_cell BK120.out 1).trans rfl; have hcz17_2 : w15.cell? ⟨gb120, 2, none⟩ = some (.string (⟨#[]⟩ : ByteArray)) := (blk_cell BK120.out 2).trans rfl; have hcz17_3 : w15.cell? ⟨gb120, 3, none⟩ = some (.string (⟨#[]⟩ : ByteArray)) := (blk_cell BK120.out 3).trans rfl; have hcz17_4 : w15.cell? ⟨gb120, 4, none⟩ = some (.int .i64 0) := (blk_cell BK120.out 4).trans rfl; have hfz17_0 := blk_frozen BK120.out 0; have hfz17_1 := blk_frozen BK120.out 1; have hfz17_2 := blk_frozen BK120.out 2; have hfz17_3 := blk_frozen BK120.out 3; have hfz17_4 := blk_frozen BK120.out 4))
  (try simp only [Act.put, List.setIfInBounds_toArray, List.set_cons_zero, List.set_cons_succ])
  go_cut [22] (fun v22 wc => ∃ (kq : Nat) (x22_13 : Bool), v22 = .bool x22_13 ∧ Aside0 (sheet_apart.j2 kq l0 l0 (l0.length : Int) x9_1 y115 (y115.length : Int) x18_2 x22_13 ((rd_T32 l0 x9_1).f0) ((rd_T32 l0 x9_1).f1) ((rd_T32 l0 x9_1).f2) ((rd_T32 l0 x9_1).f3) ((rd_T32 l0 x9_1).f4) ((rd_T32 y115 x18_2).f0) ((rd_T32 y115 x18_2).f1) ((rd_T32 y115 x18_2).f2) ((rd_T32 y115 x18_2).f3) ((rd_T32 y115 x18_2).f4) = some r) ∧ Aside0 (kq ≤ k2) ∧ Aside0 (wc.heap[gb114]? = some (.cells #[.int .i64 ((rd_T32 l0 x9_1).f0), .int .i64 ((rd_T32 l0 x9_1).f1), .string ((rd_T32 l0 x9_1).f2), .string ((rd_T32 l0 x9_1).f3), .int .i64 ((rd_T32 l0 x9_1).f4)] 32 (0, 0))) ∧ Aside0 (wc.heap[gb120]? = some (.cells #[.int .i64 ((rd_T32 y115 x18_2).f0), .int .i64 ((rd_T32 y115 x18_2).f1), .string ((rd_T32 y115 x18_2).f2), .string ((rd_T32 y115 x18_2).f3), .int .i64 ((rd_T32 y115 x18_2).f4)] 32 (0, 0))) ∧ Aside0 (Below w.heap.size w wc))
  case first =>
    have H := HC14.out
    clear HC14
    by_cases c18 : ((rd_T32 l0 x9_1).f1) = 0
    · rw [if_pos c18] at H
      have c18b0 : (((rd_T32 l0 x9_1).f1) == 0) = true := beq_iff_eq.mpr c18
      have c18b1 : (((rd_T32 l0 x9_1).f1) != 0) = false := bne_eq_false_iff_eq.mpr c18
      clear c18
      (first | rw [c18b0] | (simp only [i64_w, i32_w]; rw [c18b0]) | skip)
      have H' := Aside0.mk H
      clear H
      have hnb19 := NB114_120.out
      have hnc19 := NB120_114.out
      have hcz20_0 : w15.cell? ⟨gb114, 0, none⟩ = some (.int .i64 ((rd_T32 l0 x9_1).f0)) := (blk_cell BK114.out 0).trans rfl
      have hcz20_1 : w15.cell? ⟨gb114, 1, none⟩ = some (.int .i64 ((rd_T32 l0 x9_1).f1)) := (blk_cell BK114.out 1).trans rfl
      have hcz20_2 : w15.cell? ⟨gb114, 2, none⟩ = some (.string ((rd_T32 l0 x9_1).f2)) := (blk_cell BK114.out 2).trans rfl
      have hcz20_3 : w15.cell? ⟨gb114, 3, none⟩ = some (.string ((rd_T32 l0 x9_1).f3)) := (blk_cell BK114.out 3).trans rfl
      have hcz20_4 : w15.cell? ⟨gb114, 4, none⟩ = some (.int .i64 ((rd_T32 l0 x9_1).f4)) := (blk_cell BK114.out 4).trans rfl
      have hfz20_0 := blk_frozen BK114.out 0
      have hfz20_1 := blk_frozen BK114.out 1
      have hfz20_2 := blk_frozen BK114.out 2
      have hfz20_3 := blk_frozen BK114.out 3
      have hfz20_4 := blk_frozen BK114.out 4
      go_wp2_with (first | go_step3 | go_in)
      go_meet
      case rel => exact ⟨_, (true), (by first | rfl | (simp; done) | (simp [*]; done)), H', ⟨by have := HK1.out; have := HK2.out; first | omega | exact Nat.le_refl _⟩, ⟨by (with_reducible repeat (first | refine blk_drewN ?_ _ | refine blk_drew ?_ | refine blk_alloc ?_ _)); refine blk_far ?_ NB114_120.out _; (with_reducible repeat (first | refine blk_drewN ?_ _ | refine blk_drew ?_ | refine blk_alloc ?_ _)); refine blk_far ?_ NB114_120.out _; (with_reducible repeat (first | refine blk_drewN ?_ _ | refine blk_drew ?_ | refine blk_alloc ?_ _)); refine blk_far ?_ NB114_120.out _; (with_reducible repeat (first | refine blk_drewN ?_ _ | refine blk_drew ?_ | refine blk_alloc ?_ _)); refine blk_far ?_ NB114_120.out _; (with_reducible repeat (first | refine blk_drewN ?_ _ | refine blk_drew ?_ | refine blk_alloc ?_ _)); refine blk_far ?_ NB114_120.out _; (with_reducible repeat (first | refine blk_drewN ?_ _ | refine blk_drew ?_ | refine blk_alloc ?_ _)); exact BK114.out⟩, ⟨by (with_reducible repeat (first | refine blk_drewN ?_ _ | refine blk_drew ?_ | refine blk_alloc ?_ _)); refine blk_put (cs := #[.int .i64 ((rd_T32 y115 x18_2).f0), .int .i64 ((rd_T32 y115 x18_2).f1), .string ((rd_T32 y115 x18_2).f2), .string ((rd_T32 y115 x18_2).f3), .int .i64 0]) ?_ 4 _ rfl; (with_reducible repeat (first | refine blk_drewN ?_ _ | refine blk_drew ?_ | refine blk_alloc ?_ _)); refine blk_put (cs := #[.int .i64 ((rd_T32 y115 x18_2).f0), .int .i64 ((rd_T32 y115 x18_2).f1), .string ((rd_T32 y115 x18_2).f2), .string (⟨#[]⟩ : ByteArray), .int .i64 0]) ?_ 3 _ rfl; (with_reducible repeat (first | refine blk_drewN ?_ _ | refine blk_drew ?_ | refine blk_alloc ?_ _)); refine blk_put (cs := #[.int .i64 ((rd_T32 y115 x18_2).f0), .int .i64 ((rd_T32 y115 x18_2).f1), .string (⟨#[]⟩ : ByteArray), .string (⟨#[]⟩ : ByteArray), .int .i64 0]) ?_ 2 _ rfl; (with_reducible repeat (first | refine blk_drewN ?_ _ | refine blk_drew ?_ | refine blk_alloc ?_ _)); refine blk_put (cs := #[.int .i64 ((rd_T32 y115 x18_2).f0), .int .i64 0, .string (⟨#[]⟩ : ByteArray), .string (⟨#[]⟩ : ByteArray), .int .i64 0]) ?_ 1 _ rfl; (with_reducible repeat (first | refine blk_drewN ?_ _ | refine blk_drew ?_ | refine blk_alloc ?_ _)); refine blk_put (cs := #[.int .i64 0, .int .i64 0, .string (⟨#[]⟩ : ByteArray), .string (⟨#[]⟩ : ByteArray), .int .i64 0]) ?_ 0 _ rfl; (with_reducible repeat (first | refine blk_drewN ?_ _ | refine blk_drew ?_ | refine blk_alloc ?_ _)); exact BK120.out⟩, ⟨by repeat (first | (with_reducible first | exact HB.out | apply below_alloc | apply pw_below_drewN | apply below_drew1 | refine below_set ?_ GE114.out | refine below_set ?_ GE120.out) | exact HB.out)⟩⟩
    rw [if_neg c18] at H
    have c18b0 : (((rd_T32 l0 x9_1).f1) == 0) = false := beq_eq_false_iff_ne.mpr c18
    have c18b1 : (((rd_T32 l0 x9_1).f1) != 0) = true := bne_iff_ne.mpr c18
    (first | rw [c18b0] | (simp only [i64_w, i32_w]; rw [c18b0]) | skip)
    have H' := Aside0.mk H
    clear H
    have hnb21 := NB114_120.out
    have hnc21 := NB120_114.out
    have hcz22_0 : w15.cell? ⟨gb114, 0, none⟩ = some (.int .i64 ((rd_T32 l0 x9_1).f0)) := (blk_cell BK114.out 0).trans rfl
    have hcz22_1 : w15.cell? ⟨gb114, 1, none⟩ = some (.int .i64 ((rd_T32 l0 x9_1).f1)) := (blk_cell BK114.out 1).trans rfl
    have hcz22_2 : w15.cell? ⟨gb114, 2, none⟩ = some (.string ((rd_T32 l0 x9_1).f2)) := (blk_cell BK114.out 2).trans rfl
    have hcz22_3 : w15.cell? ⟨gb114, 3, none⟩ = some (.string ((rd_T32 l0 x9_1).f3)) := (blk_cell BK114.out 3).trans rfl
    have hcz22_4 : w15.cell? ⟨gb114, 4, none⟩ = some (.int .i64 ((rd_T32 l0 x9_1).f4)) := (blk_cell BK114.out 4).trans rfl
    have hfz22_0 := blk_frozen BK114.out 0
    have hfz22_1 := blk_frozen BK114.out 1
    have hfz22_2 := blk_frozen BK114.out 2
    have hfz22_3 := blk_frozen BK114.out 3
    have hfz22_4 := blk_frozen BK114.out 4
    have hcz23_0 : w15.cell? ⟨gb120, 0, none⟩ = some (.int .i64 0) := (blk_cell BK120.out 0).trans rfl
    have hcz23_1 : w15.cell? ⟨gb120, 1, none⟩ = some (.int .i64 0) := (blk_cell BK120.out 1).trans rfl
    have hcz23_2 : w15.cell? ⟨gb120, 2, none⟩ = some (.string (⟨#[]⟩ : ByteArray)) := (blk_cell BK120.out 2).trans rfl
    have hcz23_3 : w15.cell? ⟨gb120, 3, none⟩ = some (.string (⟨#[]⟩ : ByteArray)) := (blk_cell BK120.out 3).trans rfl
    have hcz23_4 : w15.cell? ⟨gb120, 4, none⟩ = some (.int .i64 0) := (blk_cell BK120.out 4).trans rfl
    have hfz23_0 := blk_frozen BK120.out 0
    have hfz23_1 := blk_frozen BK120.out 1
    have hfz23_2 := blk_frozen BK120.out 2
    have hfz23_3 := blk_frozen BK120.out 3
    have hfz23_4 := blk_frozen BK120.out 4
    go_wp2_with (first | go_step3 | go_in)
    go_meet
    case rel => exact ⟨_, ((((rd_T32 y115 x18_2).f1) == 0)), (by first | rfl | (simp; done) | (simp [*]; done)), H', ⟨by have := HK1.out; have := HK2.out; first | omega | exact Nat.le_refl _⟩, ⟨by (with_reducible repeat (first | refine blk_drewN ?_ _ | refine blk_drew ?_ | refine blk_alloc ?_ _)); refine blk_far ?_ NB114_120.out _; (with_reducible repeat (first | refine blk_drewN ?_ _ | refine blk_drew ?_ | refine blk_alloc ?_ _)); refine blk_far ?_ NB114_120.out _; (with_reducible repeat (first | refine blk_drewN ?_ _ | refine blk_drew ?_ | refine blk_alloc ?_ _)); refine blk_far ?_ NB114_120.out _; (with_reducible repeat (first | refine blk_drewN ?_ _ | refine blk_drew ?_ | refine blk_alloc ?_ _)); refine blk_far ?_ NB114_120.out _; (with_reducible repeat (first | refine blk_drewN ?_ _ | refine blk_drew ?_ | refine blk_alloc ?_ _)); refine blk_far ?_ NB114_120.out _; (with_reducible repeat (first | refine blk_drewN ?_ _ | refine blk_drew ?_ | refine blk_alloc ?_ _)); exact BK114.out⟩, ⟨by (with_reducible repeat (first | refine blk_drewN ?_ _ | refine blk_drew ?_ | refine blk_alloc ?_ _)); refine blk_put (cs := #[.int .i64 ((rd_T32 y115 x18_2).f0), .int .i64 ((rd_T32 y115 x18_2).f1), .string ((rd_T32 y115 x18_2).f2), .string ((rd_T32 y115 x18_2).f3), .int .i64 0]) ?_ 4 _ rfl; (with_reducible repeat (first | refine blk_drewN ?_ _ | refine blk_drew ?_ | refine blk_alloc ?_ _)); refine blk_put (cs := #[.int .i64 ((rd_T32 y115 x18_2).f0), .int .i64 ((rd_T32 y115 x18_2).f1), .string ((rd_T32 y115 x18_2).f2), .string (⟨#[]⟩ : ByteArray), .int .i64 0]) ?_ 3 _ rfl; (with_reducible repeat (first | refine blk_drewN ?_ _ | refine blk_drew ?_ | refine blk_alloc ?_ _)); refine blk_put (cs := #[.int .i64 ((rd_T32 y115 x18_2).f0), .int .i64 ((rd_T32 y115 x18_2).f1), .string (⟨#[]⟩ : ByteArray), .string (⟨#[]⟩ : ByteArray), .int .i64 0]) ?_ 2 _ rfl; (with_reducible repeat (first | refine blk_drewN ?_ _ | refine blk_drew ?_ | refine blk_alloc ?_ _)); refine blk_put (cs := #[.int .i64 ((rd_T32 y115 x18_2).f0), .int .i64 0, .string (⟨#[]⟩ : ByteArray), .string (⟨#[]⟩ : ByteArray), .int .i64 0]) ?_ 1 _ rfl; (with_reducible repeat (first | refine blk_drewN ?_ _ | refine blk_drew ?_ | refine blk_alloc ?_ _)); refine blk_put (cs := #[.int .i64 0, .int .i64 0, .string (⟨#[]⟩ : ByteArray), .string (⟨#[]⟩ : ByteArray), .int .i64 0]) ?_ 0 _ rfl; (with_reducible repeat (first | refine blk_drewN ?_ _ | refine blk_drew ?_ | refine blk_alloc ?_ _)); exact BK120.out⟩, ⟨by repeat (first | (with_reducible first | exact HB.out | apply below_alloc | apply pw_below_drewN | apply below_drew1 | refine below_set ?_ GE114.out | refine below_set ?_ GE120.out) | exact HB.out)⟩⟩
  clear HC14
  try clear c1
  try clear p1
  try clear q1
  try clear hx1
  try clear c2
  try clear c2b0
  try clear p2
  try clear c3
  try clear c3b0
  try clear p3
  try clear c4
  try clear c4b0
  try clear c5
  try clear c5b0
  try clear c6
  try clear c6b0
  try clear c6b1
  try clear q10
  try clear c11
  try clear c11b0
  try clear p11
  try clear q11
  try clear hx11
  try clear c12
  try clear c12b0
  try clear c13
  try clear c13b0
  try clear c16
  try clear c18
  try clear c18b0
  try clear c18b1
  try clear c19
  try clear c21
  try clear hcz17_0
  try clear hcz17_1
  try clear hcz17_2
  try clear hcz17_3
  try clear hcz17_4
  try clear hcz20_0
  try clear hcz20_1
  try clear hcz20_2
  try clear hcz20_3
  try clear hcz20_4
  try clear hcz22_0
  try clear hcz22_1
  try clear hcz22_2
  try clear hcz22_3
  try clear hcz22_4
  try clear hcz23_0
  try clear hcz23_1
  try clear hcz23_2
  try clear hcz23_3
  try clear hcz23_4
  try clear hcz8_0
  try clear hcz8_1
  try clear hcz8_2
  try clear hcz8_3
  try clear hcz8_4
  try clear hfz17_0
  try clear hfz17_1
  try clear hfz17_2
  try clear hfz17_3
  try clear hfz17_4
  try clear hfz20_0
  try clear hfz20_1
  try clear hfz20_2
  try clear hfz20_3
  try clear hfz20_4
  try clear hfz22_0
  try clear hfz22_1
  try clear hfz22_2
  try clear hfz22_3
  try clear hfz22_4
  try clear hfz23_0
  try clear hfz23_1
  try clear hfz23_2
  try clear hfz23_3
  try clear hfz23_4
  try clear hfz8_0
  try clear hfz8_1
  try clear hfz8_2
  try clear hfz8_3
  try clear hfz8_4
  try clear hx113_0
  try clear hx113_1
  try clear hx113_2
  try clear hx113_3
  try clear hx113_4
  try clear hx119_0
  try clear hx119_1
  try clear hx119_2
  try clear hx119_3
  try clear hx119_4
  try clear p1
  try clear p113
  try clear p119
  try clear p2
  try clear p3
  try clear q1
  try clear q10
  try clear q113
  try clear q119
  obtain ⟨kq, x22_13, rfl, HA, HJ13, BK114, BK120, HB⟩ := hcut
  cases kq with
  | zero => exact absurd HA.out (by simp [sheet_apart.j2])
  | succ kj13 => ?_
  have H := HA.out
  clear HA
  simp only [sheet_apart.j2] at H
  by_cases c24 : x22_13 = true
  · subst c24
    have H1 : (sheet_apart.l1 kj13 l0 l0 (l0.length : Int) x9_1 y115 (y115.length : Int) (wrap64 (x18_2 + 1)) ((rd_T32 l0 x9_1).f0) ((rd_T32 l0 x9_1).f1) ((rd_T32 l0 x9_1).f2) ((rd_T32 l0 x9_1).f3) ((rd_T32 l0 x9_1).f4)) = some r := by rw [if_pos rfl] at H; exact H
    clear H
    have H := H1
    clear H1
    have H' := Aside0.mk H
    clear H
    go_wp2_with (first | go_step3 | go_in)
    go_roundg kj13
    case measure => have := HK1.out; have := HK2.out; have := HJ13.out; omega
    case rel => exact ⟨(wrap64 (x18_2 + 1)), (by first | rfl | (simp; done) | (simp [*]; done)), H', ⟨by have := HK1.out; have := HK2.out; have := HJ13.out; omega⟩, ⟨by (with_reducible repeat (first | refine blk_drewN ?_ _ | refine blk_drew ?_ | refine blk_alloc ?_ _)); exact BK114.out⟩, ⟨by repeat (first | (with_reducible first | exact HB.out | apply below_alloc | apply pw_below_drewN | apply below_drew1 | refine below_set ?_ GE114.out | refine below_set ?_ GE120.out) | exact HB.out)⟩⟩
  replace c24 := Bool.eq_false_iff.mpr c24
  subst c24
  have H1 : (if ((Op.bytesLess ((rd_T32 y115 x18_2).f3).toList ((rd_T32 l0 x9_1).f2).toList) = true) then (sheet_apart.l1 kj13 l0 l0 (l0.length : Int) x9_1 y115 (y115.length : Int) (wrap64 (x18_2 + 1)) ((rd_T32 l0 x9_1).f0) ((rd_T32 l0 x9_1).f1) ((rd_T32 l0 x9_1).f2) ((rd_T32 l0 x9_1).f3) ((rd_T32 l0 x9_1).f4)) else (if ((Op.bytesLess ((rd_T32 l0 x9_1).f3).toList ((rd_T32 y115 x18_2).f2).toList) = true) then (sheet_apart.l1 kj13 l0 l0 (l0.length : Int) x9_1 y115 (y115.length : Int) (wrap64 (x18_2 + 1)) ((rd_T32 l0 x9_1).f0) ((rd_T32 l0 x9_1).f1) ((rd_T32 l0 x9_1).f2) ((rd_T32 l0 x9_1).f3) ((rd_T32 l0 x9_1).f4)) else (some false))) = some r := by rw [if_neg (show ¬ (false = true) by decide)] at H; exact H
  clear H
  have H := H1
  clear H1
  by_cases c25 : ((Op.bytesLess ((rd_T32 y115 x18_2).f3).toList ((rd_T32 l0 x9_1).f2).toList) = true)
  · rw [if_pos c25] at H
    have c25b0 : (Op.bytesLess ((rd_T32 y115 x18_2).f3).toList ((rd_T32 l0 x9_1).f2).toList) = true := c25
    clear c25
    have H' := Aside0.mk H
    clear H
    have hnb26 := NB114_120.out
    have hnc26 := NB120_114.out
    have hcz27_0 : wc.cell? ⟨gb114, 0, none⟩ = some (.int .i64 ((rd_T32 l0 x9_1).f0)) := (blk_cell BK114.out 0).trans rfl
    have hcz27_1 : wc.cell? ⟨gb114, 1, none⟩ = some (.int .i64 ((rd_T32 l0 x9_1).f1)) := (blk_cell BK114.out 1).trans rfl
    have hcz27_2 : wc.cell? ⟨gb114, 2, none⟩ = some (.string ((rd_T32 l0 x9_1).f2)) := (blk_cell BK114.out 2).trans rfl
    have hcz27_3 : wc.cell? ⟨gb114, 3, none⟩ = some (.string ((rd_T32 l0 x9_1).f3)) := (blk_cell BK114.out 3).trans rfl
    have hcz27_4 : wc.cell? ⟨gb114, 4, none⟩ = some (.int .i64 ((rd_T32 l0 x9_1).f4)) := (blk_cell BK114.out 4).trans rfl
    have hfz27_0 := blk_frozen BK114.out 0
    have hfz27_1 := blk_frozen BK114.out 1
    have hfz27_2 := blk_frozen BK114.out 2
    have hfz27_3 := blk_frozen BK114.out 3
    have hfz27_4 := blk_frozen BK114.out 4
    have hcz28_0 : wc.cell? ⟨gb120, 0, none⟩ = some (.int .i64 ((rd_T32 y115 x18_2).f0)) := (blk_cell BK120.out 0).trans rfl
    have hcz28_1 : wc.cell? ⟨gb120, 1, none⟩ = some (.int .i64 ((rd_T32 y115 x18_2).f1)) := (blk_cell BK120.out 1).trans rfl
    have hcz28_2 : wc.cell? ⟨gb120, 2, none⟩ = some (.string ((rd_T32 y115 x18_2).f2)) := (blk_cell BK120.out 2).trans rfl
    have hcz28_3 : wc.cell? ⟨gb120, 3, none⟩ = some (.string ((rd_T32 y115 x18_2).f3)) := (blk_cell BK120.out 3).trans rfl
    have hcz28_4 : wc.cell? ⟨gb120, 4, none⟩ = some (.int .i64 ((rd_T32 y115 x18_2).f4)) := (blk_cell BK120.out 4).trans rfl
    have hfz28_0 := blk_frozen BK120.out 0
    have hfz28_1 := blk_frozen BK120.out 1
    have hfz28_2 := blk_frozen BK120.out 2
    have hfz28_3 := blk_frozen BK120.out 3
    have hfz28_4 := blk_frozen BK120.out 4
    go_wp2_with (first | go_step3 | go_in)
    go_roundg kj13
    case measure => have := HK1.out; have := HK2.out; have := HJ13.out; omega
    case rel => exact ⟨(wrap64 (x18_2 + 1)), (by first | rfl | (simp; done) | (simp [*]; done)), H', ⟨by have := HK1.out; have := HK2.out; have := HJ13.out; omega⟩, ⟨by (with_reducible repeat (first | refine blk_drewN ?_ _ | refine blk_drew ?_ | refine blk_alloc ?_ _)); exact BK114.out⟩, ⟨by repeat (first | (with_reducible first | exact HB.out | apply below_alloc | apply pw_below_drewN | apply below_drew1 | refine below_set ?_ GE114.out | refine below_set ?_ GE120.out) | exact HB.out)⟩⟩
  rw [if_neg c25] at H
  have c25b0 : (Op.bytesLess ((rd_T32 y115 x18_2).f3).toList ((rd_T32 l0 x9_1).f2).toList) = false := by simpa using c25
  clear c25
  by_cases c29 : ((Op.bytesLess ((rd_T32 l0 x9_1).f3).toList ((rd_T32 y115 x18_2).f2).toList) = true)
  rotate_left
  · rw [if_neg c29] at H
    have c29b0 : (Op.bytesLess ((rd_T32 l0 x9_1).f3).toList ((rd_T32 y115 x18_2).f2).toList) = false := by simpa using c29
    clear c29
    obtain rfl := Option.some.inj H
    have hnb33 := NB114_120.out
    have hnc33 := NB120_114.out
    have hcz34_0 : wc.cell? ⟨gb114, 0, none⟩ = some (.int .i64 ((rd_T32 l0 x9_1).f0)) := (blk_cell BK114.out 0).trans rfl
    have hcz34_1 : wc.cell? ⟨gb114, 1, none⟩ = some (.int .i64 ((rd_T32 l0 x9_1).f1)) := (blk_cell BK114.out 1).trans rfl
    have hcz34_2 : wc.cell? ⟨gb114, 2, none⟩ = some (.string ((rd_T32 l0 x9_1).f2)) := (blk_cell BK114.out 2).trans rfl
    have hcz34_3 : wc.cell? ⟨gb114, 3, none⟩ = some (.string ((rd_T32 l0 x9_1).f3)) := (blk_cell BK114.out 3).trans rfl
    have hcz34_4 : wc.cell? ⟨gb114, 4, none⟩ = some (.int .i64 ((rd_T32 l0 x9_1).f4)) := (blk_cell BK114.out 4).trans rfl
    have hfz34_0 := blk_frozen BK114.out 0
    have hfz34_1 := blk_frozen BK114.out 1
    have hfz34_2 := blk_frozen BK114.out 2
    have hfz34_3 := blk_frozen BK114.out 3
    have hfz34_4 := blk_frozen BK114.out 4
    have hcz35_0 : wc.cell? ⟨gb120, 0, none⟩ = some (.int .i64 ((rd_T32 y115 x18_2).f0)) := (blk_cell BK120.out 0).trans rfl
    have hcz35_1 : wc.cell? ⟨gb120, 1, none⟩ = some (.int .i64 ((rd_T32 y115 x18_2).f1)) := (blk_cell BK120.out 1).trans rfl
    have hcz35_2 : wc.cell? ⟨gb120, 2, none⟩ = some (.string ((rd_T32 y115 x18_2).f2)) := (blk_cell BK120.out 2).trans rfl
    have hcz35_3 : wc.cell? ⟨gb120, 3, none⟩ = some (.string ((rd_T32 y115 x18_2).f3)) := (blk_cell BK120.out 3).trans rfl
    have hcz35_4 : wc.cell? ⟨gb120, 4, none⟩ = some (.int .i64 ((rd_T32 y115 x18_2).f4)) := (blk_cell BK120.out 4).trans rfl
    have hfz35_0 := blk_frozen BK120.out 0
    have hfz35_1 := blk_frozen BK120.out 1
    have hfz35_2 := blk_frozen BK120.out 2
    have hfz35_3 := blk_frozen BK120.out 3
    have hfz35_4 := blk_frozen BK120.out 4
    go_wp2_with (first | go_step3 | go_in)
    ((try rw [Exit.noGoto_ret]); go_ret)
    exact ⟨by first | rfl | (simp [errW_none, errW_some] <;> rfl) | (simp [*, errW_none, errW_some] <;> rfl), by repeat (first | (with_reducible first | exact HB.out | apply below_alloc | apply pw_below_drewN | apply below_drew1 | refine below_set ?_ GE114.out | refine below_set ?_ GE120.out) | exact HB.out)⟩
  rw [if_pos c29] at H
  have c29b0 : (Op.bytesLess ((rd_T32 l0 x9_1).f3).toList ((rd_T32 y115 x18_2).f2).toList) = true := c29
  clear c29
  have H' := Aside0.mk H
  clear H
  have hnb30 := NB114_120.out
  have hnc30 := NB120_114.out
  have hcz31_0 : wc.cell? ⟨gb114, 0, none⟩ = some (.int .i64 ((rd_T32 l0 x9_1).f0)) := (blk_cell BK114.out 0).trans rfl
  have hcz31_1 : wc.cell? ⟨gb114, 1, none⟩ = some (.int .i64 ((rd_T32 l0 x9_1).f1)) := (blk_cell BK114.out 1).trans rfl
  have hcz31_2 : wc.cell? ⟨gb114, 2, none⟩ = some (.string ((rd_T32 l0 x9_1).f2)) := (blk_cell BK114.out 2).trans rfl
  have hcz31_3 : wc.cell? ⟨gb114, 3, none⟩ = some (.string ((rd_T32 l0 x9_1).f3)) := (blk_cell BK114.out 3).trans rfl
  have hcz31_4 : wc.cell? ⟨gb114, 4, none⟩ = some (.int .i64 ((rd_T32 l0 x9_1).f4)) := (blk_cell BK114.out 4).trans rfl
  have hfz31_0 := blk_frozen BK114.out 0
  have hfz31_1 := blk_frozen BK114.out 1
  have hfz31_2 := blk_frozen BK114.out 2
  have hfz31_3 := blk_frozen BK114.out 3
  have hfz31_4 := blk_frozen BK114.out 4
  have hcz32_0 : wc.cell? ⟨gb120, 0, none⟩ = some (.int .i64 ((rd_T32 y115 x18_2).f0)) := (blk_cell BK120.out 0).trans rfl
  have hcz32_1 : wc.cell? ⟨gb120, 1, none⟩ = some (.int .i64 ((rd_T32 y115 x18_2).f1)) := (blk_cell BK120.out 1).trans rfl
  have hcz32_2 : wc.cell? ⟨gb120, 2, none⟩ = some (.string ((rd_T32 y115 x18_2).f2)) := (blk_cell BK120.out 2).trans rfl
  have hcz32_3 : wc.cell? ⟨gb120, 3, none⟩ = some (.string ((rd_T32 y115 x18_2).f3)) := (blk_cell BK120.out 3).trans rfl
  have hcz32_4 : wc.cell? ⟨gb120, 4, none⟩ = some (.int .i64 ((rd_T32 y115 x18_2).f4)) := (blk_cell BK120.out 4).trans rfl
  have hfz32_0 := blk_frozen BK120.out 0
  have hfz32_1 := blk_frozen BK120.out 1
  have hfz32_2 := blk_frozen BK120.out 2
  have hfz32_3 := blk_frozen BK120.out 3
  have hfz32_4 := blk_frozen BK120.out 4
  go_wp2_with (first | go_step3 | go_in)
  go_roundg kj13
  case measure => have := HK1.out; have := HK2.out; have := HJ13.out; omega
  case rel => exact ⟨(wrap64 (x18_2 + 1)), (by first | rfl | (simp; done) | (simp [*]; done)), H', ⟨by have := HK1.out; have := HK2.out; have := HJ13.out; omega⟩, ⟨by (with_reducible repeat (first | refine blk_drewN ?_ _ | refine blk_drew ?_ | refine blk_alloc ?_ _)); exact BK114.out⟩, ⟨by repeat (first | (with_reducible first | exact HB.out | apply below_alloc | apply pw_below_drewN | apply below_drew1 | refine below_set ?_ GE114.out | refine below_set ?_ GE120.out) | exact HB.out)⟩⟩

end Go.Proofs.Ytmbedgopceigaaa.P
