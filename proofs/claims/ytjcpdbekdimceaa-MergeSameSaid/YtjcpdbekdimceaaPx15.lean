-- Printed by a changed copy of the kit's printer (wip/tools/ext.py); labels and more
import Derived.Test.YtjcpdbekdimceaaM0
import Derived.Test.YtjcpdbekdimceaaM3
import Derived.Test.YtjcpdbekdimceaaM5
import Derived.Test.YtjcpdbekdimceaaM6
import Derived.Test.YtjcpdbekdimceaaM7
import Derived.Test.YtjcpdbekdimceaaM9
import Derived.Test.YtjcpdbekdimceaaM10
namespace Go.Proofs.Ytjcpdbekdimceaa.P
open Go.RowKit Go.Proofs.YtjcpdbekdimceaaW.PrintWords Go.Proofs.YtjcpdbekdimceaaW.PrintLast Go.Proofs.YtjcpdbekdimceaaW.PrintMore
attribute [local go_sem] max2_int min2_int max_two min_two max_three min_three max_four min_four   -- for this text's walks alone
attribute [local go_sem high] string_leq string_geq string_gtr
set_option linter.unusedVariables false
set_option linter.unusedSimpArgs false

/-! ### ravelinref6_Newest: function 20 -/
mutual
def ravelinref6_Newest.l0 : Nat → List (S39) → ByteArray → Int → Int → Option (ByteArray × Int × Bool × ByteArray × Bool)
  | 0, _, _, _, _ => none
  | k + 1, x0, x1, x2, x8 => if x8 < (x0.length : Int) then ((ravelinref6_Sorted.f k x0).bind fun t309 => (ravelinref6_Newest.j1 k x0 x1 x2 x8 t309)) else (ravelinref6_Newest.j1 k x0 x1 x2 x8 false)
def ravelinref6_Newest.j1 : Nat → List (S39) → ByteArray → Int → Int → Bool → Option (ByteArray × Int × Bool × ByteArray × Bool)
  | 0, _, _, _, _, _ => none
  | k + 1, x0, x1, x2, x8, x16 => if x16 = true then (if 0 ≤ x8 then (if x8 < (x0.length : Int) then (if ((rd_T39 x0 x8).f0).toList = x1.toList then (if ((rd_T39 x0 x8).f1) ≤ x2 then (some ((rd_T39 x0 x8).f0, (rd_T39 x0 x8).f1, (rd_T39 x0 x8).f2, (rd_T39 x0 x8).f3, true)) else (ravelinref6_Newest.l0 k x0 x1 x2 (wrap64 (x8 + 1)))) else (ravelinref6_Newest.l0 k x0 x1 x2 (wrap64 (x8 + 1)))) else (none)) else (none)) else (some ((⟨#[]⟩ : ByteArray), 0, false, (⟨#[]⟩ : ByteArray), false))
end
def ravelinref6_Newest.f (k : Nat) (l0 : List (S39)) (a1 : ByteArray) (a2 : Int) : Option (ByteArray × Int × Bool × ByteArray × Bool) := ravelinref6_Newest.l0 k l0 a1 a2 0
theorem ravelinref6_Newest.mono_l : ∀ k, (∀ y0 y1 y2 y3, LeO (ravelinref6_Newest.l0 k y0 y1 y2 y3) (ravelinref6_Newest.l0 (k + 1) y0 y1 y2 y3)) ∧ (∀ y0 y1 y2 y3 y4, LeO (ravelinref6_Newest.j1 k y0 y1 y2 y3 y4) (ravelinref6_Newest.j1 (k + 1) y0 y1 y2 y3 y4))
  | 0 => ⟨fun _ _ _ _ r h => by simp [ravelinref6_Newest.l0] at h, fun _ _ _ _ _ r h => by simp [ravelinref6_Newest.j1] at h⟩
  | k + 1 => by
    obtain ⟨ih0, ih1⟩ := ravelinref6_Newest.mono_l k
    refine ⟨?_, ?_⟩
    all_goals
      intros
      first | unfold ravelinref6_Newest.l0 | unfold ravelinref6_Newest.j1
      repeat' first
      | (with_reducible exact ih0 _ _ _ _)
      | (with_reducible exact ih1 _ _ _ _ _)
      | (with_reducible exact ravelinref6_Sorted.mono _ _)
      | (with_reducible exact LeO.refl _)
      | (with_reducible exact LeO.none _)
      | (with_reducible refine LeO.ite ?_ ?_)
      | (with_reducible refine LeO.bind ?_ (fun _ => ?_))
      | exact ih0 _ _ _ _
      | exact ih1 _ _ _ _ _
      | exact ravelinref6_Sorted.mono _ _
      | exact LeO.none _
      | refine LeO.ite ?_ ?_
      | refine LeO.bind ?_ (fun _ => ?_)
theorem ravelinref6_Newest.mono : ∀ a0 a1 a2 k, LeO (ravelinref6_Newest.f k a0 a1 a2) (ravelinref6_Newest.f (k + 1) a0 a1 a2) := by
  intro a0 a1 a2 k
  obtain ⟨ih0, ih1⟩ := ravelinref6_Newest.mono_l k
  unfold ravelinref6_Newest.f
  repeat' first
      | (with_reducible exact ih0 _ _ _ _)
      | (with_reducible exact ih1 _ _ _ _ _)
      | (with_reducible exact ravelinref6_Sorted.mono _ _)
      | (with_reducible exact LeO.refl _)
      | (with_reducible exact LeO.none _)
      | (with_reducible refine LeO.ite ?_ ?_)
      | (with_reducible refine LeO.bind ?_ (fun _ => ?_))
      | exact ih0 _ _ _ _
      | exact ih1 _ _ _ _ _
      | exact ravelinref6_Sorted.mono _ _
      | exact LeO.none _
      | refine LeO.ite ?_ ?_
      | refine LeO.bind ?_ (fun _ => ?_)
set_option maxHeartbeats 8000000 in
set_option maxRecDepth 100000 in
theorem ravelinref6_Newest.calls (k : Nat) (A0 : Option Addr) (c0 : Nat) (l0 : List (S39)) (a1 : ByteArray) (a2 : Int) (r1 : ByteArray) (r2 : Int) (r3 : Bool) (r4 : ByteArray) (r5 : Bool) (w : World) (hr0 : Kd.C k39 w A0 l0.length l0) (hc0 : l0.length ≤ c0) (h : ravelinref6_Newest.f k l0 a1 a2 = some (r1, r2, r3, r4, r5)) :
    Calls Try.prog 20 #[.slice A0 l0.length c0, .string a1, .int .i64 a2] w fun e w' => e = .returned (.tuple #[.agg #[.string r1, .int .i64 r2, .bool r3, .string r4], .bool r5]) ∧ Below w.heap.size w w' := by
  have hu39 := Try.underlying39
  have HR0 := Aside0.mk hr0
  have HC0 := Aside0.mk hc0
  clear hr0 hc0
  have HB := Aside0.mk (Below.refl w.heap.size w)
  have H : (ravelinref6_Newest.l0 k l0 a1 a2 0) = some (r1, r2, r3, r4, r5) := h
  clear h
  have H' := Aside0.mk H
  clear H
  go_enter Try.func20, Try.ntmps20
  go_wp2_with (first | ((with_reducible refine gate_dst (N := 6) rfl ?_); refine box_event ?hg (N := 6) ?hd (cs := #[.string (⟨#[]⟩ : ByteArray), .int .i64 0, .bool false, .string (⟨#[]⟩ : ByteArray)]) (t := 39) ?hr ?_; (case hd => rfl); (case hg => rfl); (case hr => first | (go_simp; done) | (go_simp; rfl)); intro gb308 hg w4 hbox hb; have n0_ := Aside0.mk (below_step (by repeat (first | (with_reducible first | exact HB.out | apply below_alloc | apply pw_below_drewN | apply below_drew1) | exact HB.out)) hb); have n1_ := Aside0.mk (hbox); have n2_ := Aside0.mk ((by rw [hg]; exact (below_size (by repeat (first | (with_reducible first | exact HB.out | apply below_alloc | apply pw_below_drewN | apply below_drew1) | exact HB.out))) : w.heap.size ≤ gb308)); have n3_ := Aside0.mk ((by rw [hg]; exact (below_size (by repeat (first | (with_reducible first | exact HB.out | apply below_alloc | apply pw_below_drewN | apply below_drew1) | exact HB.out))) : w.heap.size ≤ gb308)); clear HB; have HB := n0_; have BK308 := n1_; have GW308 := n2_; have GE308 := n3_; clear n0_ n1_ n2_ n3_; clear hb hbox hg))
  go_loopg [8] k (fun kq v8 w' => ∃ (x8_1 : Int) (x309000_1 : ByteArray) (x309001_1 : Int) (x309002_1 : Bool) (x309003_1 : ByteArray), v8 = .int .i64 x8_1 ∧ Aside0 (ravelinref6_Newest.l0 kq l0 a1 a2 x8_1 = some (r1, r2, r3, r4, r5)) ∧ Aside0 (kq ≤ k) ∧ Aside0 (w'.heap[gb308]? = some (.cells #[.string x309000_1, .int .i64 x309001_1, .bool x309002_1, .string x309003_1] 39 (0, 0))) ∧ Aside0 (Below w.heap.size w w'))
  case atStart => exact ⟨(0), ((⟨#[]⟩ : ByteArray)), (0), (false), ((⟨#[]⟩ : ByteArray)), (by first | rfl | (simp; done) | (simp [*]; done)), H', ⟨Nat.le_refl _⟩, ⟨by (with_reducible repeat (first | refine blk_drewN ?_ _ | refine blk_drew ?_ | refine blk_alloc ?_ _)); exact BK308.out⟩, ⟨by repeat (first | (with_reducible first | exact HB.out | apply below_alloc | apply pw_below_drewN | apply below_drew1 | refine below_set ?_ GE308.out) | exact HB.out)⟩⟩
  clear H'
  try clear c2
  try clear p2
  obtain ⟨x8_1, x309000_1, x309001_1, x309002_1, x309003_1, rfl, HA, HK1, BK308, HB⟩ := hrel
  cases gk with
  | zero => exact absurd HA.out (by simp [ravelinref6_Newest.l0])
  | succ k1 => ?_
  have H := HA.out
  clear HA
  simp only [ravelinref6_Newest.l0] at H
  have HC5 := Aside0.mk H
  clear H
  go_upto_region 2 with (fail)
  go_cut [16] (fun v16 wc => ∃ (kq : Nat) (x16_4 : Bool), v16 = .bool x16_4 ∧ Aside0 (ravelinref6_Newest.j1 kq l0 a1 a2 x8_1 x16_4 = some (r1, r2, r3, r4, r5)) ∧ Aside0 (kq ≤ k1) ∧ Aside0 (wc.heap[gb308]? = some (.cells #[.string x309000_1, .int .i64 x309001_1, .bool x309002_1, .string x309003_1] 39 (0, 0))) ∧ Aside0 (Below w.heap.size w wc))
  case first =>
    have H := HC5.out
    clear HC5
    by_cases c6 : x8_1 < (l0.length : Int)
    rotate_left
    · rw [if_neg c6] at H
      have c6b0 : decide (x8_1 < (l0.length : Int)) = false := decide_eq_false c6
      clear c6
      (first | rw [c6b0] | (simp only [i64_w, i32_w]; rw [c6b0]) | skip)
      have H' := Aside0.mk H
      clear H
      go_wp2
      go_meet
      case rel => exact ⟨_, (false), (by first | rfl | (simp; done) | (simp [*]; done)), H', ⟨by have := HK1.out; first | omega | exact Nat.le_refl _⟩, ⟨by (with_reducible repeat (first | refine blk_drewN ?_ _ | refine blk_drew ?_ | refine blk_alloc ?_ _)); exact BK308.out⟩, ⟨by repeat (first | (with_reducible first | exact HB.out | apply below_alloc | apply pw_below_drewN | apply below_drew1 | refine below_set ?_ GE308.out) | exact HB.out)⟩⟩
    rw [if_pos c6] at H
    have c6b0 : decide (x8_1 < (l0.length : Int)) = true := decide_eq_true c6
    clear c6
    (first | rw [c6b0] | (simp only [i64_w, i32_w]; rw [c6b0]) | skip)
    replace H := Option.bind_eq_some_iff.mp H
    obtain ⟨t309, A70, H⟩ := H
    replace H : (ravelinref6_Newest.j1 k1 l0 a1 a2 x8_1 t309) = some (r1, r2, r3, r4, r5) := H
    have A7 := Aside0.mk A70
    clear A70
    have H' := Aside0.mk H
    clear H
    go_wp2_with (first | (go_at_call 18; (with_reducible refine (ravelinref6_Sorted.calls k1 _ _ l0 t309 _ ?side1 ?side2 A7.out).mono ?_); (case side1 => repeat (first | exact (Kd.C_below HR0.out HB.out) | (with_reducible refine Kd.C_alloc ?_ _) | (with_reducible refine Kd.C_drewN ?_ _) | (with_reducible refine Kd.C_drew ?_))); (case side2 => exact HC0.out); rintro e w8 ⟨rfl, hb⟩; have n0_ := Aside0.mk (blk_below (g := gb308) (o := .cells #[.string x309000_1, .int .i64 x309001_1, .bool x309002_1, .string x309003_1] 39 (0, 0)) (by (with_reducible repeat (first | refine blk_drewN ?_ _ | refine blk_drew ?_ | refine blk_alloc ?_ _)); exact BK308.out) hb); have n1_ := Aside0.mk (below_step (by repeat (first | (with_reducible first | exact HB.out | apply below_alloc | apply pw_below_drewN | apply below_drew1 | refine below_set ?_ GE308.out) | exact HB.out)) hb); clear BK308; clear HB; have BK308 := n0_; have HB := n1_; clear n0_ n1_; (try clear hb); (try clear hb2); (try clear hk); (try clear hi)))
    go_meet
    case rel => exact ⟨_, (t309), (by first | rfl | (simp; done) | (simp [*]; done)), H', ⟨by have := HK1.out; first | omega | exact Nat.le_refl _⟩, ⟨by (with_reducible repeat (first | refine blk_drewN ?_ _ | refine blk_drew ?_ | refine blk_alloc ?_ _)); exact BK308.out⟩, ⟨by repeat (first | (with_reducible first | exact HB.out | apply below_alloc | apply pw_below_drewN | apply below_drew1 | refine below_set ?_ GE308.out) | exact HB.out)⟩⟩
  clear HC5
  try clear c2
  try clear p2
  try clear c6
  try clear c6b0
  try clear p2
  obtain ⟨kq, x16_4, rfl, HA, HJ4, BK308, HB⟩ := hcut
  cases kq with
  | zero => exact absurd HA.out (by simp [ravelinref6_Newest.j1])
  | succ kj4 => ?_
  have H := HA.out
  clear HA
  simp only [ravelinref6_Newest.j1] at H
  by_cases c9 : x16_4 = true
  rotate_left
  · replace c9 := Bool.eq_false_iff.mpr c9
    subst c9
    have H1 : (some ((⟨#[]⟩ : ByteArray), 0, false, (⟨#[]⟩ : ByteArray), false)) = some (r1, r2, r3, r4, r5) := by rw [if_neg (show ¬ (false = true) by decide)] at H; exact H
    clear H
    have H := H1
    clear H1
    simp only [Option.some.injEq, Prod.mk.injEq] at H
    obtain ⟨rfl, rfl, rfl, rfl, rfl⟩ := H
    have hcz15_0 : wc.cell? ⟨gb308, 0, none⟩ = some (.string x309000_1) := (blk_cell BK308.out 0).trans rfl
    have hcz15_1 : wc.cell? ⟨gb308, 1, none⟩ = some (.int .i64 x309001_1) := (blk_cell BK308.out 1).trans rfl
    have hcz15_2 : wc.cell? ⟨gb308, 2, none⟩ = some (.bool x309002_1) := (blk_cell BK308.out 2).trans rfl
    have hcz15_3 : wc.cell? ⟨gb308, 3, none⟩ = some (.string x309003_1) := (blk_cell BK308.out 3).trans rfl
    have hfz15_0 := blk_frozen BK308.out 0
    have hfz15_1 := blk_frozen BK308.out 1
    have hfz15_2 := blk_frozen BK308.out 2
    have hfz15_3 := blk_frozen BK308.out 3
    go_wp2
    refine bodyPost_ret (results_ct rfl _ _ gb308 39 #[.string (⟨#[]⟩ : ByteArray), .int .i64 0, .bool false, .string (⟨#[]⟩ : ByteArray)] (0, 0) _ rfl (by (with_reducible repeat (first | refine blk_drewN ?_ _ | refine blk_drew ?_ | refine blk_alloc ?_ _)); refine blk_put (cs := #[.string (⟨#[]⟩ : ByteArray), .int .i64 0, .bool false, .string x309003_1]) ?_ 3 _ rfl; (with_reducible repeat (first | refine blk_drewN ?_ _ | refine blk_drew ?_ | refine blk_alloc ?_ _)); refine blk_put (cs := #[.string (⟨#[]⟩ : ByteArray), .int .i64 0, .bool x309002_1, .string x309003_1]) ?_ 2 _ rfl; (with_reducible repeat (first | refine blk_drewN ?_ _ | refine blk_drew ?_ | refine blk_alloc ?_ _)); refine blk_put (cs := #[.string (⟨#[]⟩ : ByteArray), .int .i64 x309001_1, .bool x309002_1, .string x309003_1]) ?_ 1 _ rfl; (with_reducible repeat (first | refine blk_drewN ?_ _ | refine blk_drew ?_ | refine blk_alloc ?_ _)); refine blk_put (cs := #[.string x309000_1, .int .i64 x309001_1, .bool x309002_1, .string x309003_1]) ?_ 0 _ rfl; (with_reducible repeat (first | refine blk_drewN ?_ _ | refine blk_drew ?_ | refine blk_alloc ?_ _)); exact BK308.out) Try.underlying39 rfl (by kernel_rfl)) rfl ?_
    exact ⟨by first | rfl | (simp [errW_none, errW_some] <;> rfl) | (simp [*, errW_none, errW_some] <;> rfl), by repeat (first | (with_reducible first | exact HB.out | apply below_alloc | apply pw_below_drewN | apply below_drew1 | refine below_set ?_ GE308.out) | exact HB.out)⟩
  subst c9
  have H1 : (if 0 ≤ x8_1 then (if x8_1 < (l0.length : Int) then (if ((rd_T39 l0 x8_1).f0).toList = a1.toList then (if ((rd_T39 l0 x8_1).f1) ≤ a2 then (some ((rd_T39 l0 x8_1).f0, (rd_T39 l0 x8_1).f1, (rd_T39 l0 x8_1).f2, (rd_T39 l0 x8_1).f3, true)) else (ravelinref6_Newest.l0 kj4 l0 a1 a2 (wrap64 (x8_1 + 1)))) else (ravelinref6_Newest.l0 kj4 l0 a1 a2 (wrap64 (x8_1 + 1)))) else (none)) else (none)) = some (r1, r2, r3, r4, r5) := by rw [if_pos rfl] at H; exact H
  clear H
  have H := H1
  clear H1
  by_cases c10 : 0 ≤ x8_1
  rotate_left
  · rw [if_neg c10] at H
    exact absurd H (by simp)
  rw [if_pos c10] at H
  have c10b0 : decide (0 ≤ x8_1) = true := decide_eq_true c10
  clear c10
  by_cases c11 : x8_1 < (l0.length : Int)
  rotate_left
  · rw [if_neg c11] at H
    exact absurd H (by simp)
  rw [if_pos c11] at H
  have c11b0 : decide (x8_1 < (l0.length : Int)) = true := decide_eq_true c11
  clear c11
  by_cases c12 : ((rd_T39 l0 x8_1).f0).toList = a1.toList
  rotate_left
  · rw [if_neg c12] at H
    have c12b0 : (((rd_T39 l0 x8_1).f0).toList == a1.toList) = false := beq_eq_false_iff_ne.mpr c12
    have c12b1 : (((rd_T39 l0 x8_1).f0).toList != a1.toList) = true := bne_iff_ne.mpr c12
    have H' := Aside0.mk H
    clear H
    have p310 : 0 ≤ (x8_1 : Int) := of_decide_eq_true (by first | (with_reducible assumption) | assumption)
    have q310 : x8_1 < (l0.length : Int) := of_decide_eq_true (by first | (with_reducible assumption) | assumption)
    obtain ⟨ad310, e310, hx310_0, hx310_1, hx310_2, hx310_3⟩ := at_T39 HR0.out x8_1 p310 q310
    cases e310
    replace hx310_0 := (HB.out.cell (World.block_lt_of_cell? w _ hx310_0)).trans hx310_0
    replace hx310_1 := (HB.out.cell (World.block_lt_of_cell? w _ hx310_1)).trans hx310_1
    replace hx310_2 := (HB.out.cell (World.block_lt_of_cell? w _ hx310_2)).trans hx310_2
    replace hx310_3 := (HB.out.cell (World.block_lt_of_cell? w _ hx310_3)).trans hx310_3
    replace p310 := eq_true p310
    replace q310 := eq_true q310
    go_wp2
    go_roundg kj4
    case measure => have := HK1.out; have := HJ4.out; omega
    case rel => exact ⟨(wrap64 (x8_1 + 1)), (x309000_1), (x309001_1), (x309002_1), (x309003_1), (by first | rfl | (simp; done) | (simp [*]; done)), H', ⟨by have := HK1.out; have := HJ4.out; omega⟩, ⟨by (with_reducible repeat (first | refine blk_drewN ?_ _ | refine blk_drew ?_ | refine blk_alloc ?_ _)); exact BK308.out⟩, ⟨by repeat (first | (with_reducible first | exact HB.out | apply below_alloc | apply pw_below_drewN | apply below_drew1 | refine below_set ?_ GE308.out) | exact HB.out)⟩⟩
  rw [if_pos c12] at H
  have c12b0 : (((rd_T39 l0 x8_1).f0).toList == a1.toList) = true := beq_iff_eq.mpr c12
  have c12b1 : (((rd_T39 l0 x8_1).f0).toList != a1.toList) = false := bne_eq_false_iff_eq.mpr c12
  clear c12
  by_cases c13 : ((rd_T39 l0 x8_1).f1) ≤ a2
  rotate_left
  · rw [if_neg c13] at H
    have c13b0 : decide (((rd_T39 l0 x8_1).f1) ≤ a2) = false := decide_eq_false c13
    clear c13
    have H' := Aside0.mk H
    clear H
    have p310 : 0 ≤ (x8_1 : Int) := of_decide_eq_true (by first | (with_reducible assumption) | assumption)
    have q310 : x8_1 < (l0.length : Int) := of_decide_eq_true (by first | (with_reducible assumption) | assumption)
    obtain ⟨ad310, e310, hx310_0, hx310_1, hx310_2, hx310_3⟩ := at_T39 HR0.out x8_1 p310 q310
    cases e310
    replace hx310_0 := (HB.out.cell (World.block_lt_of_cell? w _ hx310_0)).trans hx310_0
    replace hx310_1 := (HB.out.cell (World.block_lt_of_cell? w _ hx310_1)).trans hx310_1
    replace hx310_2 := (HB.out.cell (World.block_lt_of_cell? w _ hx310_2)).trans hx310_2
    replace hx310_3 := (HB.out.cell (World.block_lt_of_cell? w _ hx310_3)).trans hx310_3
    replace p310 := eq_true p310
    replace q310 := eq_true q310
    have p311 : 0 ≤ (x8_1 : Int) := of_decide_eq_true (by first | (with_reducible assumption) | assumption)
    have q311 : x8_1 < (l0.length : Int) := of_decide_eq_true (by first | (with_reducible assumption) | assumption)
    obtain ⟨ad311, e311, hx311_0, hx311_1, hx311_2, hx311_3⟩ := at_T39 HR0.out x8_1 p311 q311
    obtain rfl : ad310 = ad311 := (by injection e311)
    replace hx311_0 := (HB.out.cell (World.block_lt_of_cell? w _ hx311_0)).trans hx311_0
    replace hx311_1 := (HB.out.cell (World.block_lt_of_cell? w _ hx311_1)).trans hx311_1
    replace hx311_2 := (HB.out.cell (World.block_lt_of_cell? w _ hx311_2)).trans hx311_2
    replace hx311_3 := (HB.out.cell (World.block_lt_of_cell? w _ hx311_3)).trans hx311_3
    replace p311 := eq_true p311
    replace q311 := eq_true q311
    go_wp2
    go_roundg kj4
    case measure => have := HK1.out; have := HJ4.out; omega
    case rel => exact ⟨(wrap64 (x8_1 + 1)), (x309000_1), (x309001_1), (x309002_1), (x309003_1), (by first | rfl | (simp; done) | (simp [*]; done)), H', ⟨by have := HK1.out; have := HJ4.out; omega⟩, ⟨by (with_reducible repeat (first | refine blk_drewN ?_ _ | refine blk_drew ?_ | refine blk_alloc ?_ _)); exact BK308.out⟩, ⟨by repeat (first | (with_reducible first | exact HB.out | apply below_alloc | apply pw_below_drewN | apply below_drew1 | refine below_set ?_ GE308.out) | exact HB.out)⟩⟩
  rw [if_pos c13] at H
  have c13b0 : decide (((rd_T39 l0 x8_1).f1) ≤ a2) = true := decide_eq_true c13
  clear c13
  simp only [Option.some.injEq, Prod.mk.injEq] at H
  obtain ⟨rfl, rfl, rfl, rfl, rfl⟩ := H
  have p310 : 0 ≤ (x8_1 : Int) := of_decide_eq_true (by first | (with_reducible assumption) | assumption)
  have q310 : x8_1 < (l0.length : Int) := of_decide_eq_true (by first | (with_reducible assumption) | assumption)
  obtain ⟨ad310, e310, hx310_0, hx310_1, hx310_2, hx310_3⟩ := at_T39 HR0.out x8_1 p310 q310
  cases e310
  replace hx310_0 := (HB.out.cell (World.block_lt_of_cell? w _ hx310_0)).trans hx310_0
  replace hx310_1 := (HB.out.cell (World.block_lt_of_cell? w _ hx310_1)).trans hx310_1
  replace hx310_2 := (HB.out.cell (World.block_lt_of_cell? w _ hx310_2)).trans hx310_2
  replace hx310_3 := (HB.out.cell (World.block_lt_of_cell? w _ hx310_3)).trans hx310_3
  replace p310 := eq_true p310
  replace q310 := eq_true q310
  have p311 : 0 ≤ (x8_1 : Int) := of_decide_eq_true (by first | (with_reducible assumption) | assumption)
  have q311 : x8_1 < (l0.length : Int) := of_decide_eq_true (by first | (with_reducible assumption) | assumption)
  obtain ⟨ad311, e311, hx311_0, hx311_1, hx311_2, hx311_3⟩ := at_T39 HR0.out x8_1 p311 q311
  obtain rfl : ad310 = ad311 := (by injection e311)
  replace hx311_0 := (HB.out.cell (World.block_lt_of_cell? w _ hx311_0)).trans hx311_0
  replace hx311_1 := (HB.out.cell (World.block_lt_of_cell? w _ hx311_1)).trans hx311_1
  replace hx311_2 := (HB.out.cell (World.block_lt_of_cell? w _ hx311_2)).trans hx311_2
  replace hx311_3 := (HB.out.cell (World.block_lt_of_cell? w _ hx311_3)).trans hx311_3
  replace p311 := eq_true p311
  replace q311 := eq_true q311
  have p312 : 0 ≤ (x8_1 : Int) := of_decide_eq_true (by first | (with_reducible assumption) | assumption)
  have q312 : x8_1 < (l0.length : Int) := of_decide_eq_true (by first | (with_reducible assumption) | assumption)
  obtain ⟨ad312, e312, hx312_0, hx312_1, hx312_2, hx312_3⟩ := at_T39 HR0.out x8_1 p312 q312
  obtain rfl : ad310 = ad312 := (by injection e312)
  replace hx312_0 := (HB.out.cell (World.block_lt_of_cell? w _ hx312_0)).trans hx312_0
  replace hx312_1 := (HB.out.cell (World.block_lt_of_cell? w _ hx312_1)).trans hx312_1
  replace hx312_2 := (HB.out.cell (World.block_lt_of_cell? w _ hx312_2)).trans hx312_2
  replace hx312_3 := (HB.out.cell (World.block_lt_of_cell? w _ hx312_3)).trans hx312_3
  replace p312 := eq_true p312
  replace q312 := eq_true q312
  have hcz14_0 : wc.cell? ⟨gb308, 0, none⟩ = some (.string x309000_1) := (blk_cell BK308.out 0).trans rfl
  have hcz14_1 : wc.cell? ⟨gb308, 1, none⟩ = some (.int .i64 x309001_1) := (blk_cell BK308.out 1).trans rfl
  have hcz14_2 : wc.cell? ⟨gb308, 2, none⟩ = some (.bool x309002_1) := (blk_cell BK308.out 2).trans rfl
  have hcz14_3 : wc.cell? ⟨gb308, 3, none⟩ = some (.string x309003_1) := (blk_cell BK308.out 3).trans rfl
  have hfz14_0 := blk_frozen BK308.out 0
  have hfz14_1 := blk_frozen BK308.out 1
  have hfz14_2 := blk_frozen BK308.out 2
  have hfz14_3 := blk_frozen BK308.out 3
  go_wp2
  refine bodyPost_ret (results_ct rfl _ _ gb308 39 #[.string ((rd_T39 l0 x8_1).f0), .int .i64 ((rd_T39 l0 x8_1).f1), .bool ((rd_T39 l0 x8_1).f2), .string ((rd_T39 l0 x8_1).f3)] (0, 0) _ rfl (by (with_reducible repeat (first | refine blk_drewN ?_ _ | refine blk_drew ?_ | refine blk_alloc ?_ _)); refine blk_put (cs := #[.string ((rd_T39 l0 x8_1).f0), .int .i64 ((rd_T39 l0 x8_1).f1), .bool ((rd_T39 l0 x8_1).f2), .string x309003_1]) ?_ 3 _ rfl; (with_reducible repeat (first | refine blk_drewN ?_ _ | refine blk_drew ?_ | refine blk_alloc ?_ _)); refine blk_put (cs := #[.string ((rd_T39 l0 x8_1).f0), .int .i64 ((rd_T39 l0 x8_1).f1), .bool x309002_1, .string x309003_1]) ?_ 2 _ rfl; (with_reducible repeat (first | refine blk_drewN ?_ _ | refine blk_drew ?_ | refine blk_alloc ?_ _)); refine blk_put (cs := #[.string ((rd_T39 l0 x8_1).f0), .int .i64 x309001_1, .bool x309002_1, .string x309003_1]) ?_ 1 _ rfl; (with_reducible repeat (first | refine blk_drewN ?_ _ | refine blk_drew ?_ | refine blk_alloc ?_ _)); refine blk_put (cs := #[.string x309000_1, .int .i64 x309001_1, .bool x309002_1, .string x309003_1]) ?_ 0 _ rfl; (with_reducible repeat (first | refine blk_drewN ?_ _ | refine blk_drew ?_ | refine blk_alloc ?_ _)); exact BK308.out) Try.underlying39 rfl (by kernel_rfl)) rfl ?_
  exact ⟨by first | rfl | (simp [errW_none, errW_some] <;> rfl) | (simp [*, errW_none, errW_some] <;> rfl), by repeat (first | (with_reducible first | exact HB.out | apply below_alloc | apply pw_below_drewN | apply below_drew1 | refine below_set ?_ GE308.out) | exact HB.out)⟩
attribute [local go_sem high] eqA39
/-! ### ravelinlaw11_MergeSame: function 4 -/
mutual
def ravelinlaw11_MergeSame.j0 : Nat → List (S39) → List Int → Bool → Bool → Option (Bool)
  | 0, _, _, _, _ => none
  | k + 1, x0, x1, x2, x27 => if x27 = true then (some true) else (ravelinlaw11_MergeSame.l0 k x0 x1 x2 0)
def ravelinlaw11_MergeSame.l0 : Nat → List (S39) → List Int → Bool → Int → Option (Bool)
  | 0, _, _, _, _ => none
  | k + 1, x0, x1, x2, x7 => if x7 < (x0.length : Int) then (if 0 ≤ x7 then ((ravelinref6_Is.f ((rd_T39 x0 x7).f0) ((rd_T39 x0 x7).f1) ((rd_T39 x0 x7).f2) ((rd_T39 x0 x7).f3)).bind fun t317 => (if t317 = true then (ravelinlaw11_MergeSame.l0 k x0 x1 x2 (wrap64 (x7 + 1))) else (some true))) else (none)) else ((merge_Pack.f k x0 x1 x2).bind fun t318 => ((ravelinref6_Sorted.f k t318).bind fun t321 => (if t321 = true then (if (t318.length : Int) > (x0.length : Int) then (ravelinlaw11_MergeSame.j2 k x0 x1 t318 true) else ((merge_Visible.f k t318 1000000).bind fun t322 => ((merge_Visible.f k x0 1000000).bind fun t325 => ((ravelinref6_Same.f k t322 t325).bind fun t328 => (ravelinlaw11_MergeSame.j2 k x0 x1 t318 (!t328)))))) else (ravelinlaw11_MergeSame.j2 k x0 x1 t318 true))))
def ravelinlaw11_MergeSame.j2 : Nat → List (S39) → List Int → List (S39) → Bool → Option (Bool)
  | 0, _, _, _, _ => none
  | k + 1, x0, x1, x8, x61 => if x61 = true then (some false) else (ravelinlaw11_MergeSame.l1 k x0 x1 x8 0)
def ravelinlaw11_MergeSame.l1 : Nat → List (S39) → List Int → List (S39) → Int → Option (Bool)
  | 0, _, _, _, _ => none
  | k + 1, x0, x1, x8, x9 => if x9 < (x1.length : Int) then (if 0 ≤ x9 then ((merge_Visible.f k x8 (rd x1 x9)).bind fun t330 => ((merge_Visible.f k x0 (rd x1 x9)).bind fun t334 => ((ravelinref6_Same.f k t330 t334).bind fun t337 => (if t337 = true then (ravelinlaw11_MergeSame.l1 k x0 x1 x8 (wrap64 (x9 + 1))) else (some false))))) else (none)) else (ravelinlaw11_MergeSame.l2 k x0 x8 0)
def ravelinlaw11_MergeSame.l2 : Nat → List (S39) → List (S39) → Int → Option (Bool)
  | 0, _, _, _ => none
  | k + 1, x0, x8, x10 => if x10 < (x8.length : Int) then (if 0 ≤ x10 then ((ravelinref6_Newest.f k x0 ((rd_T39 x8 x10).f0) ((rd_T39 x8 x10).f1)).bind fun bt340 => (if bt340.2.2.2.2 = true then (if (!(bt340.1.toList == (((rd_T39 x8 x10).f0).toList)) || (!(bt340.2.1 == ((rd_T39 x8 x10).f1)) || (!(bt340.2.2.1 == ((rd_T39 x8 x10).f2)) || (!(bt340.2.2.2.1.toList == (((rd_T39 x8 x10).f3).toList)))))) = true then (some false) else (ravelinlaw11_MergeSame.l2 k x0 x8 (wrap64 (x10 + 1)))) else (some false))) else (none)) else (some true)
end
def ravelinlaw11_MergeSame.f (k : Nat) (l0 : List (S39)) (l1 : List Int) (a2 : Bool) : Option (Bool) := (ravelinlaw11_known.f k).bind fun t313 => (if t313 = true then ((ravelinlaw11_few.f k l0).bind fun t314 => (if t314 = true then (if (l1.length : Int) > 10 then (ravelinlaw11_MergeSame.j0 k l0 l1 a2 true) else ((ravelinref6_Sorted.f k l0).bind fun t315 => (ravelinlaw11_MergeSame.j0 k l0 l1 a2 (!t315)))) else (ravelinlaw11_MergeSame.j0 k l0 l1 a2 true))) else (some false))
theorem ravelinlaw11_MergeSame.mono_l : ∀ k, (∀ y0 y1 y2 y3, LeO (ravelinlaw11_MergeSame.j0 k y0 y1 y2 y3) (ravelinlaw11_MergeSame.j0 (k + 1) y0 y1 y2 y3)) ∧ (∀ y0 y1 y2 y3, LeO (ravelinlaw11_MergeSame.l0 k y0 y1 y2 y3) (ravelinlaw11_MergeSame.l0 (k + 1) y0 y1 y2 y3)) ∧ (∀ y0 y1 y2 y3, LeO (ravelinlaw11_MergeSame.j2 k y0 y1 y2 y3) (ravelinlaw11_MergeSame.j2 (k + 1) y0 y1 y2 y3)) ∧ (∀ y0 y1 y2 y3, LeO (ravelinlaw11_MergeSame.l1 k y0 y1 y2 y3) (ravelinlaw11_MergeSame.l1 (k + 1) y0 y1 y2 y3)) ∧ (∀ y0 y1 y2, LeO (ravelinlaw11_MergeSame.l2 k y0 y1 y2) (ravelinlaw11_MergeSame.l2 (k + 1) y0 y1 y2))
  | 0 => ⟨fun _ _ _ _ r h => by simp [ravelinlaw11_MergeSame.j0] at h, fun _ _ _ _ r h => by simp [ravelinlaw11_MergeSame.l0] at h, fun _ _ _ _ r h => by simp [ravelinlaw11_MergeSame.j2] at h, fun _ _ _ _ r h => by simp [ravelinlaw11_MergeSame.l1] at h, fun _ _ _ r h => by simp [ravelinlaw11_MergeSame.l2] at h⟩
  | k + 1 => by
    obtain ⟨ih0, ih1, ih2, ih3, ih4⟩ := ravelinlaw11_MergeSame.mono_l k
    refine ⟨?_, ?_, ?_, ?_, ?_⟩
    all_goals
      intros
      first | unfold ravelinlaw11_MergeSame.j0 | unfold ravelinlaw11_MergeSame.l0 | unfold ravelinlaw11_MergeSame.j2 | unfold ravelinlaw11_MergeSame.l1 | unfold ravelinlaw11_MergeSame.l2
      repeat' first
      | (with_reducible exact ih0 _ _ _ _)
      | (with_reducible exact ih1 _ _ _ _)
      | (with_reducible exact ih2 _ _ _ _)
      | (with_reducible exact ih3 _ _ _ _)
      | (with_reducible exact ih4 _ _ _)
      | (with_reducible exact merge_Pack.mono _ _ _ _)
      | (with_reducible exact merge_Visible.mono _ _ _)
      | (with_reducible exact ravelinlaw11_few.mono _ _)
      | (with_reducible exact ravelinlaw11_known.mono _)
      | (with_reducible exact ravelinref6_Newest.mono _ _ _ _)
      | (with_reducible exact ravelinref6_Same.mono _ _ _)
      | (with_reducible exact ravelinref6_Sorted.mono _ _)
      | (with_reducible exact LeO.refl _)
      | (with_reducible exact LeO.none _)
      | (with_reducible refine LeO.ite ?_ ?_)
      | (with_reducible refine LeO.bind ?_ (fun _ => ?_))
      | exact ih0 _ _ _ _
      | exact ih1 _ _ _ _
      | exact ih2 _ _ _ _
      | exact ih3 _ _ _ _
      | exact ih4 _ _ _
      | exact merge_Pack.mono _ _ _ _
      | exact merge_Visible.mono _ _ _
      | exact ravelinlaw11_few.mono _ _
      | exact ravelinlaw11_known.mono _
      | exact ravelinref6_Newest.mono _ _ _ _
      | exact ravelinref6_Same.mono _ _ _
      | exact ravelinref6_Sorted.mono _ _
      | exact LeO.none _
      | refine LeO.ite ?_ ?_
      | refine LeO.bind ?_ (fun _ => ?_)
theorem ravelinlaw11_MergeSame.mono : ∀ a0 a1 a2 k, LeO (ravelinlaw11_MergeSame.f k a0 a1 a2) (ravelinlaw11_MergeSame.f (k + 1) a0 a1 a2) := by
  intro a0 a1 a2 k
  obtain ⟨ih0, ih1, ih2, ih3, ih4⟩ := ravelinlaw11_MergeSame.mono_l k
  unfold ravelinlaw11_MergeSame.f
  repeat' first
      | (with_reducible exact ih0 _ _ _ _)
      | (with_reducible exact ih1 _ _ _ _)
      | (with_reducible exact ih2 _ _ _ _)
      | (with_reducible exact ih3 _ _ _ _)
      | (with_reducible exact ih4 _ _ _)
      | (with_reducible exact merge_Pack.mono _ _ _ _)
      | (with_reducible exact merge_Visible.mono _ _ _)
      | (with_reducible exact ravelinlaw11_few.mono _ _)
      | (with_reducible exact ravelinlaw11_known.mono _)
      | (with_reducible exact ravelinref6_Newest.mono _ _ _ _)
      | (with_reducible exact ravelinref6_Same.mono _ _ _)
      | (with_reducible exact ravelinref6_Sorted.mono _ _)
      | (with_reducible exact LeO.refl _)
      | (with_reducible exact LeO.none _)
      | (with_reducible refine LeO.ite ?_ ?_)
      | (with_reducible refine LeO.bind ?_ (fun _ => ?_))
      | exact ih0 _ _ _ _
      | exact ih1 _ _ _ _
      | exact ih2 _ _ _ _
      | exact ih3 _ _ _ _
      | exact ih4 _ _ _
      | exact merge_Pack.mono _ _ _ _
      | exact merge_Visible.mono _ _ _
      | exact ravelinlaw11_few.mono _ _
      | exact ravelinlaw11_known.mono _
      | exact ravelinref6_Newest.mono _ _ _ _
      | exact ravelinref6_Same.mono _ _ _
      | exact ravelinref6_Sorted.mono _ _
      | exact LeO.none _
      | refine LeO.ite ?_ ?_
      | refine LeO.bind ?_ (fun _ => ?_)
def ravelinlaw11_MergeSame.T16 : Bool × List (List Nat × List Nat) := (true, [([], []), ([], []), ([], []), ([1, 2], [1, 2]), ([3], [3]), ([0, 4], [0, 4]), ([], []), ([], []), ([], []), ([7, 8], [7, 8]), ([9], [9]), ([6, 10, 5], [6, 10]), ([5, 11, 11], [5, 11]), ([12], [12])])
def ravelinlaw11_MergeSame.B16 : List Nat := [0, 0, 0, 6, 14, 31, 0, 0, 0, 384, 896, 2047, 4095, 8191]
theorem ravelinlaw11_MergeSame.tab16 : rtab .any (opsOf Try.f4 16) = ravelinlaw11_MergeSame.T16 := by kernel_rfl
theorem ravelinlaw11_MergeSame.bits16 : waitsOk ravelinlaw11_MergeSame.T16.2 ravelinlaw11_MergeSame.B16 = true := by kernel_rfl
def ravelinlaw11_MergeSame.T21 : Bool × List (List Nat × List Nat) := (true, [([], []), ([], []), ([], []), ([1, 2], [1, 2]), ([3], [3]), ([4], [4]), ([], []), ([], []), ([6, 7], [6, 7]), ([8], [8]), ([9], [9]), ([0, 5, 10], [0, 5, 10]), ([11], [11]), ([12], [12]), ([12], [12]), ([], []), ([15, 13, 11, 0, 1, 2, 3, 4, 5, 6, 7, 8, 9, 10, 11, 12, 13, 15], [13, 15]), ([14, 16, 0, 1, 2, 3, 4, 5, 6, 7, 8, 9, 10, 11, 12, 13, 14, 15, 16], [14])])
def ravelinlaw11_MergeSame.B21 : List Nat := [0, 0, 0, 6, 14, 30, 0, 0, 192, 448, 960, 2047, 4095, 8191, 8191, 0, 49151, 131071]
theorem ravelinlaw11_MergeSame.tab21 : rtab .any (opsOf Try.f4 21) = ravelinlaw11_MergeSame.T21 := by kernel_rfl
theorem ravelinlaw11_MergeSame.bits21 : waitsOk ravelinlaw11_MergeSame.T21.2 ravelinlaw11_MergeSame.B21 = true := by kernel_rfl
def ravelinlaw11_MergeSame.T22 : Bool × List (List Nat × List Nat) := (true, [([], []), ([0], [0]), ([1], [1]), ([2], [2]), ([2], [2]), ([2], [2]), ([4, 5, 2], [2, 4, 5]), ([6, 2], [2, 6]), ([3, 7, 2], [2, 3, 7]), ([2, 8], [2, 8])])
def ravelinlaw11_MergeSame.B22 : List Nat := [0, 1, 3, 7, 7, 7, 55, 119, 255, 511]
theorem ravelinlaw11_MergeSame.tab22 : rtab .any (opsOf Try.f4 22) = ravelinlaw11_MergeSame.T22 := by kernel_rfl
theorem ravelinlaw11_MergeSame.bits22 : waitsOk ravelinlaw11_MergeSame.T22.2 ravelinlaw11_MergeSame.B22 = true := by kernel_rfl
set_option maxHeartbeats 8000000 in
set_option maxRecDepth 100000 in
theorem ravelinlaw11_MergeSame.calls (k : Nat) (A0 : Option Addr) (c0 : Nat) (l0 : List (S39)) (A1 : Option Addr) (c1 : Nat) (l1 : List Int) (a2 : Bool) (r : Bool) (w : World) (hr0 : Kd.C k39 w A0 l0.length l0) (hc0 : l0.length ≤ c0) (hr1 : Kd.C (Kd.int .i64) w A1 l1.length l1) (hc1 : l1.length ≤ c1) (h : ravelinlaw11_MergeSame.f k l0 l1 a2 = some r) (hr_ : r = true) :
    Calls Try.prog 4 #[.slice A0 l0.length c0, .slice A1 l1.length c1, .bool a2] w fun e w' => e = .returned (.bool r) ∧ Below w.heap.size w w' := by
  have hu39 := Try.underlying39
  have HR0 := Aside0.mk hr0
  have HC0 := Aside0.mk hc0
  clear hr0 hc0
  have HR1 := Aside0.mk hr1
  have HC1 := Aside0.mk hc1
  clear hr1 hc1
  have HB := Aside0.mk (Below.refl w.heap.size w)
  have H : ((ravelinlaw11_known.f k).bind fun t313 => (if t313 = true then ((ravelinlaw11_few.f k l0).bind fun t314 => (if t314 = true then (if (l1.length : Int) > 10 then (ravelinlaw11_MergeSame.j0 k l0 l1 a2 true) else ((ravelinref6_Sorted.f k l0).bind fun t315 => (ravelinlaw11_MergeSame.j0 k l0 l1 a2 (!t315)))) else (ravelinlaw11_MergeSame.j0 k l0 l1 a2 true))) else (some false))) = some r := h
  clear h
  have HR_ := Aside0.mk hr_
  clear hr_
  replace H := Option.bind_eq_some_iff.mp H
  obtain ⟨t313, A40, H⟩ := H
  replace H : (if t313 = true then ((ravelinlaw11_few.f k l0).bind fun t314 => (if t314 = true then (if (l1.length : Int) > 10 then (ravelinlaw11_MergeSame.j0 k l0 l1 a2 true) else ((ravelinref6_Sorted.f k l0).bind fun t315 => (ravelinlaw11_MergeSame.j0 k l0 l1 a2 (!t315)))) else (ravelinlaw11_MergeSame.j0 k l0 l1 a2 true))) else (some false)) = some r := H
  have A4 := Aside0.mk A40
  clear A40
  by_cases c5 : t313 = true
  rotate_left
  · replace c5 := Bool.eq_false_iff.mpr c5
    subst c5
    have H1 : (some false) = some r := by rw [if_neg (show ¬ (false = true) by decide)] at H; exact H
    clear H
    have H := H1
    clear H1
    exact absurd ((Option.some.inj H).trans HR_.out) (by decide)
  subst c5
  have H1 : ((ravelinlaw11_few.f k l0).bind fun t314 => (if t314 = true then (if (l1.length : Int) > 10 then (ravelinlaw11_MergeSame.j0 k l0 l1 a2 true) else ((ravelinref6_Sorted.f k l0).bind fun t315 => (ravelinlaw11_MergeSame.j0 k l0 l1 a2 (!t315)))) else (ravelinlaw11_MergeSame.j0 k l0 l1 a2 true))) = some r := by rw [if_pos rfl] at H; exact H
  clear H
  have H := H1
  clear H1
  have HC6 := Aside0.mk H
  clear H
  go_enter Try.func4, Try.ntmps4
  go_upto_region 3 with (first | ((with_reducible refine gate_callee (f := 8) rfl ?_); refine goesL_ (some 13) rfl rfl Try.func8 (by kernel_rfl) rfl #[] rfl (by (try simp only [List.map_toArray, List.map_cons, List.map_nil]); first | done | rfl | (simp only [List.length_drop, List.length_take]; rfl)) ?_; (with_reducible refine (ravelinlaw11_known.calls k  true _ A4.out (by first | rfl | assumption | exact of_decide_eq_true (by assumption))).mono ?_); rintro e w7 ⟨rfl, hb⟩; refine ⟨_, rfl, ?_⟩; have n0_ := Aside0.mk (below_step (by repeat (first | (with_reducible first | exact HB.out | apply below_alloc | apply pw_below_drewN | apply below_drew1) | exact HB.out)) hb); clear HB; have HB := n0_; clear n0_; (try clear hb); (try clear hb2); (try clear hk); (try clear hi)))
  (try simp only [Act.put, List.setIfInBounds_toArray, List.set_cons_zero, List.set_cons_succ])
  go_cut [27] (fun v27 wc => ∃ (kq : Nat) (x27_5 : Bool), v27 = .bool x27_5 ∧ Aside0 (ravelinlaw11_MergeSame.j0 kq l0 l1 a2 x27_5 = some r) ∧ Aside0 (kq ≤ k) ∧ Aside0 (Below w.heap.size w wc))
  case first =>
    have H := HC6.out
    clear HC6
    replace H := Option.bind_eq_some_iff.mp H
    obtain ⟨t314, A80, H⟩ := H
    replace H : (if t314 = true then (if (l1.length : Int) > 10 then (ravelinlaw11_MergeSame.j0 k l0 l1 a2 true) else ((ravelinref6_Sorted.f k l0).bind fun t315 => (ravelinlaw11_MergeSame.j0 k l0 l1 a2 (!t315)))) else (ravelinlaw11_MergeSame.j0 k l0 l1 a2 true)) = some r := H
    have A8 := Aside0.mk A80
    clear A80
    by_cases c9 : t314 = true
    rotate_left
    · replace c9 := Bool.eq_false_iff.mpr c9
      subst c9
      have H1 : (ravelinlaw11_MergeSame.j0 k l0 l1 a2 true) = some r := by rw [if_neg (show ¬ (false = true) by decide)] at H; exact H
      clear H
      have H := H1
      clear H1
      have H' := Aside0.mk H
      clear H
      go_wp2_with (first | ((with_reducible refine gate_callee (f := 10) rfl ?_); refine goesL_ (some 16) rfl rfl Try.func10 (by kernel_rfl) rfl #[.slice A0 l0.length c0] rfl (by (try simp only [List.map_toArray, List.map_cons, List.map_nil]); first | done | rfl | (simp only [List.length_drop, List.length_take]; rfl)) ?_; (with_reducible refine (ravelinlaw11_few.calls k _ _ l0 false _ ?side1 ?side2 A8.out).mono ?_); (case side1 => repeat (first | exact (Kd.C_below HR0.out HB.out) | (with_reducible refine Kd.C_alloc ?_ _) | (with_reducible refine Kd.C_drewN ?_ _) | (with_reducible refine Kd.C_drew ?_))); (case side2 => exact HC0.out); rintro e w' ⟨rfl, ⟨nd, rfl⟩⟩; refine ⟨_, rfl, ?_⟩))
      go_meet
      case rel => exact ⟨_, (true), (by first | rfl | (simp; done) | (simp [*]; done)), H', ⟨by first | omega | exact Nat.le_refl _⟩, ⟨by repeat (first | (with_reducible first | exact HB.out | apply below_alloc | apply pw_below_drewN | apply below_drew1) | exact HB.out)⟩⟩
    subst c9
    have H1 : (if (l1.length : Int) > 10 then (ravelinlaw11_MergeSame.j0 k l0 l1 a2 true) else ((ravelinref6_Sorted.f k l0).bind fun t315 => (ravelinlaw11_MergeSame.j0 k l0 l1 a2 (!t315)))) = some r := by rw [if_pos rfl] at H; exact H
    clear H
    have H := H1
    clear H1
    by_cases c10 : (l1.length : Int) > 10
    · rw [if_pos c10] at H
      have c10b0 : decide (10 < (l1.length : Int)) = true := decide_eq_true c10
      have c10b1 : decide (10 < l1.length) = true := decide_eq_true (by omega)
      clear c10
      (first | rw [c10b0] | (simp only [i64_w, i32_w]; rw [c10b0]) | skip)
      have H' := Aside0.mk H
      clear H
      go_wp2_with (first | ((with_reducible refine gate_callee (f := 10) rfl ?_); refine goesL_ (some 16) rfl rfl Try.func10 (by kernel_rfl) rfl #[.slice A0 l0.length c0] rfl (by (try simp only [List.map_toArray, List.map_cons, List.map_nil]); first | done | rfl | (simp only [List.length_drop, List.length_take]; rfl)) ?_; (with_reducible refine (ravelinlaw11_few.calls k _ _ l0 true _ ?side1 ?side2 A8.out).mono ?_); (case side1 => repeat (first | exact (Kd.C_below HR0.out HB.out) | (with_reducible refine Kd.C_alloc ?_ _) | (with_reducible refine Kd.C_drewN ?_ _) | (with_reducible refine Kd.C_drew ?_))); (case side2 => exact HC0.out); rintro e w' ⟨rfl, ⟨nd, rfl⟩⟩; refine ⟨_, rfl, ?_⟩))
      go_meet
      case rel => exact ⟨_, (true), (by first | rfl | (simp; done) | (simp [*]; done)), H', ⟨by first | omega | exact Nat.le_refl _⟩, ⟨by repeat (first | (with_reducible first | exact HB.out | apply below_alloc | apply pw_below_drewN | apply below_drew1) | exact HB.out)⟩⟩
    rw [if_neg c10] at H
    have c10b0 : decide (10 < (l1.length : Int)) = false := decide_eq_false c10
    have c10b1 : decide (10 < l1.length) = false := decide_eq_false (by omega)
    clear c10
    (first | rw [c10b0] | (simp only [i64_w, i32_w]; rw [c10b0]) | skip)
    replace H := Option.bind_eq_some_iff.mp H
    obtain ⟨t315, A110, H⟩ := H
    replace H : (ravelinlaw11_MergeSame.j0 k l0 l1 a2 (!t315)) = some r := H
    have A11 := Aside0.mk A110
    clear A110
    have H' := Aside0.mk H
    clear H
    go_wp2_with (first | ((with_reducible refine gate_callee (f := 10) rfl ?_); refine goesL_ (some 16) rfl rfl Try.func10 (by kernel_rfl) rfl #[.slice A0 l0.length c0] rfl (by (try simp only [List.map_toArray, List.map_cons, List.map_nil]); first | done | rfl | (simp only [List.length_drop, List.length_take]; rfl)) ?_; (with_reducible refine (ravelinlaw11_few.calls k _ _ l0 true _ ?side1 ?side2 A8.out).mono ?_); (case side1 => repeat (first | exact (Kd.C_below HR0.out HB.out) | (with_reducible refine Kd.C_alloc ?_ _) | (with_reducible refine Kd.C_drewN ?_ _) | (with_reducible refine Kd.C_drew ?_))); (case side2 => exact HC0.out); rintro e w' ⟨rfl, ⟨nd, rfl⟩⟩; refine ⟨_, rfl, ?_⟩) | (go_at_call 18; (with_reducible refine (ravelinref6_Sorted.calls k _ _ l0 t315 _ ?side1 ?side2 A11.out).mono ?_); (case side1 => repeat (first | exact (Kd.C_below HR0.out (by repeat (first | (with_reducible first | exact HB.out | apply below_alloc | apply pw_below_drewN | apply below_drew1) | exact HB.out))) | (with_reducible refine Kd.C_alloc ?_ _) | (with_reducible refine Kd.C_drewN ?_ _) | (with_reducible refine Kd.C_drew ?_))); (case side2 => exact HC0.out); rintro e w12 ⟨rfl, hb⟩; have n0_ := Aside0.mk (below_step (by repeat (first | (with_reducible first | exact HB.out | apply below_alloc | apply pw_below_drewN | apply below_drew1) | exact HB.out)) hb); clear HB; have HB := n0_; clear n0_; (try clear hb); (try clear hb2); (try clear hk); (try clear hi)))
    go_meet
    case rel => exact ⟨_, (!t315), (by first | rfl | (simp; done) | (simp [*]; done)), H', ⟨by first | omega | exact Nat.le_refl _⟩, ⟨by repeat (first | (with_reducible first | exact HB.out | apply below_alloc | apply pw_below_drewN | apply below_drew1) | exact HB.out)⟩⟩
  clear HC6
  try clear c1
  try clear p2
  try clear c4
  try clear c5
  try clear c8
  try clear c9
  try clear c10
  try clear c10b0
  try clear c10b1
  obtain ⟨kq, x27_5, rfl, HA, HJ5, HB⟩ := hcut
  cases kq with
  | zero => exact absurd HA.out (by simp [ravelinlaw11_MergeSame.j0])
  | succ kj5 => ?_
  have H := HA.out
  clear HA
  simp only [ravelinlaw11_MergeSame.j0] at H
  by_cases c13 : x27_5 = true
  · subst c13
    have H1 : (some true) = some r := by rw [if_pos rfl] at H; exact H
    clear H
    have H := H1
    clear H1
    obtain rfl := Option.some.inj H
    go_wp2
    go_ret
    exact ⟨by first | rfl | (simp [errW_none, errW_some] <;> rfl) | (simp [*, errW_none, errW_some] <;> rfl), by repeat (first | (with_reducible first | exact HB.out | apply below_alloc | apply pw_below_drewN | apply below_drew1) | exact HB.out)⟩
  replace c13 := Bool.eq_false_iff.mpr c13
  subst c13
  have H1 : (ravelinlaw11_MergeSame.l0 kj5 l0 l1 a2 0) = some r := by rw [if_neg (show ¬ (false = true) by decide)] at H; exact H
  clear H
  have H := H1
  clear H1
  have H' := Aside0.mk H
  clear H
  go_wp2
  go_loopg [7] kj5 (fun kq v7 w' => ∃ (x7_2 : Int), v7 = .int .i64 x7_2 ∧ Aside0 (ravelinlaw11_MergeSame.l0 kq l0 l1 a2 x7_2 = some r) ∧ Aside0 (kq ≤ kj5) ∧ Aside0 (Below w.heap.size w w'))
  case atStart => exact ⟨(0), (by first | rfl | (simp; done) | (simp [*]; done)), H', ⟨Nat.le_refl _⟩, ⟨by repeat (first | (with_reducible first | exact HB.out | apply below_alloc | apply pw_below_drewN | apply below_drew1) | exact HB.out)⟩⟩
  clear H'
  try clear c1
  try clear p2
  try clear c4
  try clear c5
  try clear c8
  try clear c9
  try clear c10
  try clear c10b0
  try clear c10b1
  try clear c13
  try clear p2
  obtain ⟨x7_2, rfl, HA, HK2, HB⟩ := hrel
  cases gk with
  | zero => exact absurd HA.out (by simp [ravelinlaw11_MergeSame.l0])
  | succ k2 => ?_
  have H := HA.out
  clear HA
  simp only [ravelinlaw11_MergeSame.l0] at H
  by_cases c14 : x7_2 < (l0.length : Int)
  · rw [if_pos c14] at H
    have c14b0 : decide (x7_2 < (l0.length : Int)) = true := decide_eq_true c14
    clear c14
    by_cases c15 : 0 ≤ x7_2
    rotate_left
    · rw [if_neg c15] at H
      exact absurd H (by simp)
    rw [if_pos c15] at H
    have c15b0 : decide (0 ≤ x7_2) = true := decide_eq_true c15
    clear c15
    replace H := Option.bind_eq_some_iff.mp H
    obtain ⟨t317, A160, H⟩ := H
    replace H : (if t317 = true then (ravelinlaw11_MergeSame.l0 k2 l0 l1 a2 (wrap64 (x7_2 + 1))) else (some true)) = some r := H
    have A16 := Aside0.mk A160
    clear A160
    by_cases c17 : t317 = true
    rotate_left
    · replace c17 := Bool.eq_false_iff.mpr c17
      subst c17
      have H1 : (some true) = some r := by rw [if_neg (show ¬ (false = true) by decide)] at H; exact H
      clear H
      have H := H1
      clear H1
      obtain rfl := Option.some.inj H
      have p316 : 0 ≤ (x7_2 : Int) := of_decide_eq_true (by first | (with_reducible assumption) | assumption)
      have q316 : x7_2 < (l0.length : Int) := of_decide_eq_true (by first | (with_reducible assumption) | assumption)
      obtain ⟨ad316, e316, hx316_0, hx316_1, hx316_2, hx316_3⟩ := at_T39 HR0.out x7_2 p316 q316
      cases e316
      replace hx316_0 := (HB.out.cell (World.block_lt_of_cell? w _ hx316_0)).trans hx316_0
      replace hx316_1 := (HB.out.cell (World.block_lt_of_cell? w _ hx316_1)).trans hx316_1
      replace hx316_2 := (HB.out.cell (World.block_lt_of_cell? w _ hx316_2)).trans hx316_2
      replace hx316_3 := (HB.out.cell (World.block_lt_of_cell? w _ hx316_3)).trans hx316_3
      replace p316 := eq_true p316
      replace q316 := eq_true q316
      go_wp2_with (first | ((with_reducible refine gate_callee (f := 19) rfl ?_); refine goesL_ (some 38) rfl rfl Try.func19 (by kernel_rfl) rfl #[.agg #[.string ((rd_T39 l0 x7_2).f0), .int .i64 ((rd_T39 l0 x7_2).f1), .bool ((rd_T39 l0 x7_2).f2), .string ((rd_T39 l0 x7_2).f3)]] rfl (by (try simp only [List.map_toArray, List.map_cons, List.map_nil]); first | done | rfl | (simp only [List.length_drop, List.length_take]; rfl)) ?_; (with_reducible refine (ravelinref6_Is.calls ((rd_T39 l0 x7_2).f0) ((rd_T39 l0 x7_2).f1) ((rd_T39 l0 x7_2).f2) ((rd_T39 l0 x7_2).f3) false _ A16.out).mono ?_); rintro e w19 ⟨rfl, hb⟩; refine ⟨_, rfl, ?_⟩; have n0_ := Aside0.mk (below_step (by repeat (first | (with_reducible first | exact HB.out | apply below_alloc | apply pw_below_drewN | apply below_drew1) | exact HB.out)) hb); clear HB; have HB := n0_; clear n0_; (try clear hb); (try clear hb2); (try clear hk); (try clear hi)))
      go_ret
      exact ⟨by first | rfl | (simp [errW_none, errW_some] <;> rfl) | (simp [*, errW_none, errW_some] <;> rfl), by repeat (first | (with_reducible first | exact HB.out | apply below_alloc | apply pw_below_drewN | apply below_drew1) | exact HB.out)⟩
    subst c17
    have H1 : (ravelinlaw11_MergeSame.l0 k2 l0 l1 a2 (wrap64 (x7_2 + 1))) = some r := by rw [if_pos rfl] at H; exact H
    clear H
    have H := H1
    clear H1
    have H' := Aside0.mk H
    clear H
    have p316 : 0 ≤ (x7_2 : Int) := of_decide_eq_true (by first | (with_reducible assumption) | assumption)
    have q316 : x7_2 < (l0.length : Int) := of_decide_eq_true (by first | (with_reducible assumption) | assumption)
    obtain ⟨ad316, e316, hx316_0, hx316_1, hx316_2, hx316_3⟩ := at_T39 HR0.out x7_2 p316 q316
    cases e316
    replace hx316_0 := (HB.out.cell (World.block_lt_of_cell? w _ hx316_0)).trans hx316_0
    replace hx316_1 := (HB.out.cell (World.block_lt_of_cell? w _ hx316_1)).trans hx316_1
    replace hx316_2 := (HB.out.cell (World.block_lt_of_cell? w _ hx316_2)).trans hx316_2
    replace hx316_3 := (HB.out.cell (World.block_lt_of_cell? w _ hx316_3)).trans hx316_3
    replace p316 := eq_true p316
    replace q316 := eq_true q316
    go_wp2_with (first | ((with_reducible refine gate_callee (f := 19) rfl ?_); refine goesL_ (some 38) rfl rfl Try.func19 (by kernel_rfl) rfl #[.agg #[.string ((rd_T39 l0 x7_2).f0), .int .i64 ((rd_T39 l0 x7_2).f1), .bool ((rd_T39 l0 x7_2).f2), .string ((rd_T39 l0 x7_2).f3)]] rfl (by (try simp only [List.map_toArray, List.map_cons, List.map_nil]); first | done | rfl | (simp only [List.length_drop, List.length_take]; rfl)) ?_; (with_reducible refine (ravelinref6_Is.calls ((rd_T39 l0 x7_2).f0) ((rd_T39 l0 x7_2).f1) ((rd_T39 l0 x7_2).f2) ((rd_T39 l0 x7_2).f3) true _ A16.out).mono ?_); rintro e w18 ⟨rfl, hb⟩; refine ⟨_, rfl, ?_⟩; have n0_ := Aside0.mk (below_step (by repeat (first | (with_reducible first | exact HB.out | apply below_alloc | apply pw_below_drewN | apply below_drew1) | exact HB.out)) hb); clear HB; have HB := n0_; clear n0_; (try clear hb); (try clear hb2); (try clear hk); (try clear hi)))
    go_roundg k2
    case measure => have := HJ5.out; have := HK2.out; omega
    case rel => exact ⟨(wrap64 (x7_2 + 1)), (by first | rfl | (simp; done) | (simp [*]; done)), H', ⟨by have := HJ5.out; have := HK2.out; omega⟩, ⟨by repeat (first | (with_reducible first | exact HB.out | apply below_alloc | apply pw_below_drewN | apply below_drew1) | exact HB.out)⟩⟩
  rw [if_neg c14] at H
  have c14b0 : decide (x7_2 < (l0.length : Int)) = false := decide_eq_false c14
  clear c14
  replace H := Option.bind_eq_some_iff.mp H
  obtain ⟨t318, A200, H⟩ := H
  replace H : ((ravelinref6_Sorted.f k2 t318).bind fun t321 => (if t321 = true then (if (t318.length : Int) > (l0.length : Int) then (ravelinlaw11_MergeSame.j2 k2 l0 l1 t318 true) else ((merge_Visible.f k2 t318 1000000).bind fun t322 => ((merge_Visible.f k2 l0 1000000).bind fun t325 => ((ravelinref6_Same.f k2 t322 t325).bind fun t328 => (ravelinlaw11_MergeSame.j2 k2 l0 l1 t318 (!t328)))))) else (ravelinlaw11_MergeSame.j2 k2 l0 l1 t318 true))) = some r := H
  have A20 := Aside0.mk A200
  clear A200
  have HC21 := Aside0.mk H
  clear H
  go_upto_region 11 with (first | ((with_reducible refine gate_callee (f := 16) rfl ?_); refine goesL_ (some 43) rfl rfl Try.func16 (by kernel_rfl) rfl #[.slice A0 l0.length c0, .slice A1 l1.length c1, .bool a2] rfl (by (try simp only [List.map_toArray, List.map_cons, List.map_nil]); first | done | rfl | (simp only [List.length_drop, List.length_take]; rfl)) ?_; (with_reducible refine (merge_Pack.calls k2 _ _ l0 _ _ l1 a2 t318 _ ?side1 ?side2 ?side3 ?side4 A20.out).mono ?_); (case side1 => repeat (first | exact (Kd.C_below HR0.out HB.out) | (with_reducible refine Kd.C_alloc ?_ _) | (with_reducible refine Kd.C_drewN ?_ _) | (with_reducible refine Kd.C_drew ?_))); (case side2 => exact HC0.out); (case side3 => repeat (first | exact (Kd.C_below HR1.out HB.out) | (with_reducible refine Kd.C_alloc ?_ _) | (with_reducible refine Kd.C_drewN ?_ _) | (with_reducible refine Kd.C_drew ?_))); (case side4 => exact HC1.out); rintro e w22 ⟨v319, rfl, ho0, hb⟩; refine ⟨_, rfl, ?_⟩; have n0_ := Aside0.mk (Kd.R_lower ho0 (below_size (by repeat (first | (with_reducible first | exact HB.out | apply below_alloc | apply pw_below_drewN | apply below_drew1) | exact HB.out)))); have n1_ := Aside0.mk (below_step (by repeat (first | (with_reducible first | exact HB.out | apply below_alloc | apply pw_below_drewN | apply below_drew1) | exact HB.out)) hb); clear HB; have HO320 := n0_; have HB := n1_; clear n0_ n1_; (try clear hb); (try clear hb2); (try clear hk); (try clear hi); (try clear ho0)))
  (try simp only [Act.put, List.setIfInBounds_toArray, List.set_cons_zero, List.set_cons_succ])
  go_cut [61] (fun v61 wc => ∃ (kq : Nat) (x61_20 : Bool), v61 = .bool x61_20 ∧ Aside0 (ravelinlaw11_MergeSame.j2 kq l0 l1 t318 x61_20 = some r) ∧ Aside0 (kq ≤ k2) ∧ Aside0 (Kd.R k39 39 wc w.heap.size (fun _ => True) v319 t318) ∧ Aside0 (Below w.heap.size w wc))
  case first =>
    have H := HC21.out
    clear HC21
    replace H := Option.bind_eq_some_iff.mp H
    obtain ⟨t321, A230, H⟩ := H
    replace H : (if t321 = true then (if (t318.length : Int) > (l0.length : Int) then (ravelinlaw11_MergeSame.j2 k2 l0 l1 t318 true) else ((merge_Visible.f k2 t318 1000000).bind fun t322 => ((merge_Visible.f k2 l0 1000000).bind fun t325 => ((ravelinref6_Same.f k2 t322 t325).bind fun t328 => (ravelinlaw11_MergeSame.j2 k2 l0 l1 t318 (!t328)))))) else (ravelinlaw11_MergeSame.j2 k2 l0 l1 t318 true)) = some r := H
    have A23 := Aside0.mk A230
    clear A230
    by_cases c24 : t321 = true
    rotate_left
    · replace c24 := Bool.eq_false_iff.mpr c24
      subst c24
      have H1 : (ravelinlaw11_MergeSame.j2 k2 l0 l1 t318 true) = some r := by rw [if_neg (show ¬ (false = true) by decide)] at H; exact H
      clear H
      have H := H1
      clear H1
      have H' := Aside0.mk H
      clear H
      obtain ⟨Ao37, co37, eo37⟩ := Kd.R_slice HO320.out
      subst eo37
      go_wp2_with (first | ((with_reducible refine gate_callee (f := 18) rfl ?_); refine goesL_ (some 45) rfl rfl Try.func18 (by kernel_rfl) rfl #[.slice Ao37 t318.length co37] rfl (by (try simp only [List.map_toArray, List.map_cons, List.map_nil]); first | done | rfl | (simp only [List.length_drop, List.length_take]; rfl)) ?_; (with_reducible refine (ravelinref6_Sorted.calls k2 _ _ t318 false _ ?side1 ?side2 A23.out).mono ?_); (case side1 => repeat (first | exact (Kd.R_reads' HO320.out).2.2 | (with_reducible refine Kd.C_alloc ?_ _) | (with_reducible refine Kd.C_drewN ?_ _) | (with_reducible refine Kd.C_drew ?_))); (case side2 => exact (Kd.R_reads' HO320.out).2.1); rintro e w38 ⟨rfl, hb⟩; refine ⟨_, rfl, ?_⟩; have n0_ := Aside0.mk (Kd.R_below (by (with_reducible repeat (first | apply Kd.R_alloc | apply Kd.R_drewN | apply Kd.R_drew)); exact HO320.out) hb); have n1_ := Aside0.mk (below_step (by repeat (first | (with_reducible first | exact HB.out | apply below_alloc | apply pw_below_drewN | apply below_drew1) | exact HB.out)) hb); clear HO320; clear HB; have HO320 := n0_; have HB := n1_; clear n0_ n1_; (try clear hb); (try clear hb2); (try clear hk); (try clear hi)))
      go_meet
      case rel => exact ⟨_, (true), (by first | rfl | (simp; done) | (simp [*]; done)), H', ⟨by have := HJ5.out; have := HK2.out; first | omega | exact Nat.le_refl _⟩, ⟨by (with_reducible repeat (first | apply Kd.R_alloc | apply Kd.R_drewN | apply Kd.R_drew)); exact HO320.out⟩, ⟨by repeat (first | (with_reducible first | exact HB.out | apply below_alloc | apply pw_below_drewN | apply below_drew1) | exact HB.out)⟩⟩
    subst c24
    have H1 : (if (t318.length : Int) > (l0.length : Int) then (ravelinlaw11_MergeSame.j2 k2 l0 l1 t318 true) else ((merge_Visible.f k2 t318 1000000).bind fun t322 => ((merge_Visible.f k2 l0 1000000).bind fun t325 => ((ravelinref6_Same.f k2 t322 t325).bind fun t328 => (ravelinlaw11_MergeSame.j2 k2 l0 l1 t318 (!t328)))))) = some r := by rw [if_pos rfl] at H; exact H
    clear H
    have H := H1
    clear H1
    by_cases c25 : (t318.length : Int) > (l0.length : Int)
    · rw [if_pos c25] at H
      have c25b0 : decide ((l0.length : Int) < (t318.length : Int)) = true := decide_eq_true c25
      have c25b1 : decide (l0.length < t318.length) = true := decide_eq_true (Int.ofNat_lt.mp c25)
      clear c25
      (first | rw [c25b0] | (simp only [i64_w, i32_w]; rw [c25b0]) | skip)
      have H' := Aside0.mk H
      clear H
      obtain ⟨Ao26, co26, eo26⟩ := Kd.R_slice HO320.out
      subst eo26
      go_wp2_with (first | ((with_reducible refine gate_callee (f := 18) rfl ?_); refine goesL_ (some 45) rfl rfl Try.func18 (by kernel_rfl) rfl #[.slice Ao26 t318.length co26] rfl (by (try simp only [List.map_toArray, List.map_cons, List.map_nil]); first | done | rfl | (simp only [List.length_drop, List.length_take]; rfl)) ?_; (with_reducible refine (ravelinref6_Sorted.calls k2 _ _ t318 true _ ?side1 ?side2 A23.out).mono ?_); (case side1 => repeat (first | exact (Kd.R_reads' HO320.out).2.2 | (with_reducible refine Kd.C_alloc ?_ _) | (with_reducible refine Kd.C_drewN ?_ _) | (with_reducible refine Kd.C_drew ?_))); (case side2 => exact (Kd.R_reads' HO320.out).2.1); rintro e w27 ⟨rfl, hb⟩; refine ⟨_, rfl, ?_⟩; have n0_ := Aside0.mk (Kd.R_below (by (with_reducible repeat (first | apply Kd.R_alloc | apply Kd.R_drewN | apply Kd.R_drew)); exact HO320.out) hb); have n1_ := Aside0.mk (below_step (by repeat (first | (with_reducible first | exact HB.out | apply below_alloc | apply pw_below_drewN | apply below_drew1) | exact HB.out)) hb); clear HO320; clear HB; have HO320 := n0_; have HB := n1_; clear n0_ n1_; (try clear hb); (try clear hb2); (try clear hk); (try clear hi)))
      go_meet
      case rel => exact ⟨_, (true), (by first | rfl | (simp; done) | (simp [*]; done)), H', ⟨by have := HJ5.out; have := HK2.out; first | omega | exact Nat.le_refl _⟩, ⟨by (with_reducible repeat (first | apply Kd.R_alloc | apply Kd.R_drewN | apply Kd.R_drew)); exact HO320.out⟩, ⟨by repeat (first | (with_reducible first | exact HB.out | apply below_alloc | apply pw_below_drewN | apply below_drew1) | exact HB.out)⟩⟩
    rw [if_neg c25] at H
    have c25b0 : decide ((l0.length : Int) < (t318.length : Int)) = false := decide_eq_false c25
    have c25b1 : decide (l0.length < t318.length) = false := decide_eq_false (fun h => c25 (Int.ofNat_lt.mpr h))
    clear c25
    (first | rw [c25b0] | (simp only [i64_w, i32_w]; rw [c25b0]) | skip)
    replace H := Option.bind_eq_some_iff.mp H
    obtain ⟨t322, A280, H⟩ := H
    replace H : ((merge_Visible.f k2 l0 1000000).bind fun t325 => ((ravelinref6_Same.f k2 t322 t325).bind fun t328 => (ravelinlaw11_MergeSame.j2 k2 l0 l1 t318 (!t328)))) = some r := H
    have A28 := Aside0.mk A280
    clear A280
    replace H := Option.bind_eq_some_iff.mp H
    obtain ⟨t325, A290, H⟩ := H
    replace H : ((ravelinref6_Same.f k2 t322 t325).bind fun t328 => (ravelinlaw11_MergeSame.j2 k2 l0 l1 t318 (!t328))) = some r := H
    have A29 := Aside0.mk A290
    clear A290
    replace H := Option.bind_eq_some_iff.mp H
    obtain ⟨t328, A300, H⟩ := H
    replace H : (ravelinlaw11_MergeSame.j2 k2 l0 l1 t318 (!t328)) = some r := H
    have A30 := Aside0.mk A300
    clear A300
    have H' := Aside0.mk H
    clear H
    obtain ⟨Ao31, co31, eo31⟩ := Kd.R_slice HO320.out
    subst eo31
    go_wp2_with (first | ((with_reducible refine gate_callee (f := 18) rfl ?_); refine goesL_ (some 45) rfl rfl Try.func18 (by kernel_rfl) rfl #[.slice Ao31 t318.length co31] rfl (by (try simp only [List.map_toArray, List.map_cons, List.map_nil]); first | done | rfl | (simp only [List.length_drop, List.length_take]; rfl)) ?_; (with_reducible refine (ravelinref6_Sorted.calls k2 _ _ t318 true _ ?side1 ?side2 A23.out).mono ?_); (case side1 => repeat (first | exact (Kd.R_reads' HO320.out).2.2 | (with_reducible refine Kd.C_alloc ?_ _) | (with_reducible refine Kd.C_drewN ?_ _) | (with_reducible refine Kd.C_drew ?_))); (case side2 => exact (Kd.R_reads' HO320.out).2.1); rintro e w32 ⟨rfl, hb⟩; refine ⟨_, rfl, ?_⟩; have n0_ := Aside0.mk (Kd.R_below (by (with_reducible repeat (first | apply Kd.R_alloc | apply Kd.R_drewN | apply Kd.R_drew)); exact HO320.out) hb); have n1_ := Aside0.mk (below_step (by repeat (first | (with_reducible first | exact HB.out | apply below_alloc | apply pw_below_drewN | apply below_drew1) | exact HB.out)) hb); clear HO320; clear HB; have HO320 := n0_; have HB := n1_; clear n0_ n1_; (try clear hb); (try clear hb2); (try clear hk); (try clear hi)) | (go_at_call 14; (with_reducible refine (merge_Visible.calls k2 _ _ t318 1000000 t322 _ ?side1 ?side2 A28.out).mono ?_); (case side1 => repeat (first | exact (Kd.R_reads' HO320.out).2.2 | (with_reducible refine Kd.C_alloc ?_ _) | (with_reducible refine Kd.C_drewN ?_ _) | (with_reducible refine Kd.C_drew ?_))); (case side2 => exact (Kd.R_reads' HO320.out).2.1); rintro e w33 ⟨v323, rfl, ho0, hb⟩; have n0_ := Aside0.mk (Kd.R_elder' (by (with_reducible repeat (first | apply Kd.R_alloc | apply Kd.R_drewN | apply Kd.R_drew)); exact HO320.out) (Kd.R_base ho0) hb); have n1_ := Aside0.mk (Kd.R_lower (Kd.R_new' ho0 (Kd.R_lt (by (with_reducible repeat (first | apply Kd.R_alloc | apply Kd.R_drewN | apply Kd.R_drew)); exact HO320.out))) (below_size (by repeat (first | (with_reducible first | exact HB.out | apply below_alloc | apply pw_below_drewN | apply below_drew1) | exact HB.out)))); have n2_ := Aside0.mk (below_step (by repeat (first | (with_reducible first | exact HB.out | apply below_alloc | apply pw_below_drewN | apply below_drew1) | exact HB.out)) hb); clear HO320; clear HB; have HO320 := n0_; have HO324 := n1_; have HB := n2_; clear n0_ n1_ n2_; (try clear hb); (try clear hb2); (try clear hk); (try clear hi); (try clear ho0)) | (go_at_call 14; (with_reducible refine (merge_Visible.calls k2 _ _ l0 1000000 t325 _ ?side1 ?side2 A29.out).mono ?_); (case side1 => repeat (first | exact (Kd.C_below HR0.out HB.out) | (with_reducible refine Kd.C_alloc ?_ _) | (with_reducible refine Kd.C_drewN ?_ _) | (with_reducible refine Kd.C_drew ?_))); (case side2 => exact HC0.out); rintro e w34 ⟨v326, rfl, ho0, hb⟩; have n0_ := Aside0.mk (Kd.R_elder' (by (with_reducible repeat (first | apply Kd.R_alloc | apply Kd.R_drewN | apply Kd.R_drew)); exact HO320.out) (Kd.R_base ho0) hb); have n1_ := Aside0.mk (Kd.R_elder' (by (with_reducible repeat (first | apply Kd.R_alloc | apply Kd.R_drewN | apply Kd.R_drew)); exact HO324.out) (Kd.R_base ho0) hb); have n2_ := Aside0.mk (Kd.R_lower (Kd.R_new' (Kd.R_new' ho0 (Kd.R_lt (by (with_reducible repeat (first | apply Kd.R_alloc | apply Kd.R_drewN | apply Kd.R_drew)); exact HO320.out))) (Kd.R_lt (by (with_reducible repeat (first | apply Kd.R_alloc | apply Kd.R_drewN | apply Kd.R_drew)); exact HO324.out))) (below_size (by repeat (first | (with_reducible first | exact HB.out | apply below_alloc | apply pw_below_drewN | apply below_drew1) | exact HB.out)))); have n3_ := Aside0.mk (below_step (by repeat (first | (with_reducible first | exact HB.out | apply below_alloc | apply pw_below_drewN | apply below_drew1) | exact HB.out)) hb); clear HO320; clear HO324; clear HB; have HO320 := n0_; have HO324 := n1_; have HO327 := n2_; have HB := n3_; clear n0_ n1_ n2_ n3_; (try clear hb); (try clear hb2); (try clear hk); (try clear hi); (try clear ho0); obtain ⟨Ao35, co35, eo35⟩ := Kd.R_slice HO324.out; subst eo35; obtain ⟨Ao36, co36, eo36⟩ := Kd.R_slice HO327.out; subst eo36) | (go_at_call 13; (with_reducible refine (ravelinref6_Same.calls k2 _ _ t322 _ _ t325 t328 _ ?side1 ?side2 ?side3 ?side4 A30.out).mono ?_); (case side1 => repeat (first | exact (Kd.R_reads' HO324.out).2.2 | (with_reducible refine Kd.C_alloc ?_ _) | (with_reducible refine Kd.C_drewN ?_ _) | (with_reducible refine Kd.C_drew ?_))); (case side2 => exact (Kd.R_reads' HO324.out).2.1); (case side3 => repeat (first | exact (Kd.R_reads' HO327.out).2.2 | (with_reducible refine Kd.C_alloc ?_ _) | (with_reducible refine Kd.C_drewN ?_ _) | (with_reducible refine Kd.C_drew ?_))); (case side4 => exact (Kd.R_reads' HO327.out).2.1); rintro e w' ⟨rfl, ⟨nd, rfl⟩⟩))
    go_meet
    case rel => exact ⟨_, (!t328), (by first | rfl | (simp; done) | (simp [*]; done)), H', ⟨by have := HJ5.out; have := HK2.out; first | omega | exact Nat.le_refl _⟩, ⟨by (with_reducible repeat (first | apply Kd.R_alloc | apply Kd.R_drewN | apply Kd.R_drew)); exact Kd.R_mono HO320.out (fun _ hk => trivial)⟩, ⟨by repeat (first | (with_reducible first | exact HB.out | apply below_alloc | apply pw_below_drewN | apply below_drew1) | exact HB.out)⟩⟩
  clear HC21
  try clear c1
  try clear c2
  try clear p2
  try clear p3
  try clear q3
  try clear hx3
  try clear c4
  try clear c5
  try clear p6
  try clear c8
  try clear c9
  try clear c10
  try clear c10b0
  try clear c10b1
  try clear c13
  try clear c14
  try clear c14b0
  try clear c15
  try clear c15b0
  try clear c16
  try clear c17
  try clear c18
  try clear c19
  try clear c24
  try clear c25
  try clear c25b0
  try clear c25b1
  try clear p31
  try clear q31
  try clear hx31
  try clear hx316_0
  try clear hx316_1
  try clear hx316_2
  try clear hx316_3
  try clear p2
  try clear p316
  try clear q316
  obtain ⟨kq, x61_20, rfl, HA, HJ20, HO_8, HB⟩ := hcut
  cases kq with
  | zero => exact absurd HA.out (by simp [ravelinlaw11_MergeSame.j2])
  | succ kj20 => ?_
  have H := HA.out
  clear HA
  simp only [ravelinlaw11_MergeSame.j2] at H
  by_cases c39 : x61_20 = true
  · subst c39
    have H1 : (some false) = some r := by rw [if_pos rfl] at H; exact H
    clear H
    have H := H1
    clear H1
    exact absurd ((Option.some.inj H).trans HR_.out) (by decide)
  replace c39 := Bool.eq_false_iff.mpr c39
  subst c39
  have H1 : (ravelinlaw11_MergeSame.l1 kj20 l0 l1 t318 0) = some r := by rw [if_neg (show ¬ (false = true) by decide)] at H; exact H
  clear H
  have H := H1
  clear H1
  have H' := Aside0.mk H
  clear H
  go_wp2
  go_loopg [9] kj20 (fun kq v9 w' => ∃ (x9_4 : Int), v9 = .int .i64 x9_4 ∧ Aside0 (ravelinlaw11_MergeSame.l1 kq l0 l1 t318 x9_4 = some r) ∧ Aside0 (kq ≤ kj20) ∧ Aside0 (Kd.R k39 39 w' w.heap.size (fun _ => True) v319 t318) ∧ Aside0 (Below w.heap.size w w'))
  case atStart => exact ⟨(0), (by first | rfl | (simp; done) | (simp [*]; done)), H', ⟨Nat.le_refl _⟩, ⟨by (with_reducible repeat (first | apply Kd.R_alloc | apply Kd.R_drewN | apply Kd.R_drew)); exact HO_8.out⟩, ⟨by repeat (first | (with_reducible first | exact HB.out | apply below_alloc | apply pw_below_drewN | apply below_drew1) | exact HB.out)⟩⟩
  clear H'
  try clear c1
  try clear c2
  try clear p2
  try clear c3
  try clear p3
  try clear q3
  try clear hx3
  try clear c4
  try clear c5
  try clear p6
  try clear c8
  try clear c9
  try clear c10
  try clear c10b0
  try clear c10b1
  try clear c13
  try clear c14
  try clear c14b0
  try clear c15
  try clear c15b0
  try clear c16
  try clear c17
  try clear c18
  try clear c19
  try clear c24
  try clear c25
  try clear c25b0
  try clear c25b1
  try clear p31
  try clear q31
  try clear hx31
  try clear c39
  try clear hx316_0
  try clear hx316_1
  try clear hx316_2
  try clear hx316_3
  try clear p2
  try clear p3
  try clear p31
  try clear p316
  try clear p6
  try clear q3
  try clear q31
  try clear q316
  obtain ⟨x9_4, rfl, HA, HK4, HO_8, HB⟩ := hrel
  cases gk with
  | zero => exact absurd HA.out (by simp [ravelinlaw11_MergeSame.l1])
  | succ k4 => ?_
  have H := HA.out
  clear HA
  simp only [ravelinlaw11_MergeSame.l1] at H
  by_cases c40 : x9_4 < (l1.length : Int)
  · rw [if_pos c40] at H
    have c40b0 : decide (x9_4 < (l1.length : Int)) = true := decide_eq_true c40
    clear c40
    by_cases c41 : 0 ≤ x9_4
    rotate_left
    · rw [if_neg c41] at H
      exact absurd H (by simp)
    rw [if_pos c41] at H
    have c41b0 : decide (0 ≤ x9_4) = true := decide_eq_true c41
    clear c41
    replace H := Option.bind_eq_some_iff.mp H
    obtain ⟨t330, A420, H⟩ := H
    replace H : ((merge_Visible.f k4 l0 (rd l1 x9_4)).bind fun t334 => ((ravelinref6_Same.f k4 t330 t334).bind fun t337 => (if t337 = true then (ravelinlaw11_MergeSame.l1 k4 l0 l1 t318 (wrap64 (x9_4 + 1))) else (some false)))) = some r := H
    have A42 := Aside0.mk A420
    clear A420
    replace H := Option.bind_eq_some_iff.mp H
    obtain ⟨t334, A430, H⟩ := H
    replace H : ((ravelinref6_Same.f k4 t330 t334).bind fun t337 => (if t337 = true then (ravelinlaw11_MergeSame.l1 k4 l0 l1 t318 (wrap64 (x9_4 + 1))) else (some false))) = some r := H
    have A43 := Aside0.mk A430
    clear A430
    replace H := Option.bind_eq_some_iff.mp H
    obtain ⟨t337, A440, H⟩ := H
    replace H : (if t337 = true then (ravelinlaw11_MergeSame.l1 k4 l0 l1 t318 (wrap64 (x9_4 + 1))) else (some false)) = some r := H
    have A44 := Aside0.mk A440
    clear A440
    by_cases c45 : t337 = true
    rotate_left
    · replace c45 := Bool.eq_false_iff.mpr c45
      subst c45
      have H1 : (some false) = some r := by rw [if_neg (show ¬ (false = true) by decide)] at H; exact H
      clear H
      have H := H1
      clear H1
      exact absurd ((Option.some.inj H).trans HR_.out) (by decide)
    subst c45
    have H1 : (ravelinlaw11_MergeSame.l1 k4 l0 l1 t318 (wrap64 (x9_4 + 1))) = some r := by rw [if_pos rfl] at H; exact H
    clear H
    have H := H1
    clear H1
    have H' := Aside0.mk H
    clear H
    try go_wp2
    have n0_ := Aside0.mk (Kd.R_drew HO_8.out)
    have n1_ := Aside0.mk (below_drew1 HB.out)
    clear HO_8
    clear HB
    have HO_8 := n0_
    have HB := n1_
    clear n0_ n1_
    have p329 : 0 ≤ (x9_4 : Int) := of_decide_eq_true (by first | (with_reducible assumption) | assumption)
    have q329 : x9_4 < (l1.length : Int) := of_decide_eq_true (by first | (with_reducible assumption) | assumption)
    obtain ⟨ad329, e329, hx329_0⟩ := Kd.at_int HR1.out x9_4 p329 q329
    have hw329_0 := hx329_0
    cases e329
    replace hx329_0 := (HB.out.cell (World.block_lt_of_cell? w _ hx329_0)).trans hx329_0
    replace p329 := eq_true p329
    replace q329 := eq_true q329
    have p333 : 0 ≤ (x9_4 : Int) := of_decide_eq_true (by first | (with_reducible assumption) | assumption)
    have q333 : x9_4 < (l1.length : Int) := of_decide_eq_true (by first | (with_reducible assumption) | assumption)
    obtain ⟨ad333, e333, hx333_0⟩ := Kd.at_int HR1.out x9_4 p333 q333
    have hw333_0 := hx333_0
    obtain rfl : ad329 = ad333 := (by injection e333)
    replace hx333_0 := (HB.out.cell (World.block_lt_of_cell? w _ hx333_0)).trans hx333_0
    replace p333 := eq_true p333
    replace q333 := eq_true q333
    obtain ⟨Ao47, co47, eo47⟩ := Kd.R_slice HO_8.out
    (first | subst eo47 | (injection eo47 with f1_ f2_ f3_; have f4_ := f1_.symm; have f5_ := f3_.symm; clear f1_ f2_ f3_; subst f4_; subst f5_))
    refine start_ (n := 14) (S := fun w' => w'.cell? (ad329.add (x9_4).toNat) = some (.int .i64 (rd l1 x9_4)) ∧ w'.cell? (ad329.add (x9_4).toNat) = some (.int .i64 (rd l1 x9_4))) (ds := []) #[false, false, false, false, false, false, false, false, false, false, false, false, false, false] (by kernel_rfl) rfl rfl ⟨((HB.out.cell (World.block_lt_of_cell? w _ hw329_0)).trans hw329_0), ((HB.out.cell (World.block_lt_of_cell? w _ hw333_0)).trans hw333_0)⟩ (fun hHeld => ?_); refine with_tabW ravelinlaw11_MergeSame.tab16 ravelinlaw11_MergeSame.bits16 (fun HT_ HW_ => ?_)
    generalize wr.drew = w46 at HO_8 HB hx329_0 hx333_0 hHeld ⊢
    refine pure_ (i := 0) (N := some 68) (v := ?_) (a' := ?_) #[true, false, false, false, false, false, false, false, false, false, false, false, false, false] rfl rfl (any_of HT_.out (by kernel_rfl)) (fun _ _ _ h => h) (Or.inl ⟨by rfl, ?_⟩) ?_ ?_
    rotate_left
    · intro w'
      go_simp
      with_reducible rfl
    rotate_left
    · simp only [Act.put, List.setIfInBounds_toArray, List.set_cons_zero, List.set_cons_succ, i64_w, i32_w]
      rfl
    refine pure_ (i := 1) (N := some 69) (v := ?_) (a' := ?_) #[true, true, false, false, false, false, false, false, false, false, false, false, false, false] rfl rfl (any_of HT_.out (by kernel_rfl)) (fun _ _ _ h => h) (Or.inl ⟨by rfl, ?_⟩) ?_ ?_
    rotate_left
    · intro w'
      go_simp
      with_reducible rfl
    rotate_left
    · simp only [Act.put, List.setIfInBounds_toArray, List.set_cons_zero, List.set_cons_succ, i64_w, i32_w]
      rfl
    refine pure_ (i := 2) (N := some 70) (v := ?_) (a' := ?_) #[true, true, true, false, false, false, false, false, false, false, false, false, false, false] rfl rfl (any_of HT_.out (by kernel_rfl)) (fun _ _ _ h => h) (Or.inl ⟨by rfl, ?_⟩) ?_ ?_
    rotate_left
    · intro w'
      go_simp
      with_reducible rfl
    rotate_left
    · simp only [Act.put, List.setIfInBounds_toArray, List.set_cons_zero, List.set_cons_succ, i64_w, i32_w]
      rfl
    refine pure_ (i := 3) (N := some 71) (v := ?_) (a' := ?_) #[true, true, true, true, false, false, false, false, false, false, false, false, false, false] rfl rfl (any_of HT_.out (by kernel_rfl)) (fun _ _ _ h => h) (Or.inl ⟨by rfl, ?_⟩) ?_ ?_
    rotate_left
    · intro w'
      go_simp
      with_reducible rfl
    rotate_left
    · simp only [Act.put, List.setIfInBounds_toArray, List.set_cons_zero, List.set_cons_succ, i64_w, i32_w]
      rfl
    refine pure_ (i := 6) (N := some 74) (v := ?_) (a' := ?_) #[true, true, true, true, false, false, true, false, false, false, false, false, false, false] rfl rfl (any_of HT_.out (by kernel_rfl)) (fun _ _ _ h => h) (Or.inl ⟨by rfl, ?_⟩) ?_ ?_
    rotate_left
    · intro w'
      go_simp
      with_reducible rfl
    rotate_left
    · simp only [Act.put, List.setIfInBounds_toArray, List.set_cons_zero, List.set_cons_succ, i64_w, i32_w]
      rfl
    refine pure_ (i := 7) (N := some 75) (v := ?_) (a' := ?_) #[true, true, true, true, false, false, true, true, false, false, false, false, false, false] rfl rfl (any_of HT_.out (by kernel_rfl)) (fun _ _ _ h => h) (Or.inl ⟨by rfl, ?_⟩) ?_ ?_
    rotate_left
    · intro w'
      go_simp
      with_reducible rfl
    rotate_left
    · simp only [Act.put, List.setIfInBounds_toArray, List.set_cons_zero, List.set_cons_succ, i64_w, i32_w]
      rfl
    refine pure_ (i := 8) (N := some 76) (v := ?_) (a' := ?_) #[true, true, true, true, false, false, true, true, true, false, false, false, false, false] rfl rfl (any_of HT_.out (by kernel_rfl)) (fun _ _ _ h => h) (Or.inl ⟨by rfl, ?_⟩) ?_ ?_
    rotate_left
    · intro w'
      go_simp
      with_reducible rfl
    rotate_left
    · simp only [Act.put, List.setIfInBounds_toArray, List.set_cons_zero, List.set_cons_succ, i64_w, i32_w]
      rfl
    refine pure_ (i := 9) (N := some 77) (v := ?_) (a' := ?_) #[true, true, true, true, false, false, true, true, true, true, false, false, false, false] rfl rfl (any_of HT_.out (by kernel_rfl)) (fun _ _ _ h => h) (Or.inl ⟨by rfl, ?_⟩) ?_ ?_
    rotate_left
    · intro w'
      go_simp
      with_reducible rfl
    rotate_left
    · simp only [Act.put, List.setIfInBounds_toArray, List.set_cons_zero, List.set_cons_succ, i64_w, i32_w]
      rfl
    refine take_ (i := 4) (N := some 72) (v := ?_) (a' := ?_) #[true, true, true, true, true, false, true, true, true, true, false, false, false, false] rfl rfl (take_ofW HT_.out HW_.out (by kernel_rfl)) (fun _ _ _ h => h) (Or.inl ⟨by rfl, ?_⟩) hHeld ?_ ?_
    rotate_left
    · rintro w' ⟨s0, s1⟩
      go_simp
      with_reducible rfl
    rotate_left
    · simp only [Act.put, List.setIfInBounds_toArray, List.set_cons_zero, List.set_cons_succ, i64_w, i32_w]
      rfl
    refine take_ (i := 10) (N := some 78) (v := ?_) (a' := ?_) #[true, true, true, true, true, false, true, true, true, true, true, false, false, false] rfl rfl (take_ofW HT_.out HW_.out (by kernel_rfl)) (fun _ _ _ h => h) (Or.inl ⟨by rfl, ?_⟩) hHeld ?_ ?_
    rotate_left
    · rintro w' ⟨s0, s1⟩
      go_simp
      with_reducible rfl
    rotate_left
    · simp only [Act.put, List.setIfInBounds_toArray, List.set_cons_zero, List.set_cons_succ, i64_w, i32_w]
      rfl
    refine one_ (i := 5) (N := some 73) #[true, true, true, true, true, true, true, true, true, true, true, false, false, false] rfl rfl (one_of HT_.out (by kernel_rfl)) (by decide) (fun K hK => ?_)
    refine goes_ Try.func14 (by kernel_rfl) rfl #[.slice Ao47 t318.length co47, .int .i64 (rd l1 x9_4)] (by rfl) rfl rfl (by (try simp only [List.map_toArray, List.map_cons, List.map_nil]); first | done | rfl | (simp only [List.length_drop, List.length_take]; rfl)) ?_
    with_reducible refine (merge_Visible.calls k4 _ _ t318 (rd l1 x9_4) t330 _ ?side1 ?side2 A42.out).mono ?_
    (case side1 => repeat (first | exact (Kd.R_reads' HO_8.out).2.2 | (with_reducible refine Kd.C_alloc ?_ _) | (with_reducible refine Kd.C_drewN ?_ _) | (with_reducible refine Kd.C_drew ?_)))
    (case side2 => exact (Kd.R_reads' HO_8.out).2.1)
    rintro e w48 ⟨v331, rfl, ho0, hb⟩
    refine ⟨_, rfl, ?_⟩
    have n0_ := Aside0.mk (Kd.R_elder' (by (with_reducible repeat (first | apply Kd.R_alloc | apply Kd.R_drewN | apply Kd.R_drew)); exact HO_8.out) (Kd.R_base ho0) hb)
    have n1_ := Aside0.mk (Kd.R_lower (Kd.R_new' ho0 (Kd.R_lt (by (with_reducible repeat (first | apply Kd.R_alloc | apply Kd.R_drewN | apply Kd.R_drew)); exact HO_8.out))) (below_size (by repeat (first | (with_reducible first | exact HB.out | apply below_alloc | apply pw_below_drewN | apply below_drew1) | exact HB.out))))
    have n2_ := Aside0.mk (below_step (by repeat (first | (with_reducible first | exact HB.out | apply below_alloc | apply pw_below_drewN | apply below_drew1) | exact HB.out)) hb)
    clear HO_8
    clear HB
    have HO_8 := n0_
    have HO332 := n1_
    have HB := n2_
    clear n0_ n1_ n2_
    (try clear hb)
    (try clear hb2)
    (try clear hk)
    (try clear hi)
    (try clear ho0)
    refine hK.out _ _ ⟨((HB.out.cell (World.block_lt_of_cell? w _ hw329_0)).trans hw329_0), ((HB.out.cell (World.block_lt_of_cell? w _ hw333_0)).trans hw333_0)⟩ (fun hHeld => ?_)
    clear hK K
    refine norm_ (a' := ?_) ?_ ?_
    rotate_left
    · show Act.put _ (some 73) _ = _
      simp only [Act.put, List.setIfInBounds_toArray, List.set_cons_zero, List.set_cons_succ, i64_w, i32_w]
      rfl
    refine one_ (i := 11) (N := some 79) #[true, true, true, true, true, true, true, true, true, true, true, true, false, false] rfl rfl (one_of HT_.out (by kernel_rfl)) (by decide) (fun K hK => ?_)
    refine goes_ Try.func14 (by kernel_rfl) rfl #[.slice A0 l0.length c0, .int .i64 (rd l1 x9_4)] (by rfl) rfl rfl (by (try simp only [List.map_toArray, List.map_cons, List.map_nil]); first | done | rfl | (simp only [List.length_drop, List.length_take]; rfl)) ?_
    with_reducible refine (merge_Visible.calls k4 _ _ l0 (rd l1 x9_4) t334 _ ?side1 ?side2 A43.out).mono ?_
    (case side1 => repeat (first | exact (Kd.C_below HR0.out HB.out) | (with_reducible refine Kd.C_alloc ?_ _) | (with_reducible refine Kd.C_drewN ?_ _) | (with_reducible refine Kd.C_drew ?_)))
    (case side2 => exact HC0.out)
    rintro e w49 ⟨v335, rfl, ho0, hb⟩
    refine ⟨_, rfl, ?_⟩
    have n0_ := Aside0.mk (Kd.R_elder' (by (with_reducible repeat (first | apply Kd.R_alloc | apply Kd.R_drewN | apply Kd.R_drew)); exact HO_8.out) (Kd.R_base ho0) hb)
    have n1_ := Aside0.mk (Kd.R_elder' (by (with_reducible repeat (first | apply Kd.R_alloc | apply Kd.R_drewN | apply Kd.R_drew)); exact HO332.out) (Kd.R_base ho0) hb)
    have n2_ := Aside0.mk (Kd.R_lower (Kd.R_new' (Kd.R_new' ho0 (Kd.R_lt (by (with_reducible repeat (first | apply Kd.R_alloc | apply Kd.R_drewN | apply Kd.R_drew)); exact HO_8.out))) (Kd.R_lt (by (with_reducible repeat (first | apply Kd.R_alloc | apply Kd.R_drewN | apply Kd.R_drew)); exact HO332.out))) (below_size (by repeat (first | (with_reducible first | exact HB.out | apply below_alloc | apply pw_below_drewN | apply below_drew1) | exact HB.out))))
    have n3_ := Aside0.mk (below_step (by repeat (first | (with_reducible first | exact HB.out | apply below_alloc | apply pw_below_drewN | apply below_drew1) | exact HB.out)) hb)
    clear HO_8
    clear HO332
    clear HB
    have HO_8 := n0_
    have HO332 := n1_
    have HO336 := n2_
    have HB := n3_
    clear n0_ n1_ n2_ n3_
    (try clear hb)
    (try clear hb2)
    (try clear hk)
    (try clear hi)
    (try clear ho0)
    obtain ⟨Ao50, co50, eo50⟩ := Kd.R_slice HO332.out
    (first | subst eo50 | (injection eo50 with f1_ f2_ f3_; have f4_ := f1_.symm; have f5_ := f3_.symm; clear f1_ f2_ f3_; subst f4_; subst f5_))
    obtain ⟨Ao51, co51, eo51⟩ := Kd.R_slice HO336.out
    (first | subst eo51 | (injection eo51 with f1_ f2_ f3_; have f4_ := f1_.symm; have f5_ := f3_.symm; clear f1_ f2_ f3_; subst f4_; subst f5_))
    refine hK.out _ _ ⟨((HB.out.cell (World.block_lt_of_cell? w _ hw329_0)).trans hw329_0), ((HB.out.cell (World.block_lt_of_cell? w _ hw333_0)).trans hw333_0)⟩ (fun hHeld => ?_)
    clear hK K
    refine norm_ (a' := ?_) ?_ ?_
    rotate_left
    · show Act.put _ (some 79) _ = _
      simp only [Act.put, List.setIfInBounds_toArray, List.set_cons_zero, List.set_cons_succ, i64_w, i32_w]
      rfl
    refine one_ (i := 12) (N := some 80) #[true, true, true, true, true, true, true, true, true, true, true, true, true, false] rfl rfl (one_of HT_.out (by kernel_rfl)) (by decide) (fun K hK => ?_)
    refine goes_ Try.func13 (by kernel_rfl) rfl #[.slice Ao50 t330.length co50, .slice Ao51 t334.length co51] (by rfl) rfl rfl (by (try simp only [List.map_toArray, List.map_cons, List.map_nil]); first | done | rfl | (simp only [List.length_drop, List.length_take]; rfl)) ?_
    with_reducible refine (ravelinref6_Same.calls k4 _ _ t330 _ _ t334 true _ ?side1 ?side2 ?side3 ?side4 A44.out).mono ?_
    (case side1 => repeat (first | exact (Kd.R_reads' HO332.out).2.2 | (with_reducible refine Kd.C_alloc ?_ _) | (with_reducible refine Kd.C_drewN ?_ _) | (with_reducible refine Kd.C_drew ?_)))
    (case side2 => exact (Kd.R_reads' HO332.out).2.1)
    (case side3 => repeat (first | exact (Kd.R_reads' HO336.out).2.2 | (with_reducible refine Kd.C_alloc ?_ _) | (with_reducible refine Kd.C_drewN ?_ _) | (with_reducible refine Kd.C_drew ?_)))
    (case side4 => exact (Kd.R_reads' HO336.out).2.1)
    rintro e w' ⟨rfl, ⟨nd, rfl⟩⟩
    refine ⟨_, rfl, ?_⟩
    refine hK.out _ _ ⟨((HB.out.cell (World.block_lt_of_cell? w _ hw329_0)).trans hw329_0), ((HB.out.cell (World.block_lt_of_cell? w _ hw333_0)).trans hw333_0)⟩ (fun hHeld => ?_)
    clear hK K
    refine norm_ (a' := ?_) ?_ ?_
    rotate_left
    · show Act.put _ (some 80) _ = _
      simp only [Act.put, List.setIfInBounds_toArray, List.set_cons_zero, List.set_cons_succ, i64_w, i32_w]
      rfl
    refine pure_ (i := 13) (N := some 81) (v := ?_) (a' := ?_) #[true, true, true, true, true, true, true, true, true, true, true, true, true, true] rfl rfl (any_of HT_.out (by kernel_rfl)) (fun _ _ _ h => h) (Or.inl ⟨by rfl, ?_⟩) ?_ ?_
    rotate_left
    · intro w'
      go_simp
      with_reducible rfl
    rotate_left
    · simp only [Act.put, List.setIfInBounds_toArray, List.set_cons_zero, List.set_cons_succ, i64_w, i32_w]
      rfl
    refine done_ (done_of HT_.out (by kernel_rfl)) ?_
    try go_wp2
    go_roundg k4
    case measure => have := HJ5.out; have := HK2.out; have := HJ20.out; have := HK4.out; omega
    case rel => exact ⟨(wrap64 (x9_4 + 1)), (by first | rfl | (simp; done) | (simp [*]; done)), H', ⟨by have := HJ5.out; have := HK2.out; have := HJ20.out; have := HK4.out; omega⟩, ⟨by (with_reducible repeat (first | apply Kd.R_alloc | apply Kd.R_drewN | apply Kd.R_drew)); exact Kd.R_mono HO_8.out (fun _ hk => trivial)⟩, ⟨by repeat (first | (with_reducible first | exact HB.out | apply below_alloc | apply pw_below_drewN | apply below_drew1) | exact HB.out)⟩⟩
  rw [if_neg c40] at H
  have c40b0 : decide (x9_4 < (l1.length : Int)) = false := decide_eq_false c40
  clear c40
  have H' := Aside0.mk H
  clear H
  go_wp2
  go_loopg [10] k4 (fun kq v10 w' => ∃ (x10_5 : Int), v10 = .int .i64 x10_5 ∧ Aside0 (ravelinlaw11_MergeSame.l2 kq l0 t318 x10_5 = some r) ∧ Aside0 (kq ≤ k4) ∧ Aside0 (Kd.R k39 39 w' w.heap.size (fun _ => True) v319 t318) ∧ Aside0 (Below w.heap.size w w'))
  case atStart => exact ⟨(0), (by first | rfl | (simp; done) | (simp [*]; done)), H', ⟨Nat.le_refl _⟩, ⟨by (with_reducible repeat (first | apply Kd.R_alloc | apply Kd.R_drewN | apply Kd.R_drew)); exact HO_8.out⟩, ⟨by repeat (first | (with_reducible first | exact HB.out | apply below_alloc | apply pw_below_drewN | apply below_drew1) | exact HB.out)⟩⟩
  clear H'
  try clear c1
  try clear c2
  try clear p2
  try clear c3
  try clear p3
  try clear q3
  try clear hx3
  try clear c4
  try clear c5
  try clear p6
  try clear c8
  try clear c9
  try clear c10
  try clear c10b0
  try clear c10b1
  try clear c13
  try clear c14
  try clear c14b0
  try clear c15
  try clear c15b0
  try clear c16
  try clear c17
  try clear c18
  try clear c19
  try clear c24
  try clear c25
  try clear c25b0
  try clear c25b1
  try clear p31
  try clear q31
  try clear hx31
  try clear p32
  try clear q32
  try clear hx32
  try clear p33
  try clear q33
  try clear hx33
  try clear c39
  try clear c40
  try clear c40b0
  try clear c41
  try clear c41b0
  try clear c45
  try clear hx316_0
  try clear hx316_1
  try clear hx316_2
  try clear hx316_3
  try clear hx329_0
  try clear hx333_0
  try clear p2
  try clear p3
  try clear p31
  try clear p316
  try clear p329
  try clear p333
  try clear p6
  try clear q3
  try clear q31
  try clear q316
  try clear q329
  try clear q333
  obtain ⟨x10_5, rfl, HA, HK5, HO_8, HB⟩ := hrel
  cases gk with
  | zero => exact absurd HA.out (by simp [ravelinlaw11_MergeSame.l2])
  | succ k5 => ?_
  have H := HA.out
  clear HA
  simp only [ravelinlaw11_MergeSame.l2] at H
  by_cases c52 : x10_5 < (t318.length : Int)
  rotate_left
  · rw [if_neg c52] at H
    have c52b0 : decide (x10_5 < (t318.length : Int)) = false := decide_eq_false c52
    clear c52
    obtain rfl := Option.some.inj H
    obtain ⟨Ao68, co68, eo68⟩ := Kd.R_slice HO_8.out
    subst eo68
    go_wp2
    go_ret
    exact ⟨by first | rfl | (simp [errW_none, errW_some] <;> rfl) | (simp [*, errW_none, errW_some] <;> rfl), by repeat (first | (with_reducible first | exact HB.out | apply below_alloc | apply pw_below_drewN | apply below_drew1) | exact HB.out)⟩
  rw [if_pos c52] at H
  have c52b0 : decide (x10_5 < (t318.length : Int)) = true := decide_eq_true c52
  clear c52
  by_cases c53 : 0 ≤ x10_5
  rotate_left
  · rw [if_neg c53] at H
    exact absurd H (by simp)
  rw [if_pos c53] at H
  have c53b0 : decide (0 ≤ x10_5) = true := decide_eq_true c53
  clear c53
  replace H := Option.bind_eq_some_iff.mp H
  obtain ⟨⟨t340, t341, t342, t343, t344⟩, A540, H⟩ := H
  replace H : (if t344 = true then (if (!(t340.toList == (((rd_T39 t318 x10_5).f0).toList)) || (!(t341 == ((rd_T39 t318 x10_5).f1)) || (!(t342 == ((rd_T39 t318 x10_5).f2)) || (!(t343.toList == (((rd_T39 t318 x10_5).f3).toList)))))) = true then (some false) else (ravelinlaw11_MergeSame.l2 k5 l0 t318 (wrap64 (x10_5 + 1)))) else (some false)) = some r := H
  have A54 := Aside0.mk A540
  clear A540
  by_cases c55 : t344 = true
  rotate_left
  · replace c55 := Bool.eq_false_iff.mpr c55
    subst c55
    have H1 : (some false) = some r := by rw [if_neg (show ¬ (false = true) by decide)] at H; exact H
    clear H
    have H := H1
    clear H1
    exact absurd ((Option.some.inj H).trans HR_.out) (by decide)
  subst c55
  have H1 : (if (!(t340.toList == (((rd_T39 t318 x10_5).f0).toList)) || (!(t341 == ((rd_T39 t318 x10_5).f1)) || (!(t342 == ((rd_T39 t318 x10_5).f2)) || (!(t343.toList == (((rd_T39 t318 x10_5).f3).toList)))))) = true then (some false) else (ravelinlaw11_MergeSame.l2 k5 l0 t318 (wrap64 (x10_5 + 1)))) = some r := by rw [if_pos rfl] at H; exact H
  clear H
  have H := H1
  clear H1
  by_cases c56 : (!(t340.toList == (((rd_T39 t318 x10_5).f0).toList)) || (!(t341 == ((rd_T39 t318 x10_5).f1)) || (!(t342 == ((rd_T39 t318 x10_5).f2)) || (!(t343.toList == (((rd_T39 t318 x10_5).f3).toList)))))) = true
  · rw [if_pos c56] at H
    have c56b0 : (!(t340.toList == (((rd_T39 t318 x10_5).f0).toList)) || (!(t341 == ((rd_T39 t318 x10_5).f1)) || (!(t342 == ((rd_T39 t318 x10_5).f2)) || (!(t343.toList == (((rd_T39 t318 x10_5).f3).toList)))))) = true := c56
    clear c56
    exact absurd ((Option.some.inj H).trans HR_.out) (by decide)
  rw [if_neg c56] at H
  have c56b0 : (!(t340.toList == (((rd_T39 t318 x10_5).f0).toList)) || (!(t341 == ((rd_T39 t318 x10_5).f1)) || (!(t342 == ((rd_T39 t318 x10_5).f2)) || (!(t343.toList == (((rd_T39 t318 x10_5).f3).toList)))))) = false := by simpa using c56
  clear c56
  have H' := Aside0.mk H
  clear H
  obtain ⟨Ao57, co57, eo57⟩ := Kd.R_slice HO_8.out
  subst eo57
  try go_wp2
  have n0_ := Aside0.mk (Kd.R_drew HO_8.out)
  have n1_ := Aside0.mk (below_drew1 HB.out)
  clear HO_8
  clear HB
  have HO_8 := n0_
  have HB := n1_
  clear n0_ n1_
  have p338 : 0 ≤ (x10_5 : Int) := of_decide_eq_true (by first | (with_reducible assumption) | assumption)
  have q338 : x10_5 < (t318.length : Int) := of_decide_eq_true (by first | (with_reducible assumption) | assumption)
  obtain ⟨ad338, e338, hx338_0, hx338_1, hx338_2, hx338_3⟩ := at_T39 (Kd.R_reads' HO_8.out).2.2 x10_5 p338 q338
  cases e338
  replace p338 := eq_true p338
  replace q338 := eq_true q338
  have p339 : 0 ≤ (x10_5 : Int) := of_decide_eq_true (by first | (with_reducible assumption) | assumption)
  have q339 : x10_5 < (t318.length : Int) := of_decide_eq_true (by first | (with_reducible assumption) | assumption)
  obtain ⟨ad339, e339, hx339_0, hx339_1, hx339_2, hx339_3⟩ := at_T39 (Kd.R_reads' HO_8.out).2.2 x10_5 p339 q339
  obtain rfl : ad338 = ad339 := (by injection e339)
  replace p339 := eq_true p339
  replace q339 := eq_true q339
  refine start_ (n := 18) (S := fun w' => w'.cell? (ad338.add ((x10_5).toNat * 4)) = some (.string ((rd_T39 t318 x10_5).f0)) ∧ w'.cell? ⟨(ad338.add ((x10_5).toNat * 4)).block, (ad338.add ((x10_5).toNat * 4)).off + 1, none⟩ = some (.int .i64 ((rd_T39 t318 x10_5).f1)) ∧ w'.cell? ⟨(ad338.add ((x10_5).toNat * 4)).block, (ad338.add ((x10_5).toNat * 4)).off + 2, none⟩ = some (.bool ((rd_T39 t318 x10_5).f2)) ∧ w'.cell? ⟨(ad338.add ((x10_5).toNat * 4)).block, (ad338.add ((x10_5).toNat * 4)).off + 3, none⟩ = some (.string ((rd_T39 t318 x10_5).f3)) ∧ w'.cell? (ad338.add ((x10_5).toNat * 4)) = some (.string ((rd_T39 t318 x10_5).f0)) ∧ w'.cell? ⟨(ad338.add ((x10_5).toNat * 4)).block, (ad338.add ((x10_5).toNat * 4)).off + 1, none⟩ = some (.int .i64 ((rd_T39 t318 x10_5).f1)) ∧ w'.cell? ⟨(ad338.add ((x10_5).toNat * 4)).block, (ad338.add ((x10_5).toNat * 4)).off + 2, none⟩ = some (.bool ((rd_T39 t318 x10_5).f2)) ∧ w'.cell? ⟨(ad338.add ((x10_5).toNat * 4)).block, (ad338.add ((x10_5).toNat * 4)).off + 3, none⟩ = some (.string ((rd_T39 t318 x10_5).f3))) (ds := []) #[false, false, false, false, false, false, false, false, false, false, false, false, false, false, false, false, false, false] (by kernel_rfl) rfl rfl ⟨hx338_0, hx338_1, hx338_2, hx338_3, hx339_0, hx339_1, hx339_2, hx339_3⟩ (fun hHeld => ?_); refine with_tabW ravelinlaw11_MergeSame.tab21 ravelinlaw11_MergeSame.bits21 (fun HT_ HW_ => ?_)
  generalize wr.drew = w58 at HO_8 HB hx338_0 hx338_1 hx338_2 hx338_3 hx339_0 hx339_1 hx339_2 hx339_3 hHeld ⊢
  refine pure_ (i := 0) (N := some 89) (v := ?_) (a' := ?_) #[true, false, false, false, false, false, false, false, false, false, false, false, false, false, false, false, false, false] rfl rfl (any_of HT_.out (by kernel_rfl)) (fun _ _ _ h => h) (Or.inl ⟨by rfl, ?_⟩) ?_ ?_
  rotate_left
  · intro w'
    go_simp
    with_reducible rfl
  rotate_left
  · simp only [Act.put, List.setIfInBounds_toArray, List.set_cons_zero, List.set_cons_succ, i64_w, i32_w]
    rfl
  refine pure_ (i := 1) (N := some 90) (v := ?_) (a' := ?_) #[true, true, false, false, false, false, false, false, false, false, false, false, false, false, false, false, false, false] rfl rfl (any_of HT_.out (by kernel_rfl)) (fun _ _ _ h => h) (Or.inl ⟨by rfl, ?_⟩) ?_ ?_
  rotate_left
  · intro w'
    go_simp
    with_reducible rfl
  rotate_left
  · simp only [Act.put, List.setIfInBounds_toArray, List.set_cons_zero, List.set_cons_succ, i64_w, i32_w]
    rfl
  refine pure_ (i := 2) (N := some 91) (v := ?_) (a' := ?_) #[true, true, true, false, false, false, false, false, false, false, false, false, false, false, false, false, false, false] rfl rfl (any_of HT_.out (by kernel_rfl)) (fun _ _ _ h => h) (Or.inl ⟨by rfl, ?_⟩) ?_ ?_
  rotate_left
  · intro w'
    go_simp
    with_reducible rfl
  rotate_left
  · simp only [Act.put, List.setIfInBounds_toArray, List.set_cons_zero, List.set_cons_succ, i64_w, i32_w]
    rfl
  refine pure_ (i := 3) (N := some 92) (v := ?_) (a' := ?_) #[true, true, true, true, false, false, false, false, false, false, false, false, false, false, false, false, false, false] rfl rfl (any_of HT_.out (by kernel_rfl)) (fun _ _ _ h => h) (Or.inl ⟨by rfl, ?_⟩) ?_ ?_
  rotate_left
  · intro w'
    go_simp
    with_reducible rfl
  rotate_left
  · simp only [Act.put, List.setIfInBounds_toArray, List.set_cons_zero, List.set_cons_succ, i64_w, i32_w]
    rfl
  refine pure_ (i := 4) (N := some 93) (v := ?_) (a' := ?_) #[true, true, true, true, true, false, false, false, false, false, false, false, false, false, false, false, false, false] rfl rfl (any_of HT_.out (by kernel_rfl)) (fun _ _ _ h => h) (Or.inl ⟨by rfl, ?_⟩) ?_ ?_
  rotate_left
  · intro w'
    go_simp
    with_reducible rfl
  rotate_left
  · simp only [Act.put, List.setIfInBounds_toArray, List.set_cons_zero, List.set_cons_succ, i64_w, i32_w]
    rfl
  refine pure_ (i := 6) (N := some 95) (v := ?_) (a' := ?_) #[true, true, true, true, true, false, true, false, false, false, false, false, false, false, false, false, false, false] rfl rfl (any_of HT_.out (by kernel_rfl)) (fun _ _ _ h => h) (Or.inl ⟨by rfl, ?_⟩) ?_ ?_
  rotate_left
  · intro w'
    go_simp
    with_reducible rfl
  rotate_left
  · simp only [Act.put, List.setIfInBounds_toArray, List.set_cons_zero, List.set_cons_succ, i64_w, i32_w]
    rfl
  refine pure_ (i := 7) (N := some 96) (v := ?_) (a' := ?_) #[true, true, true, true, true, false, true, true, false, false, false, false, false, false, false, false, false, false] rfl rfl (any_of HT_.out (by kernel_rfl)) (fun _ _ _ h => h) (Or.inl ⟨by rfl, ?_⟩) ?_ ?_
  rotate_left
  · intro w'
    go_simp
    with_reducible rfl
  rotate_left
  · simp only [Act.put, List.setIfInBounds_toArray, List.set_cons_zero, List.set_cons_succ, i64_w, i32_w]
    rfl
  refine pure_ (i := 8) (N := some 97) (v := ?_) (a' := ?_) #[true, true, true, true, true, false, true, true, true, false, false, false, false, false, false, false, false, false] rfl rfl (any_of HT_.out (by kernel_rfl)) (fun _ _ _ h => h) (Or.inl ⟨by rfl, ?_⟩) ?_ ?_
  rotate_left
  · intro w'
    go_simp
    with_reducible rfl
  rotate_left
  · simp only [Act.put, List.setIfInBounds_toArray, List.set_cons_zero, List.set_cons_succ, i64_w, i32_w]
    rfl
  refine pure_ (i := 9) (N := some 98) (v := ?_) (a' := ?_) #[true, true, true, true, true, false, true, true, true, true, false, false, false, false, false, false, false, false] rfl rfl (any_of HT_.out (by kernel_rfl)) (fun _ _ _ h => h) (Or.inl ⟨by rfl, ?_⟩) ?_ ?_
  rotate_left
  · intro w'
    go_simp
    with_reducible rfl
  rotate_left
  · simp only [Act.put, List.setIfInBounds_toArray, List.set_cons_zero, List.set_cons_succ, i64_w, i32_w]
    rfl
  refine take_ (i := 5) (N := some 94) (v := ?_) (a' := ?_) #[true, true, true, true, true, true, true, true, true, true, false, false, false, false, false, false, false, false] rfl rfl (take_ofW HT_.out HW_.out (by kernel_rfl)) (fun _ _ _ h => h) (Or.inl ⟨by rfl, ?_⟩) hHeld ?_ ?_
  rotate_left
  · rintro w' ⟨s0, s1, s2, s3, s4, s5, s6, s7⟩
    go_simp
    with_reducible rfl
  rotate_left
  · simp only [Act.put, List.setIfInBounds_toArray, List.set_cons_zero, List.set_cons_succ, i64_w, i32_w]
    rfl
  refine take_ (i := 10) (N := some 99) (v := ?_) (a' := ?_) #[true, true, true, true, true, true, true, true, true, true, true, false, false, false, false, false, false, false] rfl rfl (take_ofW HT_.out HW_.out (by kernel_rfl)) (fun _ _ _ h => h) (Or.inl ⟨by rfl, ?_⟩) hHeld ?_ ?_
  rotate_left
  · rintro w' ⟨s0, s1, s2, s3, s4, s5, s6, s7⟩
    go_simp
    with_reducible rfl
  rotate_left
  · simp only [Act.put, List.setIfInBounds_toArray, List.set_cons_zero, List.set_cons_succ, i64_w, i32_w]
    rfl
  refine join_ (σ := Nat) 2 #[true, true, true, true, true, true, true, true, true, true, true, true, true, true, true, true, false, false] (fun s_ => [(100, .tuple #[.agg #[.string t340, .int .i64 t341, .bool t342, .string t343], .bool true]), (11, .pointer (some ⟨s_, 0, none⟩)), (88, .tuple #[.agg #[.string t340, .int .i64 t341, .bool t342, .string t343], .bool true]), (101, .agg #[.string t340, .int .i64 t341, .bool t342, .string t343]), (102, .bool true)]) (fun s_ w' => (w'.cell? (ad338.add ((x10_5).toNat * 4)) = some (.string ((rd_T39 t318 x10_5).f0)) ∧ w'.cell? ⟨(ad338.add ((x10_5).toNat * 4)).block, (ad338.add ((x10_5).toNat * 4)).off + 1, none⟩ = some (.int .i64 ((rd_T39 t318 x10_5).f1)) ∧ w'.cell? ⟨(ad338.add ((x10_5).toNat * 4)).block, (ad338.add ((x10_5).toNat * 4)).off + 2, none⟩ = some (.bool ((rd_T39 t318 x10_5).f2)) ∧ w'.cell? ⟨(ad338.add ((x10_5).toNat * 4)).block, (ad338.add ((x10_5).toNat * 4)).off + 3, none⟩ = some (.string ((rd_T39 t318 x10_5).f3)) ∧ w'.cell? (ad338.add ((x10_5).toNat * 4)) = some (.string ((rd_T39 t318 x10_5).f0)) ∧ w'.cell? ⟨(ad338.add ((x10_5).toNat * 4)).block, (ad338.add ((x10_5).toNat * 4)).off + 1, none⟩ = some (.int .i64 ((rd_T39 t318 x10_5).f1)) ∧ w'.cell? ⟨(ad338.add ((x10_5).toNat * 4)).block, (ad338.add ((x10_5).toNat * 4)).off + 2, none⟩ = some (.bool ((rd_T39 t318 x10_5).f2)) ∧ w'.cell? ⟨(ad338.add ((x10_5).toNat * 4)).block, (ad338.add ((x10_5).toNat * 4)).off + 3, none⟩ = some (.string ((rd_T39 t318 x10_5).f3))) ∧ (Kd.R k39 39 w' w.heap.size (fun k_ => k_ ≠ s_) (.slice (some ad338) t318.length co57) t318) ∧ (w'.heap[s_]? = some (.cells #[.string (⟨#[]⟩ : ByteArray), .int .i64 0, .bool false, .string (⟨#[]⟩ : ByteArray)] 39 (0, 0))) ∧ (w.heap.size ≤ s_) ∧ (w.heap.size ≤ s_) ∧ (Below w.heap.size w w')) ?_ ?_
  rotate_left
  · intro hCont
    refine two_ (i := 11) (j := 15) (Ni := some 100) (Nj := some 11) #[true, true, true, true, true, true, true, true, true, true, true, true, false, false, false, false, false, false] #[true, true, true, true, true, true, true, true, true, true, true, false, false, false, false, true, false, false] rfl rfl rfl rfl (two_of HT_.out (by kernel_rfl)) (by decide) (by decide) (fun K hK => ?_) (fun K hK => ?_)
    · skip
      refine goes_ Try.func20 (by kernel_rfl) rfl #[.slice A0 l0.length c0, .string ((rd_T39 t318 x10_5).f0), .int .i64 ((rd_T39 t318 x10_5).f1)] (by rfl) rfl rfl (by (try simp only [List.map_toArray, List.map_cons, List.map_nil]); first | done | rfl | (simp only [List.length_drop, List.length_take]; rfl)) ?_
      with_reducible refine (ravelinref6_Newest.calls k5 _ _ l0 ((rd_T39 t318 x10_5).f0) ((rd_T39 t318 x10_5).f1) t340 t341 t342 t343 true _ ?side1 ?side2 A54.out).mono ?_
      (case side1 => repeat (first | exact (Kd.C_below HR0.out HB.out) | (with_reducible refine Kd.C_alloc ?_ _) | (with_reducible refine Kd.C_drewN ?_ _) | (with_reducible refine Kd.C_drew ?_)))
      (case side2 => exact HC0.out)
      rintro e w59 ⟨rfl, hb⟩
      have HS0_ := (hb.cell (World.block_lt_of_cell? _ _ (hHeld.1))).trans (hHeld.1)
      have HS1_ := (hb.cell (World.block_lt_of_cell? _ _ (hHeld.2.1))).trans (hHeld.2.1)
      have HS2_ := (hb.cell (World.block_lt_of_cell? _ _ (hHeld.2.2.1))).trans (hHeld.2.2.1)
      have HS3_ := (hb.cell (World.block_lt_of_cell? _ _ (hHeld.2.2.2.1))).trans (hHeld.2.2.2.1)
      have HS4_ := (hb.cell (World.block_lt_of_cell? _ _ (hHeld.2.2.2.2.1))).trans (hHeld.2.2.2.2.1)
      have HS5_ := (hb.cell (World.block_lt_of_cell? _ _ (hHeld.2.2.2.2.2.1))).trans (hHeld.2.2.2.2.2.1)
      have HS6_ := (hb.cell (World.block_lt_of_cell? _ _ (hHeld.2.2.2.2.2.2.1))).trans (hHeld.2.2.2.2.2.2.1)
      have HS7_ := (hb.cell (World.block_lt_of_cell? _ _ (hHeld.2.2.2.2.2.2.2))).trans (hHeld.2.2.2.2.2.2.2)
      refine ⟨_, rfl, ?_⟩
      have n0_ := Aside0.mk (Kd.R_below (by (with_reducible repeat (first | apply Kd.R_alloc | apply Kd.R_drewN | apply Kd.R_drew)); exact HO_8.out) hb)
      have n1_ := Aside0.mk (below_step (by repeat (first | (with_reducible first | exact HB.out | apply below_alloc | apply pw_below_drewN | apply below_drew1) | exact HB.out)) hb)
      clear HO_8
      clear HB
      have HO_8 := n0_
      have HB := n1_
      clear n0_ n1_
      (try clear hb)
      (try clear hb2)
      (try clear hk)
      (try clear hi)
      refine hK.out _ _ ⟨HS0_, HS1_, HS2_, HS3_, HS4_, HS5_, HS6_, HS7_⟩ (fun hHeld => ?_)
      clear hK K
      refine norm_ (a' := ?_) ?_ ?_
      rotate_left
      · show Act.put _ (some 100) _ = _
        simp only [Act.put, List.setIfInBounds_toArray, List.set_cons_zero, List.set_cons_succ, i64_w, i32_w]
        rfl
      refine pure_ (i := 12) (N := some 88) (v := ?_) (a' := ?_) #[true, true, true, true, true, true, true, true, true, true, true, true, true, false, false, false, false, false] rfl rfl (any_of HT_.out (by kernel_rfl)) (fun _ _ _ h => h) (Or.inl ⟨by rfl, ?_⟩) ?_ ?_
      rotate_left
      · intro w'
        go_simp
        with_reducible rfl
      rotate_left
      · simp only [Act.put, List.setIfInBounds_toArray, List.set_cons_zero, List.set_cons_succ, i64_w, i32_w]
        rfl
      refine pure_ (i := 13) (N := some 101) (v := ?_) (a' := ?_) #[true, true, true, true, true, true, true, true, true, true, true, true, true, true, false, false, false, false] rfl rfl (any_of HT_.out (by kernel_rfl)) (fun _ _ _ h => h) (Or.inl ⟨by rfl, ?_⟩) ?_ ?_
      rotate_left
      · intro w'
        go_simp
        with_reducible rfl
      rotate_left
      · simp only [Act.put, List.setIfInBounds_toArray, List.set_cons_zero, List.set_cons_succ, i64_w, i32_w]
        rfl
      refine pure_ (i := 14) (N := some 102) (v := ?_) (a' := ?_) #[true, true, true, true, true, true, true, true, true, true, true, true, true, true, true, false, false, false] rfl rfl (any_of HT_.out (by kernel_rfl)) (fun _ _ _ h => h) (Or.inl ⟨by rfl, ?_⟩) ?_ ?_
      rotate_left
      · intro w'
        go_simp
        with_reducible rfl
      rotate_left
      · simp only [Act.put, List.setIfInBounds_toArray, List.set_cons_zero, List.set_cons_succ, i64_w, i32_w]
        rfl
      refine one_ (i := 15) (N := some 11) #[true, true, true, true, true, true, true, true, true, true, true, true, true, true, true, true, false, false] rfl rfl (one_of HT_.out (by kernel_rfl)) (by decide) (fun K hK => ?_)
      refine box_step ?hg (N := 11) ?hd (cs := #[.string (⟨#[]⟩ : ByteArray), .int .i64 0, .bool false, .string (⟨#[]⟩ : ByteArray)]) (t := 39) ?hr ?_; (case hd => rfl); (case hg => rfl); (case hr => first | (go_simp; done) | (go_simp; rfl))
      intro gb345 hg w60 hbox hb
      have HS0_ := (hb.cell (World.block_lt_of_cell? _ _ (hHeld.1))).trans (hHeld.1)
      have HS1_ := (hb.cell (World.block_lt_of_cell? _ _ (hHeld.2.1))).trans (hHeld.2.1)
      have HS2_ := (hb.cell (World.block_lt_of_cell? _ _ (hHeld.2.2.1))).trans (hHeld.2.2.1)
      have HS3_ := (hb.cell (World.block_lt_of_cell? _ _ (hHeld.2.2.2.1))).trans (hHeld.2.2.2.1)
      have HS4_ := (hb.cell (World.block_lt_of_cell? _ _ (hHeld.2.2.2.2.1))).trans (hHeld.2.2.2.2.1)
      have HS5_ := (hb.cell (World.block_lt_of_cell? _ _ (hHeld.2.2.2.2.2.1))).trans (hHeld.2.2.2.2.2.1)
      have HS6_ := (hb.cell (World.block_lt_of_cell? _ _ (hHeld.2.2.2.2.2.2.1))).trans (hHeld.2.2.2.2.2.2.1)
      have HS7_ := (hb.cell (World.block_lt_of_cell? _ _ (hHeld.2.2.2.2.2.2.2))).trans (hHeld.2.2.2.2.2.2.2)
      have n0_ := Aside0.mk (Kd.R_below (Kd.R_elderB (by (with_reducible repeat (first | apply Kd.R_alloc | apply Kd.R_drewN | apply Kd.R_drew)); exact HO_8.out) gb345 (Nat.le_of_eq hg.symm)) hb)
      have n1_ := Aside0.mk (below_step (by repeat (first | (with_reducible first | exact HB.out | apply below_alloc | apply pw_below_drewN | apply below_drew1) | exact HB.out)) hb)
      have n2_ := Aside0.mk (hbox)
      have n3_ := Aside0.mk ((by rw [hg]; exact (below_size (by repeat (first | (with_reducible first | exact HB.out | apply below_alloc | apply pw_below_drewN | apply below_drew1) | exact HB.out))) : w.heap.size ≤ gb345))
      have n4_ := Aside0.mk ((by rw [hg]; exact (below_size (by repeat (first | (with_reducible first | exact HB.out | apply below_alloc | apply pw_below_drewN | apply below_drew1) | exact HB.out))) : w.heap.size ≤ gb345))
      clear HO_8
      clear HB
      have HO_8 := n0_
      have HB := n1_
      have BK345 := n2_
      have GW345 := n3_
      have GE345 := n4_
      clear n0_ n1_ n2_ n3_ n4_
      clear hb hbox hg
      refine hK.out _ _ ⟨HS0_, HS1_, HS2_, HS3_, HS4_, HS5_, HS6_, HS7_⟩ (fun hHeld => ?_)
      clear hK K
      refine norm_ (a' := ?_) ?_ ?_
      rotate_left
      · show Act.put _ (some 11) _ = _
        simp only [Act.put, List.setIfInBounds_toArray, List.set_cons_zero, List.set_cons_succ, i64_w, i32_w]
        rfl
      exact norm_ (by simp only [putAll, Act.put, List.setIfInBounds_toArray, List.set_cons_zero, List.set_cons_succ]) (hCont (gb345) _ ⟨hHeld, (by (with_reducible repeat (first | apply Kd.R_alloc | apply Kd.R_drewN | apply Kd.R_drew)); exact Kd.R_mono HO_8.out (fun _ hk => hk.2)), (by (with_reducible repeat (first | refine blk_drewN ?_ _ | refine blk_drew ?_ | refine blk_alloc ?_ _)); exact BK345.out), GW345.out, GE345.out, (by repeat (first | (with_reducible first | exact HB.out | apply below_alloc | apply pw_below_drewN | apply below_drew1 | refine below_set ?_ GE345.out) | exact HB.out))⟩)
    skip
    refine box_step ?hg (N := 11) ?hd (cs := #[.string (⟨#[]⟩ : ByteArray), .int .i64 0, .bool false, .string (⟨#[]⟩ : ByteArray)]) (t := 39) ?hr ?_; (case hd => rfl); (case hg => rfl); (case hr => first | (go_simp; done) | (go_simp; rfl))
    intro gb345 hg w59 hbox hb
    have HS0_ := (hb.cell (World.block_lt_of_cell? _ _ (hHeld.1))).trans (hHeld.1)
    have HS1_ := (hb.cell (World.block_lt_of_cell? _ _ (hHeld.2.1))).trans (hHeld.2.1)
    have HS2_ := (hb.cell (World.block_lt_of_cell? _ _ (hHeld.2.2.1))).trans (hHeld.2.2.1)
    have HS3_ := (hb.cell (World.block_lt_of_cell? _ _ (hHeld.2.2.2.1))).trans (hHeld.2.2.2.1)
    have HS4_ := (hb.cell (World.block_lt_of_cell? _ _ (hHeld.2.2.2.2.1))).trans (hHeld.2.2.2.2.1)
    have HS5_ := (hb.cell (World.block_lt_of_cell? _ _ (hHeld.2.2.2.2.2.1))).trans (hHeld.2.2.2.2.2.1)
    have HS6_ := (hb.cell (World.block_lt_of_cell? _ _ (hHeld.2.2.2.2.2.2.1))).trans (hHeld.2.2.2.2.2.2.1)
    have HS7_ := (hb.cell (World.block_lt_of_cell? _ _ (hHeld.2.2.2.2.2.2.2))).trans (hHeld.2.2.2.2.2.2.2)
    have n0_ := Aside0.mk (Kd.R_below (Kd.R_elderB (by (with_reducible repeat (first | apply Kd.R_alloc | apply Kd.R_drewN | apply Kd.R_drew)); exact HO_8.out) gb345 (Nat.le_of_eq hg.symm)) hb)
    have n1_ := Aside0.mk (below_step (by repeat (first | (with_reducible first | exact HB.out | apply below_alloc | apply pw_below_drewN | apply below_drew1) | exact HB.out)) hb)
    have n2_ := Aside0.mk (hbox)
    have n3_ := Aside0.mk ((by rw [hg]; exact (below_size (by repeat (first | (with_reducible first | exact HB.out | apply below_alloc | apply pw_below_drewN | apply below_drew1) | exact HB.out))) : w.heap.size ≤ gb345))
    have n4_ := Aside0.mk ((by rw [hg]; exact (below_size (by repeat (first | (with_reducible first | exact HB.out | apply below_alloc | apply pw_below_drewN | apply below_drew1) | exact HB.out))) : w.heap.size ≤ gb345))
    clear HO_8
    clear HB
    have HO_8 := n0_
    have HB := n1_
    have BK345 := n2_
    have GW345 := n3_
    have GE345 := n4_
    clear n0_ n1_ n2_ n3_ n4_
    clear hb hbox hg
    refine hK.out _ _ ⟨HS0_, HS1_, HS2_, HS3_, HS4_, HS5_, HS6_, HS7_⟩ (fun hHeld => ?_)
    clear hK K
    refine norm_ (a' := ?_) ?_ ?_
    rotate_left
    · show Act.put _ (some 11) _ = _
      simp only [Act.put, List.setIfInBounds_toArray, List.set_cons_zero, List.set_cons_succ, i64_w, i32_w]
      rfl
    refine one_ (i := 11) (N := some 100) #[true, true, true, true, true, true, true, true, true, true, true, true, false, false, false, true, false, false] rfl rfl (one_of HT_.out (by kernel_rfl)) (by decide) (fun K hK => ?_)
    refine goes_ Try.func20 (by kernel_rfl) rfl #[.slice A0 l0.length c0, .string ((rd_T39 t318 x10_5).f0), .int .i64 ((rd_T39 t318 x10_5).f1)] (by rfl) rfl rfl (by (try simp only [List.map_toArray, List.map_cons, List.map_nil]); first | done | rfl | (simp only [List.length_drop, List.length_take]; rfl)) ?_
    with_reducible refine (ravelinref6_Newest.calls k5 _ _ l0 ((rd_T39 t318 x10_5).f0) ((rd_T39 t318 x10_5).f1) t340 t341 t342 t343 true _ ?side1 ?side2 A54.out).mono ?_
    (case side1 => repeat (first | exact (Kd.C_below HR0.out HB.out) | (with_reducible refine Kd.C_alloc ?_ _) | (with_reducible refine Kd.C_drewN ?_ _) | (with_reducible refine Kd.C_drew ?_)))
    (case side2 => exact HC0.out)
    rintro e w60 ⟨rfl, hb⟩
    have HS0_ := (hb.cell (World.block_lt_of_cell? _ _ (hHeld.1))).trans (hHeld.1)
    have HS1_ := (hb.cell (World.block_lt_of_cell? _ _ (hHeld.2.1))).trans (hHeld.2.1)
    have HS2_ := (hb.cell (World.block_lt_of_cell? _ _ (hHeld.2.2.1))).trans (hHeld.2.2.1)
    have HS3_ := (hb.cell (World.block_lt_of_cell? _ _ (hHeld.2.2.2.1))).trans (hHeld.2.2.2.1)
    have HS4_ := (hb.cell (World.block_lt_of_cell? _ _ (hHeld.2.2.2.2.1))).trans (hHeld.2.2.2.2.1)
    have HS5_ := (hb.cell (World.block_lt_of_cell? _ _ (hHeld.2.2.2.2.2.1))).trans (hHeld.2.2.2.2.2.1)
    have HS6_ := (hb.cell (World.block_lt_of_cell? _ _ (hHeld.2.2.2.2.2.2.1))).trans (hHeld.2.2.2.2.2.2.1)
    have HS7_ := (hb.cell (World.block_lt_of_cell? _ _ (hHeld.2.2.2.2.2.2.2))).trans (hHeld.2.2.2.2.2.2.2)
    refine ⟨_, rfl, ?_⟩
    have n0_ := Aside0.mk (Kd.R_below (by (with_reducible repeat (first | apply Kd.R_alloc | apply Kd.R_drewN | apply Kd.R_drew)); exact HO_8.out) hb)
    have n1_ := Aside0.mk (blk_below (g := gb345) (o := .cells #[.string (⟨#[]⟩ : ByteArray), .int .i64 0, .bool false, .string (⟨#[]⟩ : ByteArray)] 39 (0, 0)) (by (with_reducible repeat (first | refine blk_drewN ?_ _ | refine blk_drew ?_ | refine blk_alloc ?_ _)); exact BK345.out) hb)
    have n2_ := Aside0.mk (below_step (by repeat (first | (with_reducible first | exact HB.out | apply below_alloc | apply pw_below_drewN | apply below_drew1 | refine below_set ?_ GE345.out) | exact HB.out)) hb)
    clear HO_8
    clear BK345
    clear HB
    have HO_8 := n0_
    have BK345 := n1_
    have HB := n2_
    clear n0_ n1_ n2_
    (try clear hb)
    (try clear hb2)
    (try clear hk)
    (try clear hi)
    refine hK.out _ _ ⟨HS0_, HS1_, HS2_, HS3_, HS4_, HS5_, HS6_, HS7_⟩ (fun hHeld => ?_)
    clear hK K
    refine norm_ (a' := ?_) ?_ ?_
    rotate_left
    · show Act.put _ (some 100) _ = _
      simp only [Act.put, List.setIfInBounds_toArray, List.set_cons_zero, List.set_cons_succ, i64_w, i32_w]
      rfl
    refine pure_ (i := 12) (N := some 88) (v := ?_) (a' := ?_) #[true, true, true, true, true, true, true, true, true, true, true, true, true, false, false, true, false, false] rfl rfl (any_of HT_.out (by kernel_rfl)) (fun _ _ _ h => h) (Or.inl ⟨by rfl, ?_⟩) ?_ ?_
    rotate_left
    · intro w'
      go_simp
      with_reducible rfl
    rotate_left
    · simp only [Act.put, List.setIfInBounds_toArray, List.set_cons_zero, List.set_cons_succ, i64_w, i32_w]
      rfl
    refine pure_ (i := 13) (N := some 101) (v := ?_) (a' := ?_) #[true, true, true, true, true, true, true, true, true, true, true, true, true, true, false, true, false, false] rfl rfl (any_of HT_.out (by kernel_rfl)) (fun _ _ _ h => h) (Or.inl ⟨by rfl, ?_⟩) ?_ ?_
    rotate_left
    · intro w'
      go_simp
      with_reducible rfl
    rotate_left
    · simp only [Act.put, List.setIfInBounds_toArray, List.set_cons_zero, List.set_cons_succ, i64_w, i32_w]
      rfl
    refine pure_ (i := 14) (N := some 102) (v := ?_) (a' := ?_) #[true, true, true, true, true, true, true, true, true, true, true, true, true, true, true, true, false, false] rfl rfl (any_of HT_.out (by kernel_rfl)) (fun _ _ _ h => h) (Or.inl ⟨by rfl, ?_⟩) ?_ ?_
    rotate_left
    · intro w'
      go_simp
      with_reducible rfl
    rotate_left
    · simp only [Act.put, List.setIfInBounds_toArray, List.set_cons_zero, List.set_cons_succ, i64_w, i32_w]
      rfl
    exact norm_ (by simp only [putAll, Act.put, List.setIfInBounds_toArray, List.set_cons_zero, List.set_cons_succ]) (hCont (gb345) _ ⟨hHeld, (by (with_reducible repeat (first | apply Kd.R_alloc | apply Kd.R_drewN | apply Kd.R_drew)); exact Kd.R_mono HO_8.out (fun _ hk => hk.2)), (by (with_reducible repeat (first | refine blk_drewN ?_ _ | refine blk_drew ?_ | refine blk_alloc ?_ _)); exact BK345.out), GW345.out, GE345.out, (by repeat (first | (with_reducible first | exact HB.out | apply below_alloc | apply pw_below_drewN | apply below_drew1 | refine below_set ?_ GE345.out) | exact HB.out))⟩)
  rintro gb345 w61 ⟨hS_, h0_, h1_, h2_, h3_, h4_⟩
  have n0_ : Aside0 (Kd.R k39 39 w61 w.heap.size (fun k_ => k_ ≠ gb345) (.slice (some ad338) t318.length co57) t318) := ⟨h0_⟩
  have n1_ : Aside0 (w61.heap[gb345]? = some (.cells #[.string (⟨#[]⟩ : ByteArray), .int .i64 0, .bool false, .string (⟨#[]⟩ : ByteArray)] 39 (0, 0))) := ⟨h1_⟩
  have n2_ : Aside0 (w.heap.size ≤ gb345) := ⟨h2_⟩
  have n3_ : Aside0 (w.heap.size ≤ gb345) := ⟨h3_⟩
  have n4_ : Aside0 (Below w.heap.size w w61) := ⟨h4_⟩
  clear HO_8
  clear HB
  clear h0_ h1_ h2_ h3_ h4_
  have HO_8 := n0_
  have BK345 := n1_
  have GW345 := n2_
  have GE345 := n3_
  have HB := n4_
  clear n0_ n1_ n2_ n3_ n4_
  have hHeld : w61.cell? (ad338.add ((x10_5).toNat * 4)) = some (.string ((rd_T39 t318 x10_5).f0)) ∧ w61.cell? ⟨(ad338.add ((x10_5).toNat * 4)).block, (ad338.add ((x10_5).toNat * 4)).off + 1, none⟩ = some (.int .i64 ((rd_T39 t318 x10_5).f1)) ∧ w61.cell? ⟨(ad338.add ((x10_5).toNat * 4)).block, (ad338.add ((x10_5).toNat * 4)).off + 2, none⟩ = some (.bool ((rd_T39 t318 x10_5).f2)) ∧ w61.cell? ⟨(ad338.add ((x10_5).toNat * 4)).block, (ad338.add ((x10_5).toNat * 4)).off + 3, none⟩ = some (.string ((rd_T39 t318 x10_5).f3)) ∧ w61.cell? (ad338.add ((x10_5).toNat * 4)) = some (.string ((rd_T39 t318 x10_5).f0)) ∧ w61.cell? ⟨(ad338.add ((x10_5).toNat * 4)).block, (ad338.add ((x10_5).toNat * 4)).off + 1, none⟩ = some (.int .i64 ((rd_T39 t318 x10_5).f1)) ∧ w61.cell? ⟨(ad338.add ((x10_5).toNat * 4)).block, (ad338.add ((x10_5).toNat * 4)).off + 2, none⟩ = some (.bool ((rd_T39 t318 x10_5).f2)) ∧ w61.cell? ⟨(ad338.add ((x10_5).toNat * 4)).block, (ad338.add ((x10_5).toNat * 4)).off + 3, none⟩ = some (.string ((rd_T39 t318 x10_5).f3)) := hS_
  refine norm_ (a' := ?_) ?_ ?_
  rotate_left
  · simp only [putAll, Act.put, List.setIfInBounds_toArray, List.set_cons_zero, List.set_cons_succ]
    rfl
  refine one_ (i := 16) (N := none) #[true, true, true, true, true, true, true, true, true, true, true, true, true, true, true, true, true, false] rfl rfl (one_of HT_.out (by kernel_rfl)) (by decide) (fun K hK => ?_)
  have hs62 : w61.cell? ⟨gb345, 0, none⟩ = some (.string (⟨#[]⟩ : ByteArray)) := (blk_cell BK345.out 0).trans rfl
  have hfs62 := blk_frozen BK345.out 0
  have hs63 : w61.cell? ⟨gb345, 1, none⟩ = some (.int .i64 0) := (blk_cell BK345.out 1).trans rfl
  have hfs63 := blk_frozen BK345.out 1
  have hs64 : w61.cell? ⟨gb345, 2, none⟩ = some (.bool false) := (blk_cell BK345.out 2).trans rfl
  have hfs64 := blk_frozen BK345.out 2
  have hs65 : w61.cell? ⟨gb345, 3, none⟩ = some (.string (⟨#[]⟩ : ByteArray)) := (blk_cell BK345.out 3).trans rfl
  have hfs65 := blk_frozen BK345.out 3
  refine skip_ (w1 := ?_) (by rfl) rfl ?_ ?_
  rotate_left
  · go_simp
    rfl
  refine hK.out _ _ ⟨((cell_far (p := ⟨gb345, _, none⟩) (by first | exact Kd.own_blk (Kd.R_away HO_8.out (fun _ hk => hk)) | (rw [add_block]; exact Kd.own_blk (Kd.R_away HO_8.out (fun _ hk => hk))) | (show (Addr.add _ _).block ≠ _; rw [add_block]; exact Kd.own_blk (Kd.R_away HO_8.out (fun _ hk => hk))) | (dsimp only; exact Kd.own_blk (Kd.R_away HO_8.out (fun _ hk => hk)))) _).trans (((cell_far (p := ⟨gb345, _, none⟩) (by first | exact Kd.own_blk (Kd.R_away HO_8.out (fun _ hk => hk)) | (rw [add_block]; exact Kd.own_blk (Kd.R_away HO_8.out (fun _ hk => hk))) | (show (Addr.add _ _).block ≠ _; rw [add_block]; exact Kd.own_blk (Kd.R_away HO_8.out (fun _ hk => hk))) | (dsimp only; exact Kd.own_blk (Kd.R_away HO_8.out (fun _ hk => hk)))) _).trans (((cell_far (p := ⟨gb345, _, none⟩) (by first | exact Kd.own_blk (Kd.R_away HO_8.out (fun _ hk => hk)) | (rw [add_block]; exact Kd.own_blk (Kd.R_away HO_8.out (fun _ hk => hk))) | (show (Addr.add _ _).block ≠ _; rw [add_block]; exact Kd.own_blk (Kd.R_away HO_8.out (fun _ hk => hk))) | (dsimp only; exact Kd.own_blk (Kd.R_away HO_8.out (fun _ hk => hk)))) _).trans (((cell_far (p := ⟨gb345, _, none⟩) (by first | exact Kd.own_blk (Kd.R_away HO_8.out (fun _ hk => hk)) | (rw [add_block]; exact Kd.own_blk (Kd.R_away HO_8.out (fun _ hk => hk))) | (show (Addr.add _ _).block ≠ _; rw [add_block]; exact Kd.own_blk (Kd.R_away HO_8.out (fun _ hk => hk))) | (dsimp only; exact Kd.own_blk (Kd.R_away HO_8.out (fun _ hk => hk)))) _).trans (hHeld.1)))))))), ((cell_far (p := ⟨gb345, _, none⟩) (by first | exact Kd.own_blk (Kd.R_away HO_8.out (fun _ hk => hk)) | (rw [add_block]; exact Kd.own_blk (Kd.R_away HO_8.out (fun _ hk => hk))) | (show (Addr.add _ _).block ≠ _; rw [add_block]; exact Kd.own_blk (Kd.R_away HO_8.out (fun _ hk => hk))) | (dsimp only; exact Kd.own_blk (Kd.R_away HO_8.out (fun _ hk => hk)))) _).trans (((cell_far (p := ⟨gb345, _, none⟩) (by first | exact Kd.own_blk (Kd.R_away HO_8.out (fun _ hk => hk)) | (rw [add_block]; exact Kd.own_blk (Kd.R_away HO_8.out (fun _ hk => hk))) | (show (Addr.add _ _).block ≠ _; rw [add_block]; exact Kd.own_blk (Kd.R_away HO_8.out (fun _ hk => hk))) | (dsimp only; exact Kd.own_blk (Kd.R_away HO_8.out (fun _ hk => hk)))) _).trans (((cell_far (p := ⟨gb345, _, none⟩) (by first | exact Kd.own_blk (Kd.R_away HO_8.out (fun _ hk => hk)) | (rw [add_block]; exact Kd.own_blk (Kd.R_away HO_8.out (fun _ hk => hk))) | (show (Addr.add _ _).block ≠ _; rw [add_block]; exact Kd.own_blk (Kd.R_away HO_8.out (fun _ hk => hk))) | (dsimp only; exact Kd.own_blk (Kd.R_away HO_8.out (fun _ hk => hk)))) _).trans (((cell_far (p := ⟨gb345, _, none⟩) (by first | exact Kd.own_blk (Kd.R_away HO_8.out (fun _ hk => hk)) | (rw [add_block]; exact Kd.own_blk (Kd.R_away HO_8.out (fun _ hk => hk))) | (show (Addr.add _ _).block ≠ _; rw [add_block]; exact Kd.own_blk (Kd.R_away HO_8.out (fun _ hk => hk))) | (dsimp only; exact Kd.own_blk (Kd.R_away HO_8.out (fun _ hk => hk)))) _).trans (hHeld.2.1)))))))), ((cell_far (p := ⟨gb345, _, none⟩) (by first | exact Kd.own_blk (Kd.R_away HO_8.out (fun _ hk => hk)) | (rw [add_block]; exact Kd.own_blk (Kd.R_away HO_8.out (fun _ hk => hk))) | (show (Addr.add _ _).block ≠ _; rw [add_block]; exact Kd.own_blk (Kd.R_away HO_8.out (fun _ hk => hk))) | (dsimp only; exact Kd.own_blk (Kd.R_away HO_8.out (fun _ hk => hk)))) _).trans (((cell_far (p := ⟨gb345, _, none⟩) (by first | exact Kd.own_blk (Kd.R_away HO_8.out (fun _ hk => hk)) | (rw [add_block]; exact Kd.own_blk (Kd.R_away HO_8.out (fun _ hk => hk))) | (show (Addr.add _ _).block ≠ _; rw [add_block]; exact Kd.own_blk (Kd.R_away HO_8.out (fun _ hk => hk))) | (dsimp only; exact Kd.own_blk (Kd.R_away HO_8.out (fun _ hk => hk)))) _).trans (((cell_far (p := ⟨gb345, _, none⟩) (by first | exact Kd.own_blk (Kd.R_away HO_8.out (fun _ hk => hk)) | (rw [add_block]; exact Kd.own_blk (Kd.R_away HO_8.out (fun _ hk => hk))) | (show (Addr.add _ _).block ≠ _; rw [add_block]; exact Kd.own_blk (Kd.R_away HO_8.out (fun _ hk => hk))) | (dsimp only; exact Kd.own_blk (Kd.R_away HO_8.out (fun _ hk => hk)))) _).trans (((cell_far (p := ⟨gb345, _, none⟩) (by first | exact Kd.own_blk (Kd.R_away HO_8.out (fun _ hk => hk)) | (rw [add_block]; exact Kd.own_blk (Kd.R_away HO_8.out (fun _ hk => hk))) | (show (Addr.add _ _).block ≠ _; rw [add_block]; exact Kd.own_blk (Kd.R_away HO_8.out (fun _ hk => hk))) | (dsimp only; exact Kd.own_blk (Kd.R_away HO_8.out (fun _ hk => hk)))) _).trans (hHeld.2.2.1)))))))), ((cell_far (p := ⟨gb345, _, none⟩) (by first | exact Kd.own_blk (Kd.R_away HO_8.out (fun _ hk => hk)) | (rw [add_block]; exact Kd.own_blk (Kd.R_away HO_8.out (fun _ hk => hk))) | (show (Addr.add _ _).block ≠ _; rw [add_block]; exact Kd.own_blk (Kd.R_away HO_8.out (fun _ hk => hk))) | (dsimp only; exact Kd.own_blk (Kd.R_away HO_8.out (fun _ hk => hk)))) _).trans (((cell_far (p := ⟨gb345, _, none⟩) (by first | exact Kd.own_blk (Kd.R_away HO_8.out (fun _ hk => hk)) | (rw [add_block]; exact Kd.own_blk (Kd.R_away HO_8.out (fun _ hk => hk))) | (show (Addr.add _ _).block ≠ _; rw [add_block]; exact Kd.own_blk (Kd.R_away HO_8.out (fun _ hk => hk))) | (dsimp only; exact Kd.own_blk (Kd.R_away HO_8.out (fun _ hk => hk)))) _).trans (((cell_far (p := ⟨gb345, _, none⟩) (by first | exact Kd.own_blk (Kd.R_away HO_8.out (fun _ hk => hk)) | (rw [add_block]; exact Kd.own_blk (Kd.R_away HO_8.out (fun _ hk => hk))) | (show (Addr.add _ _).block ≠ _; rw [add_block]; exact Kd.own_blk (Kd.R_away HO_8.out (fun _ hk => hk))) | (dsimp only; exact Kd.own_blk (Kd.R_away HO_8.out (fun _ hk => hk)))) _).trans (((cell_far (p := ⟨gb345, _, none⟩) (by first | exact Kd.own_blk (Kd.R_away HO_8.out (fun _ hk => hk)) | (rw [add_block]; exact Kd.own_blk (Kd.R_away HO_8.out (fun _ hk => hk))) | (show (Addr.add _ _).block ≠ _; rw [add_block]; exact Kd.own_blk (Kd.R_away HO_8.out (fun _ hk => hk))) | (dsimp only; exact Kd.own_blk (Kd.R_away HO_8.out (fun _ hk => hk)))) _).trans (hHeld.2.2.2.1)))))))), ((cell_far (p := ⟨gb345, _, none⟩) (by first | exact Kd.own_blk (Kd.R_away HO_8.out (fun _ hk => hk)) | (rw [add_block]; exact Kd.own_blk (Kd.R_away HO_8.out (fun _ hk => hk))) | (show (Addr.add _ _).block ≠ _; rw [add_block]; exact Kd.own_blk (Kd.R_away HO_8.out (fun _ hk => hk))) | (dsimp only; exact Kd.own_blk (Kd.R_away HO_8.out (fun _ hk => hk)))) _).trans (((cell_far (p := ⟨gb345, _, none⟩) (by first | exact Kd.own_blk (Kd.R_away HO_8.out (fun _ hk => hk)) | (rw [add_block]; exact Kd.own_blk (Kd.R_away HO_8.out (fun _ hk => hk))) | (show (Addr.add _ _).block ≠ _; rw [add_block]; exact Kd.own_blk (Kd.R_away HO_8.out (fun _ hk => hk))) | (dsimp only; exact Kd.own_blk (Kd.R_away HO_8.out (fun _ hk => hk)))) _).trans (((cell_far (p := ⟨gb345, _, none⟩) (by first | exact Kd.own_blk (Kd.R_away HO_8.out (fun _ hk => hk)) | (rw [add_block]; exact Kd.own_blk (Kd.R_away HO_8.out (fun _ hk => hk))) | (show (Addr.add _ _).block ≠ _; rw [add_block]; exact Kd.own_blk (Kd.R_away HO_8.out (fun _ hk => hk))) | (dsimp only; exact Kd.own_blk (Kd.R_away HO_8.out (fun _ hk => hk)))) _).trans (((cell_far (p := ⟨gb345, _, none⟩) (by first | exact Kd.own_blk (Kd.R_away HO_8.out (fun _ hk => hk)) | (rw [add_block]; exact Kd.own_blk (Kd.R_away HO_8.out (fun _ hk => hk))) | (show (Addr.add _ _).block ≠ _; rw [add_block]; exact Kd.own_blk (Kd.R_away HO_8.out (fun _ hk => hk))) | (dsimp only; exact Kd.own_blk (Kd.R_away HO_8.out (fun _ hk => hk)))) _).trans (hHeld.2.2.2.2.1)))))))), ((cell_far (p := ⟨gb345, _, none⟩) (by first | exact Kd.own_blk (Kd.R_away HO_8.out (fun _ hk => hk)) | (rw [add_block]; exact Kd.own_blk (Kd.R_away HO_8.out (fun _ hk => hk))) | (show (Addr.add _ _).block ≠ _; rw [add_block]; exact Kd.own_blk (Kd.R_away HO_8.out (fun _ hk => hk))) | (dsimp only; exact Kd.own_blk (Kd.R_away HO_8.out (fun _ hk => hk)))) _).trans (((cell_far (p := ⟨gb345, _, none⟩) (by first | exact Kd.own_blk (Kd.R_away HO_8.out (fun _ hk => hk)) | (rw [add_block]; exact Kd.own_blk (Kd.R_away HO_8.out (fun _ hk => hk))) | (show (Addr.add _ _).block ≠ _; rw [add_block]; exact Kd.own_blk (Kd.R_away HO_8.out (fun _ hk => hk))) | (dsimp only; exact Kd.own_blk (Kd.R_away HO_8.out (fun _ hk => hk)))) _).trans (((cell_far (p := ⟨gb345, _, none⟩) (by first | exact Kd.own_blk (Kd.R_away HO_8.out (fun _ hk => hk)) | (rw [add_block]; exact Kd.own_blk (Kd.R_away HO_8.out (fun _ hk => hk))) | (show (Addr.add _ _).block ≠ _; rw [add_block]; exact Kd.own_blk (Kd.R_away HO_8.out (fun _ hk => hk))) | (dsimp only; exact Kd.own_blk (Kd.R_away HO_8.out (fun _ hk => hk)))) _).trans (((cell_far (p := ⟨gb345, _, none⟩) (by first | exact Kd.own_blk (Kd.R_away HO_8.out (fun _ hk => hk)) | (rw [add_block]; exact Kd.own_blk (Kd.R_away HO_8.out (fun _ hk => hk))) | (show (Addr.add _ _).block ≠ _; rw [add_block]; exact Kd.own_blk (Kd.R_away HO_8.out (fun _ hk => hk))) | (dsimp only; exact Kd.own_blk (Kd.R_away HO_8.out (fun _ hk => hk)))) _).trans (hHeld.2.2.2.2.2.1)))))))), ((cell_far (p := ⟨gb345, _, none⟩) (by first | exact Kd.own_blk (Kd.R_away HO_8.out (fun _ hk => hk)) | (rw [add_block]; exact Kd.own_blk (Kd.R_away HO_8.out (fun _ hk => hk))) | (show (Addr.add _ _).block ≠ _; rw [add_block]; exact Kd.own_blk (Kd.R_away HO_8.out (fun _ hk => hk))) | (dsimp only; exact Kd.own_blk (Kd.R_away HO_8.out (fun _ hk => hk)))) _).trans (((cell_far (p := ⟨gb345, _, none⟩) (by first | exact Kd.own_blk (Kd.R_away HO_8.out (fun _ hk => hk)) | (rw [add_block]; exact Kd.own_blk (Kd.R_away HO_8.out (fun _ hk => hk))) | (show (Addr.add _ _).block ≠ _; rw [add_block]; exact Kd.own_blk (Kd.R_away HO_8.out (fun _ hk => hk))) | (dsimp only; exact Kd.own_blk (Kd.R_away HO_8.out (fun _ hk => hk)))) _).trans (((cell_far (p := ⟨gb345, _, none⟩) (by first | exact Kd.own_blk (Kd.R_away HO_8.out (fun _ hk => hk)) | (rw [add_block]; exact Kd.own_blk (Kd.R_away HO_8.out (fun _ hk => hk))) | (show (Addr.add _ _).block ≠ _; rw [add_block]; exact Kd.own_blk (Kd.R_away HO_8.out (fun _ hk => hk))) | (dsimp only; exact Kd.own_blk (Kd.R_away HO_8.out (fun _ hk => hk)))) _).trans (((cell_far (p := ⟨gb345, _, none⟩) (by first | exact Kd.own_blk (Kd.R_away HO_8.out (fun _ hk => hk)) | (rw [add_block]; exact Kd.own_blk (Kd.R_away HO_8.out (fun _ hk => hk))) | (show (Addr.add _ _).block ≠ _; rw [add_block]; exact Kd.own_blk (Kd.R_away HO_8.out (fun _ hk => hk))) | (dsimp only; exact Kd.own_blk (Kd.R_away HO_8.out (fun _ hk => hk)))) _).trans (hHeld.2.2.2.2.2.2.1)))))))), ((cell_far (p := ⟨gb345, _, none⟩) (by first | exact Kd.own_blk (Kd.R_away HO_8.out (fun _ hk => hk)) | (rw [add_block]; exact Kd.own_blk (Kd.R_away HO_8.out (fun _ hk => hk))) | (show (Addr.add _ _).block ≠ _; rw [add_block]; exact Kd.own_blk (Kd.R_away HO_8.out (fun _ hk => hk))) | (dsimp only; exact Kd.own_blk (Kd.R_away HO_8.out (fun _ hk => hk)))) _).trans (((cell_far (p := ⟨gb345, _, none⟩) (by first | exact Kd.own_blk (Kd.R_away HO_8.out (fun _ hk => hk)) | (rw [add_block]; exact Kd.own_blk (Kd.R_away HO_8.out (fun _ hk => hk))) | (show (Addr.add _ _).block ≠ _; rw [add_block]; exact Kd.own_blk (Kd.R_away HO_8.out (fun _ hk => hk))) | (dsimp only; exact Kd.own_blk (Kd.R_away HO_8.out (fun _ hk => hk)))) _).trans (((cell_far (p := ⟨gb345, _, none⟩) (by first | exact Kd.own_blk (Kd.R_away HO_8.out (fun _ hk => hk)) | (rw [add_block]; exact Kd.own_blk (Kd.R_away HO_8.out (fun _ hk => hk))) | (show (Addr.add _ _).block ≠ _; rw [add_block]; exact Kd.own_blk (Kd.R_away HO_8.out (fun _ hk => hk))) | (dsimp only; exact Kd.own_blk (Kd.R_away HO_8.out (fun _ hk => hk)))) _).trans (((cell_far (p := ⟨gb345, _, none⟩) (by first | exact Kd.own_blk (Kd.R_away HO_8.out (fun _ hk => hk)) | (rw [add_block]; exact Kd.own_blk (Kd.R_away HO_8.out (fun _ hk => hk))) | (show (Addr.add _ _).block ≠ _; rw [add_block]; exact Kd.own_blk (Kd.R_away HO_8.out (fun _ hk => hk))) | (dsimp only; exact Kd.own_blk (Kd.R_away HO_8.out (fun _ hk => hk)))) _).trans (hHeld.2.2.2.2.2.2.2))))))))⟩ (fun hHeld => ?_)
  clear hK K
  refine pure_ (i := 17) (N := some 12) (v := ?_) (a' := ?_) #[true, true, true, true, true, true, true, true, true, true, true, true, true, true, true, true, true, true] rfl rfl (any_of HT_.out (by kernel_rfl)) (fun _ _ _ h => h) (Or.inl ⟨by rfl, ?_⟩) ?_ ?_
  rotate_left
  · intro w'
    go_simp
    with_reducible rfl
  rotate_left
  · simp only [Act.put, List.setIfInBounds_toArray, List.set_cons_zero, List.set_cons_succ, i64_w, i32_w]
    rfl
  refine done_ (done_of HT_.out (by kernel_rfl)) ?_
  try go_wp2
  have n0_ : Aside0 (Kd.R k39 39 ((((w61.setCell ⟨gb345, 0, none⟩ (.string t340)).setCell ⟨gb345, 1, none⟩ (.int .i64 t341)).setCell ⟨gb345, 2, none⟩ (.bool t342)).setCell ⟨gb345, 3, none⟩ (.string t343)) w.heap.size (fun k_ => k_ ≠ gb345) (.slice (some ad338) t318.length co57) t318) := ⟨by (with_reducible repeat (first | apply Kd.R_alloc | apply Kd.R_drewN | apply Kd.R_drew)); exact Kd.R_mono (Kd.R_far (p := ⟨gb345, 3, none⟩) (Kd.R_far (p := ⟨gb345, 2, none⟩) (Kd.R_far (p := ⟨gb345, 1, none⟩) (Kd.R_far (p := ⟨gb345, 0, none⟩) (Kd.R_mono HO_8.out (fun k_ hk => (⟨hk, hk⟩ : _ ∧ k_ ≠ gb345))) (fun _ hk => hk.2) (.string t340)) (fun _ hk => hk.2) (.int .i64 t341)) (fun _ hk => hk.2) (.bool t342)) (fun _ hk => hk.2) (.string t343)) (fun _ hk => hk.1)⟩
  have n1_ : Aside0 (((((w61.setCell ⟨gb345, 0, none⟩ (.string t340)).setCell ⟨gb345, 1, none⟩ (.int .i64 t341)).setCell ⟨gb345, 2, none⟩ (.bool t342)).setCell ⟨gb345, 3, none⟩ (.string t343)).heap[gb345]? = some (.cells #[.string t340, .int .i64 t341, .bool t342, .string t343] 39 (0, 0))) := ⟨by (with_reducible repeat (first | refine blk_drewN ?_ _ | refine blk_drew ?_ | refine blk_alloc ?_ _)); refine blk_put (cs := #[.string t340, .int .i64 t341, .bool t342, .string (⟨#[]⟩ : ByteArray)]) ?_ 3 _ rfl; (with_reducible repeat (first | refine blk_drewN ?_ _ | refine blk_drew ?_ | refine blk_alloc ?_ _)); refine blk_put (cs := #[.string t340, .int .i64 t341, .bool false, .string (⟨#[]⟩ : ByteArray)]) ?_ 2 _ rfl; (with_reducible repeat (first | refine blk_drewN ?_ _ | refine blk_drew ?_ | refine blk_alloc ?_ _)); refine blk_put (cs := #[.string t340, .int .i64 0, .bool false, .string (⟨#[]⟩ : ByteArray)]) ?_ 1 _ rfl; (with_reducible repeat (first | refine blk_drewN ?_ _ | refine blk_drew ?_ | refine blk_alloc ?_ _)); refine blk_put (cs := #[.string (⟨#[]⟩ : ByteArray), .int .i64 0, .bool false, .string (⟨#[]⟩ : ByteArray)]) ?_ 0 _ rfl; (with_reducible repeat (first | refine blk_drewN ?_ _ | refine blk_drew ?_ | refine blk_alloc ?_ _)); exact BK345.out⟩
  have n2_ : Aside0 (Below w.heap.size w ((((w61.setCell ⟨gb345, 0, none⟩ (.string t340)).setCell ⟨gb345, 1, none⟩ (.int .i64 t341)).setCell ⟨gb345, 2, none⟩ (.bool t342)).setCell ⟨gb345, 3, none⟩ (.string t343))) := ⟨by repeat (first | (with_reducible first | exact HB.out | apply below_alloc | apply pw_below_drewN | apply below_drew1 | refine below_set ?_ GE345.out) | exact HB.out)⟩
  (try clear HO_8)
  (try clear BK345)
  (try clear HB)
  generalize ((((w61.setCell ⟨gb345, 0, none⟩ (.string t340)).setCell ⟨gb345, 1, none⟩ (.int .i64 t341)).setCell ⟨gb345, 2, none⟩ (.bool t342)).setCell ⟨gb345, 3, none⟩ (.string t343)) = w66 at n0_ n1_ n2_ ⊢
  have HO_8 := n0_
  have BK345 := n1_
  have HB := n2_
  clear n0_ n1_ n2_
  have n0_ := Aside0.mk (Kd.R_drew HO_8.out)
  have n1_ := Aside0.mk (blk_drew BK345.out)
  have n2_ := Aside0.mk (below_drew1 HB.out)
  clear HO_8
  clear BK345
  clear HB
  have HO_8 := n0_
  have BK345 := n1_
  have HB := n2_
  clear n0_ n1_ n2_
  have p346 : 0 ≤ (x10_5 : Int) := of_decide_eq_true (by first | (with_reducible assumption) | assumption)
  have q346 : x10_5 < (t318.length : Int) := of_decide_eq_true (by first | (with_reducible assumption) | assumption)
  obtain ⟨ad346, e346, hx346_0, hx346_1, hx346_2, hx346_3⟩ := at_T39 (Kd.R_reads' HO_8.out).2.2 x10_5 p346 q346
  obtain rfl : ad338 = ad346 := (by injection e346)
  replace p346 := eq_true p346
  replace q346 := eq_true q346
  refine start_ (n := 10) (S := fun w' => w'.cell? ⟨gb345, 0, none⟩ = some (.string t340) ∧ w'.cell? ⟨gb345, 1, none⟩ = some (.int .i64 t341) ∧ w'.cell? ⟨gb345, 2, none⟩ = some (.bool t342) ∧ w'.cell? ⟨gb345, 3, none⟩ = some (.string t343) ∧ w'.cell? (ad338.add ((x10_5).toNat * 4)) = some (.string ((rd_T39 t318 x10_5).f0)) ∧ w'.cell? ⟨(ad338.add ((x10_5).toNat * 4)).block, (ad338.add ((x10_5).toNat * 4)).off + 1, none⟩ = some (.int .i64 ((rd_T39 t318 x10_5).f1)) ∧ w'.cell? ⟨(ad338.add ((x10_5).toNat * 4)).block, (ad338.add ((x10_5).toNat * 4)).off + 2, none⟩ = some (.bool ((rd_T39 t318 x10_5).f2)) ∧ w'.cell? ⟨(ad338.add ((x10_5).toNat * 4)).block, (ad338.add ((x10_5).toNat * 4)).off + 3, none⟩ = some (.string ((rd_T39 t318 x10_5).f3))) (ds := []) #[false, false, false, false, false, false, false, false, false, false] (by kernel_rfl) rfl rfl ⟨(blk_cell BK345.out 0).trans rfl, (blk_cell BK345.out 1).trans rfl, (blk_cell BK345.out 2).trans rfl, (blk_cell BK345.out 3).trans rfl, hx346_0, hx346_1, hx346_2, hx346_3⟩ (fun hHeld => ?_); refine with_tabW ravelinlaw11_MergeSame.tab22 ravelinlaw11_MergeSame.bits22 (fun HT_ HW_ => ?_)
  generalize w66.drew = w67 at HO_8 BK345 HB hx346_0 hx346_1 hx346_2 hx346_3 hHeld ⊢
  refine pure_ (i := 0) (N := some 103) (v := ?_) (a' := ?_) #[true, false, false, false, false, false, false, false, false, false] rfl rfl (any_of HT_.out (by kernel_rfl)) (fun _ _ _ h => h) (Or.inl ⟨by rfl, ?_⟩) ?_ ?_
  rotate_left
  · intro w'
    go_simp
    with_reducible rfl
  rotate_left
  · simp only [Act.put, List.setIfInBounds_toArray, List.set_cons_zero, List.set_cons_succ, i64_w, i32_w]
    rfl
  refine pure_ (i := 1) (N := some 104) (v := ?_) (a' := ?_) #[true, true, false, false, false, false, false, false, false, false] rfl rfl (any_of HT_.out (by kernel_rfl)) (fun _ _ _ h => h) (Or.inl ⟨by rfl, ?_⟩) ?_ ?_
  rotate_left
  · intro w'
    go_simp
    with_reducible rfl
  rotate_left
  · simp only [Act.put, List.setIfInBounds_toArray, List.set_cons_zero, List.set_cons_succ, i64_w, i32_w]
    rfl
  refine pure_ (i := 2) (N := some 105) (v := ?_) (a' := ?_) #[true, true, true, false, false, false, false, false, false, false] rfl rfl (any_of HT_.out (by kernel_rfl)) (fun _ _ _ h => h) (Or.inl ⟨by rfl, ?_⟩) ?_ ?_
  rotate_left
  · intro w'
    go_simp
    with_reducible rfl
  rotate_left
  · simp only [Act.put, List.setIfInBounds_toArray, List.set_cons_zero, List.set_cons_succ, i64_w, i32_w]
    rfl
  refine pure_ (i := 4) (N := some 107) (v := ?_) (a' := ?_) #[true, true, true, false, true, false, false, false, false, false] rfl rfl (any_of HT_.out (by kernel_rfl)) (fun _ _ _ h => h) (Or.inl ⟨by rfl, ?_⟩) ?_ ?_
  rotate_left
  · intro w'
    go_simp
    with_reducible rfl
  rotate_left
  · simp only [Act.put, List.setIfInBounds_toArray, List.set_cons_zero, List.set_cons_succ, i64_w, i32_w]
    rfl
  refine pure_ (i := 5) (N := some 108) (v := ?_) (a' := ?_) #[true, true, true, false, true, true, false, false, false, false] rfl rfl (any_of HT_.out (by kernel_rfl)) (fun _ _ _ h => h) (Or.inl ⟨by rfl, ?_⟩) ?_ ?_
  rotate_left
  · intro w'
    go_simp
    with_reducible rfl
  rotate_left
  · simp only [Act.put, List.setIfInBounds_toArray, List.set_cons_zero, List.set_cons_succ, i64_w, i32_w]
    rfl
  refine pure_ (i := 6) (N := some 109) (v := ?_) (a' := ?_) #[true, true, true, false, true, true, true, false, false, false] rfl rfl (any_of HT_.out (by kernel_rfl)) (fun _ _ _ h => h) (Or.inl ⟨by rfl, ?_⟩) ?_ ?_
  rotate_left
  · intro w'
    go_simp
    with_reducible rfl
  rotate_left
  · simp only [Act.put, List.setIfInBounds_toArray, List.set_cons_zero, List.set_cons_succ, i64_w, i32_w]
    rfl
  refine take_ (i := 3) (N := some 106) (v := ?_) (a' := ?_) #[true, true, true, true, true, true, true, false, false, false] rfl rfl (take_ofW HT_.out HW_.out (by kernel_rfl)) (fun _ _ _ h => h) (Or.inl ⟨by rfl, ?_⟩) hHeld ?_ ?_
  rotate_left
  · rintro w' ⟨s0, s1, s2, s3, s4, s5, s6, s7⟩
    go_simp
    with_reducible rfl
  rotate_left
  · simp only [Act.put, List.setIfInBounds_toArray, List.set_cons_zero, List.set_cons_succ, i64_w, i32_w]
    rfl
  refine take_ (i := 7) (N := some 110) (v := ?_) (a' := ?_) #[true, true, true, true, true, true, true, true, false, false] rfl rfl (take_ofW HT_.out HW_.out (by kernel_rfl)) (fun _ _ _ h => h) (Or.inl ⟨by rfl, ?_⟩) hHeld ?_ ?_
  rotate_left
  · rintro w' ⟨s0, s1, s2, s3, s4, s5, s6, s7⟩
    go_simp
    with_reducible rfl
  rotate_left
  · simp only [Act.put, List.setIfInBounds_toArray, List.set_cons_zero, List.set_cons_succ, i64_w, i32_w]
    rfl
  refine pure_ (i := 8) (N := some 111) (v := ?_) (a' := ?_) #[true, true, true, true, true, true, true, true, true, false] rfl rfl (any_of HT_.out (by kernel_rfl)) (fun _ _ _ h => h) (Or.inl ⟨by rfl, ?_⟩) ?_ ?_
  rotate_left
  · intro w'
    go_simp
    with_reducible rfl
  rotate_left
  · simp only [Act.put, List.setIfInBounds_toArray, List.set_cons_zero, List.set_cons_succ, i64_w, i32_w]
    rfl
  refine pure_ (i := 9) (N := some 112) (v := ?_) (a' := ?_) #[true, true, true, true, true, true, true, true, true, true] rfl rfl (any_of HT_.out (by kernel_rfl)) (fun _ _ _ h => h) (Or.inl ⟨by rfl, ?_⟩) ?_ ?_
  rotate_left
  · intro w'
    go_simp
    with_reducible rfl
  rotate_left
  · simp only [Act.put, List.setIfInBounds_toArray, List.set_cons_zero, List.set_cons_succ, i64_w, i32_w]
    rfl
  refine done_ (done_of HT_.out (by kernel_rfl)) ?_
  try go_wp2
  go_roundg k5
  case measure => have := HJ5.out; have := HK2.out; have := HJ20.out; have := HK4.out; have := HK5.out; omega
  case rel => exact ⟨(wrap64 (x10_5 + 1)), (by first | rfl | (simp; done) | (simp [*]; done)), H', ⟨by have := HJ5.out; have := HK2.out; have := HJ20.out; have := HK4.out; have := HK5.out; omega⟩, ⟨by (with_reducible repeat (first | apply Kd.R_alloc | apply Kd.R_drewN | apply Kd.R_drew)); exact Kd.R_mono HO_8.out (fun _ hk => trivial)⟩, ⟨by repeat (first | (with_reducible first | exact HB.out | apply below_alloc | apply pw_below_drewN | apply below_drew1 | refine below_set ?_ GE345.out) | exact HB.out)⟩⟩
def ravelinlaw11_MergeSame.Pure : Prop := ∀ (l0 : List (S39)) (l1 : List Int) (a2 : Bool), l0.length ≤ 9223372036854775807 → (∀ y_ ∈ l0, (y_.f0.size ≤ 9223372036854775807 ∧ (Lit.int .i64 y_.f1).wf = true ∧ True ∧ y_.f3.size ≤ 9223372036854775807)) → l1.length ≤ 9223372036854775807 → (∀ y_ ∈ l1, (Lit.int .i64 y_).wf = true) → ∃ k, ravelinlaw11_MergeSame.f k l0 l1 a2 = some true

end Go.Proofs.Ytjcpdbekdimceaa.P
