-- Printed by a changed copy of the kit's printer (wip/tools/ext.py); labels and more
import Derived.Test.YtnjbmcjhhadojaaM0
namespace Go.Proofs.Ytnjbmcjhhadojaa.P
open Go.RowKit Go.Proofs.YtnjbmcjhhadojaaW.PrintWords Go.Proofs.YtnjbmcjhhadojaaW.PrintLast Go.Proofs.YtnjbmcjhhadojaaW.PrintMore
attribute [local go_sem] max2_int min2_int max_two min_two max_three min_three max_four min_four   -- for this text's walks alone
attribute [local go_sem high] string_leq string_geq string_gtr
set_option linter.unusedVariables false
set_option linter.unusedSimpArgs false

attribute [local go_sem high] eqA74
/-! ### ravelinref12_With: function 40 -/
mutual
def ravelinref12_With.l0 : Nat → List (S49) → List (S49) → Bool → Int → ByteArray → Bool → ByteArray → Option ((List (S49)))
 | 0, _, _, _, _, _, _, _ => none
 | k + 1, x0, x5, x6, x7, x342000, x342001, x342002 => if x7 < (x0.length : Int) then (if x6 = true then (ravelinref12_With.j1 k x0 x5 x6 x7 false x342000 x342001 x342002) else (if 0 ≤ x7 then (ravelinref12_With.j1 k x0 x5 x6 x7 (!(Op.bytesLess (((rd_T49 x0 x7).f0).toList) x342000.toList)) x342000 x342001 x342002) else (none))) else (if x6 = true then (some x5) else (if x5.length < 3518437208883 then (some (x5 ++ [(⟨x342000, x342001, x342002⟩ : S49)])) else (none)))
def ravelinref12_With.j1 : Nat → List (S49) → List (S49) → Bool → Int → Bool → ByteArray → Bool → ByteArray → Option ((List (S49)))
 | 0, _, _, _, _, _, _, _, _ => none
 | k + 1, x0, x5, x6, x7, x25, x342000, x342001, x342002 => if x25 = true then (if x5.length < 3518437208883 then ((some (x5 ++ [(⟨x342000, x342001, x342002⟩ : S49)] : List (S49))).bind fun y346 => (if 0 ≤ x7 then (if x7 < (x0.length : Int) then (if ((rd_T49 x0 x7).f0).toList = x342000.toList then (ravelinref12_With.l0 k x0 y346 true (wrap64 (x7 + 1)) x342000 x342001 x342002) else (if y346.length < 3518437208883 then (ravelinref12_With.l0 k x0 (y346 ++ [(⟨(rd_T49 x0 x7).f0, (rd_T49 x0 x7).f1, (rd_T49 x0 x7).f2⟩ : S49)]) true (wrap64 (x7 + 1)) x342000 x342001 x342002) else (none))) else (none)) else (none))) else (none)) else (if 0 ≤ x7 then (if x7 < (x0.length : Int) then (if ((rd_T49 x0 x7).f0).toList = x342000.toList then (ravelinref12_With.l0 k x0 x5 x6 (wrap64 (x7 + 1)) x342000 x342001 x342002) else (if x5.length < 3518437208883 then (ravelinref12_With.l0 k x0 (x5 ++ [(⟨(rd_T49 x0 x7).f0, (rd_T49 x0 x7).f1, (rd_T49 x0 x7).f2⟩ : S49)]) x6 (wrap64 (x7 + 1)) x342000 x342001 x342002) else (none))) else (none)) else (none))
end
def ravelinref12_With.f (k : Nat) (l0 : List (S49)) (a1_0 : ByteArray) (a1_1 : Bool) (a1_2 : ByteArray) : Option ((List (S49))) := ravelinref12_With.l0 k l0 ([] : List (S49)) false 0 a1_0 a1_1 a1_2
theorem ravelinref12_With.mono_l : ∀ k, (∀ y0 y1 y2 y3 y4 y5 y6, LeO (ravelinref12_With.l0 k y0 y1 y2 y3 y4 y5 y6) (ravelinref12_With.l0 (k + 1) y0 y1 y2 y3 y4 y5 y6)) ∧ (∀ y0 y1 y2 y3 y4 y5 y6 y7, LeO (ravelinref12_With.j1 k y0 y1 y2 y3 y4 y5 y6 y7) (ravelinref12_With.j1 (k + 1) y0 y1 y2 y3 y4 y5 y6 y7))
 | 0 => ⟨fun _ _ _ _ _ _ _ r h => by simp [ravelinref12_With.l0] at h, fun _ _ _ _ _ _ _ _ r h => by simp [ravelinref12_With.j1] at h⟩
 | k + 1 => by
  obtain ⟨ih0, ih1⟩ := ravelinref12_With.mono_l k
  refine ⟨?_, ?_⟩
  ·intro y0 y1 y2 y3 y4 y5 y6
   unfold ravelinref12_With.l0
   repeat' first
   | (with_reducible exact ih0 _ _ _ _ _ _ _)
   | (with_reducible exact ih1 _ _ _ _ _ _ _ _)
   | (with_reducible exact LeO.refl _)
   | (with_reducible exact LeO.none _)
   | (with_reducible refine LeO.ite ?_ ?_)
   | (with_reducible refine LeO.bind ?_ (fun _ => ?_))
   | exact ih0 _ _ _ _ _ _ _
   | exact ih1 _ _ _ _ _ _ _ _
   | exact LeO.none _
   | refine LeO.ite ?_ ?_
   | refine LeO.bind ?_ (fun _ => ?_)
  ·intro y0 y1 y2 y3 y4 y5 y6 y7
   unfold ravelinref12_With.j1
   repeat' first
   | (with_reducible exact ih0 _ _ _ _ _ _ _)
   | (with_reducible exact ih1 _ _ _ _ _ _ _ _)
   | (with_reducible exact LeO.refl _)
   | (with_reducible exact LeO.none _)
   | (with_reducible refine LeO.ite ?_ ?_)
   | (with_reducible refine LeO.bind ?_ (fun _ => ?_))
   | exact ih0 _ _ _ _ _ _ _
   | exact ih1 _ _ _ _ _ _ _ _
   | exact LeO.none _
   | refine LeO.ite ?_ ?_
   | refine LeO.bind ?_ (fun _ => ?_)
theorem ravelinref12_With.mono : ∀ a0 a1 a2 a3 k, LeO (ravelinref12_With.f k a0 a1 a2 a3) (ravelinref12_With.f (k + 1) a0 a1 a2 a3) := by
 intro a0 a1 a2 a3 k
 obtain ⟨ih0, ih1⟩ := ravelinref12_With.mono_l k
 unfold ravelinref12_With.f
 repeat' first
   | (with_reducible exact ih0 _ _ _ _ _ _ _)
   | (with_reducible exact ih1 _ _ _ _ _ _ _ _)
   | (with_reducible exact LeO.refl _)
   | (with_reducible exact LeO.none _)
   | (with_reducible refine LeO.ite ?_ ?_)
   | (with_reducible refine LeO.bind ?_ (fun _ => ?_))
   | exact ih0 _ _ _ _ _ _ _
   | exact ih1 _ _ _ _ _ _ _ _
   | exact LeO.none _
   | refine LeO.ite ?_ ?_
   | refine LeO.bind ?_ (fun _ => ?_)
set_option maxHeartbeats 8000000 in
set_option maxRecDepth 100000 in
theorem ravelinref12_With.calls (k : Nat) (A0 : Option Addr) (c0 : Nat) (l0 : List (S49)) (a1_0 : ByteArray) (a1_1 : Bool) (a1_2 : ByteArray) (r : List (S49)) (w : World) (hr0 : Kd.C k49 w A0 l0.length l0) (hc0 : l0.length ≤ c0) (h : ravelinref12_With.f k l0 a1_0 a1_1 a1_2 = some r) :
  Calls Try.prog 40 #[.slice A0 l0.length c0, .agg #[.string a1_0, .bool a1_1, .string a1_2]] w fun e w' => ∃ v0_ : Value, e = .returned (v0_) ∧ Kd.R k49 49 w' w.heap.size (fun _ => True) v0_ r ∧ Below w.heap.size w w' := by
 have hu49 := Try.underlying49
 have HR0 := Aside0.mk hr0
 have HC0 := Aside0.mk hc0
 clear hr0 hc0
 have HB := Aside0.mk (Below.refl w.heap.size w)
 have H : (ravelinref12_With.l0 k l0 ([] : List (S49)) false 0 a1_0 a1_1 a1_2) = some r := h
 clear h
 have H' := Aside0.mk H
 clear H
 go_enter Try.func40, Try.ntmps40
 go_wp2_with (first | ((with_reducible refine gate_dst (N := 3) rfl ?_); refine box_event ?hg (N := 3) ?hd (cs := #[.string a1_0, .bool a1_1, .string a1_2]) (t := 49) ?hr ?_; (case hd => rfl); (case hg => rfl); (case hr => first | (go_simp; done) | (go_simp; rfl)); intro gb341 hg w3 hbox hb; have n0_ := Aside0.mk (below_step (by repeat (first | (with_reducible first | exact HB.out | apply below_alloc | apply pw_below_drewN | apply below_drew1) | exact HB.out)) hb); have n1_ := Aside0.mk (hbox); have n2_ := Aside0.mk ((by rw [hg]; exact (below_size (by repeat (first | (with_reducible first | exact HB.out | apply below_alloc | apply pw_below_drewN | apply below_drew1) | exact HB.out))) : w.heap.size ≤ gb341)); have n3_ := Aside0.mk ((by rw [hg]; exact (below_size (by repeat (first | (with_reducible first | exact HB.out | apply below_alloc | apply pw_below_drewN | apply below_drew1) | exact HB.out))) : w.heap.size ≤ gb341)); clear HB; have HB := n0_; have BK341 := n1_; have GW341 := n2_; have GE341 := n3_; clear n0_ n1_ n2_ n3_; clear hb hbox hg))
 repeat (go_quiet (first | ((with_reducible refine gate_dst (N := 3) rfl ?_); refine box_event ?hg (N := 3) ?hd (cs := #[.string a1_0, .bool a1_1, .string a1_2]) (t := 49) ?hr ?_; (case hd => rfl); (case hg => rfl); (case hr => first | (go_simp; done) | (go_simp; rfl)); intro gb341 hg w3 hbox hb; have n0_ := Aside0.mk (below_step (by repeat (first | (with_reducible first | exact HB.out | apply below_alloc | apply pw_below_drewN | apply below_drew1) | exact HB.out)) hb); have n1_ := Aside0.mk (hbox); have n2_ := Aside0.mk ((by rw [hg]; exact (below_size (by repeat (first | (with_reducible first | exact HB.out | apply below_alloc | apply pw_below_drewN | apply below_drew1) | exact HB.out))) : w.heap.size ≤ gb341)); have n3_ := Aside0.mk ((by rw [hg]; exact (below_size (by repeat (first | (with_reducible first | exact HB.out | apply below_alloc | apply pw_below_drewN | apply below_drew1) | exact HB.out))) : w.heap.size ≤ gb341)); clear HB; have HB := n0_; have BK341 := n1_; have GW341 := n2_; have GE341 := n3_; clear n0_ n1_ n2_ n3_; clear hb hbox hg)); try go_wp2_with (first | ((with_reducible refine gate_dst (N := 3) rfl ?_); refine box_event ?hg (N := 3) ?hd (cs := #[.string a1_0, .bool a1_1, .string a1_2]) (t := 49) ?hr ?_; (case hd => rfl); (case hg => rfl); (case hr => first | (go_simp; done) | (go_simp; rfl)); intro gb341 hg w3 hbox hb; have n0_ := Aside0.mk (below_step (by repeat (first | (with_reducible first | exact HB.out | apply below_alloc | apply pw_below_drewN | apply below_drew1) | exact HB.out)) hb); have n1_ := Aside0.mk (hbox); have n2_ := Aside0.mk ((by rw [hg]; exact (below_size (by repeat (first | (with_reducible first | exact HB.out | apply below_alloc | apply pw_below_drewN | apply below_drew1) | exact HB.out))) : w.heap.size ≤ gb341)); have n3_ := Aside0.mk ((by rw [hg]; exact (below_size (by repeat (first | (with_reducible first | exact HB.out | apply below_alloc | apply pw_below_drewN | apply below_drew1) | exact HB.out))) : w.heap.size ≤ gb341)); clear HB; have HB := n0_; have BK341 := n1_; have GW341 := n2_; have GE341 := n3_; clear n0_ n1_ n2_ n3_; clear hb hbox hg)))
 go_loopg [5, 6, 7] k (fun kq v5 v6 v7 w' => ∃ (x5_1 : List (S49)) (x6_1 : Bool) (x7_1 : Int), v6 = .bool x6_1 ∧ v7 = .int .i64 x7_1 ∧ Aside0 (ravelinref12_With.l0 kq l0 x5_1 x6_1 x7_1 a1_0 a1_1 a1_2 = some r) ∧ Aside0 (kq ≤ k) ∧ Aside0 (Kd.R k49 49 w' w.heap.size (fun k_ => k_ ≠ gb341) v5 x5_1) ∧ Aside0 (w'.heap[gb341]? = some (.cells #[.string a1_0, .bool a1_1, .string a1_2] 49 (0, 0))) ∧ Aside0 (Below w.heap.size w w'))
 case atStart => exact ⟨(([] : List (S49))), (false), (0), (by first | rfl | (simp; done) | (simp [*]; done)), (by first | rfl | (simp; done) | (simp [*]; done)), H', ⟨Nat.le_refl _⟩, ⟨by first | exact Kd.R_nil _ _ _ _ _ | exact Kd.N_nil _ _ _ _ _ | exact Kd.V_nil _ _ _ _ _ | exact Kd.Q_nil _ _ _ _ _ | exact Kd.S_nil _ _ _ _ _⟩, ⟨by (with_reducible repeat (first | refine blk_drewN ?_ _ | refine blk_drew ?_ | refine blk_alloc ?_ _)); exact BK341.out⟩, ⟨by repeat (first | (with_reducible first | exact HB.out | apply below_alloc | apply pw_below_drewN | apply below_drew1 | refine below_set ?_ GE341.out) | exact HB.out)⟩⟩
 case round =>
  clear H'
  try clear p2
  obtain ⟨x5_1, x6_1, x7_1, rfl, rfl, HA, HK1, HO_5, BK341, HB⟩ := hrel
  cases gk with
  | zero => exact absurd HA.out (by simp [ravelinref12_With.l0])
  | succ k1 =>
   have H := HA.out
   clear HA
   simp only [ravelinref12_With.l0] at H
   by_cases c4 : x7_1 < (l0.length : Int)
   ·rw [if_pos c4] at H
    have c4b0 : decide (x7_1 < (l0.length : Int)) = true := decide_eq_true c4
    clear c4
    have HC5 := Aside0.mk H
    clear H
    go_upto_region 6 with (fail)
    repeat (go_quiet (fail); go_upto_region 6 with (fail))
    go_cut [25] (fun v25 wc => ∃ (kq : Nat) (x25_4 : Bool), v25 = .bool x25_4 ∧ Aside0 (ravelinref12_With.j1 kq l0 x5_1 x6_1 x7_1 x25_4 a1_0 a1_1 a1_2 = some r) ∧ Aside0 (kq ≤ k1) ∧ Aside0 (Kd.R k49 49 wc w.heap.size (fun k_ => k_ ≠ gb341) u5 x5_1) ∧ Aside0 (wc.heap[gb341]? = some (.cells #[.string a1_0, .bool a1_1, .string a1_2] 49 (0, 0))) ∧ Aside0 (Below w.heap.size w wc))
    case first =>
     have H := HC5.out
     clear HC5
     by_cases c6 : x6_1 = true
     ·subst c6
      have H1 : (ravelinref12_With.j1 k1 l0 x5_1 true x7_1 false a1_0 a1_1 a1_2) = some r := by rw [if_pos rfl] at H; exact H
      clear H
      have H := H1
      clear H1
      have H' := Aside0.mk H
      clear H
      go_wp2
      repeat (go_quiet (fail); try go_wp2)
      go_meet
      case rel => exact ⟨_, (false), (by first | rfl | (simp; done) | (simp [*]; done)), H', ⟨by have := HK1.out; first | omega | exact Nat.le_refl _⟩, ⟨by (with_reducible repeat (first | apply Kd.R_alloc | apply Kd.R_drewN | apply Kd.R_drew)); exact HO_5.out⟩, ⟨by (with_reducible repeat (first | refine blk_drewN ?_ _ | refine blk_drew ?_ | refine blk_alloc ?_ _)); exact BK341.out⟩, ⟨by repeat (first | (with_reducible first | exact HB.out | apply below_alloc | apply pw_below_drewN | apply below_drew1 | refine below_set ?_ GE341.out) | exact HB.out)⟩⟩
     ·replace c6 := Bool.eq_false_iff.mpr c6
      subst c6
      have H1 : (if 0 ≤ x7_1 then (ravelinref12_With.j1 k1 l0 x5_1 false x7_1 (!(Op.bytesLess (((rd_T49 l0 x7_1).f0).toList) a1_0.toList)) a1_0 a1_1 a1_2) else (none)) = some r := by rw [if_neg (show ¬ (false = true) by decide)] at H; exact H
      clear H
      have H := H1
      clear H1
      by_cases c7 : 0 ≤ x7_1
      ·rw [if_pos c7] at H
       have c7b0 : decide (0 ≤ x7_1) = true := decide_eq_true c7
       clear c7
       (first | rw [c7b0] | (simp only [i64_w, i32_w]; rw [c7b0]) | skip)
       have H' := Aside0.mk H
       clear H
       have hcz8_0 : wr.cell? ⟨gb341, 0, none⟩ = some (.string a1_0) := (blk_cell BK341.out 0).trans rfl
       have hcz8_1 : wr.cell? ⟨gb341, 1, none⟩ = some (.bool a1_1) := (blk_cell BK341.out 1).trans rfl
       have hcz8_2 : wr.cell? ⟨gb341, 2, none⟩ = some (.string a1_2) := (blk_cell BK341.out 2).trans rfl
       have hfz8_0 := blk_frozen BK341.out 0
       have hfz8_1 := blk_frozen BK341.out 1
       have hfz8_2 := blk_frozen BK341.out 2
       have p345 : 0 ≤ (x7_1 : Int) := of_decide_eq_true (by first | (with_reducible assumption) | assumption)
       have q345 : x7_1 < (l0.length : Int) := of_decide_eq_true (by first | (with_reducible assumption) | assumption)
       obtain ⟨ad345, e345, hx345_0, hx345_1, hx345_2⟩ := at_T49 HR0.out x7_1 p345 q345
       cases e345
       replace hx345_0 := (HB.out.cell (World.block_lt_of_cell? w _ hx345_0)).trans hx345_0
       replace hx345_1 := (HB.out.cell (World.block_lt_of_cell? w _ hx345_1)).trans hx345_1
       replace hx345_2 := (HB.out.cell (World.block_lt_of_cell? w _ hx345_2)).trans hx345_2
       replace p345 := eq_true p345
       replace q345 := eq_true q345
       go_wp2
       repeat (go_quiet (fail); try go_wp2)
       go_meet
       case rel => exact ⟨_, (!(Op.bytesLess (((rd_T49 l0 x7_1).f0).toList) a1_0.toList)), (by first | rfl | (simp; done) | (simp [*]; done)), H', ⟨by have := HK1.out; first | omega | exact Nat.le_refl _⟩, ⟨by (with_reducible repeat (first | apply Kd.R_alloc | apply Kd.R_drewN | apply Kd.R_drew)); exact HO_5.out⟩, ⟨by (with_reducible repeat (first | refine blk_drewN ?_ _ | refine blk_drew ?_ | refine blk_alloc ?_ _)); exact BK341.out⟩, ⟨by repeat (first | (with_reducible first | exact HB.out | apply below_alloc | apply pw_below_drewN | apply below_drew1 | refine below_set ?_ GE341.out) | exact HB.out)⟩⟩
      ·rw [if_neg c7] at H
       exact absurd H (by simp)
    case rest =>
     clear HC5
     try clear p2
     try clear p3
     try clear q3
     try clear hx3
     try clear c4
     try clear c4b0
     try clear c6
     try clear c7
     try clear c7b0
     try clear hcz8_0
     try clear hcz8_1
     try clear hcz8_2
     try clear hfz8_0
     try clear hfz8_1
     try clear hfz8_2
     try clear hx345_0
     try clear hx345_1
     try clear hx345_2
     try clear p2
     try clear p345
     try clear q345
     obtain ⟨kq, x25_4, rfl, HA, HJ4, HO_5, BK341, HB⟩ := hcut
     cases kq with
     | zero => exact absurd HA.out (by simp [ravelinref12_With.j1])
     | succ kj4 =>
      have H := HA.out
      clear HA
      simp only [ravelinref12_With.j1] at H
      by_cases c9 : x25_4 = true
      ·subst c9
       have H1 : (if x5_1.length < 3518437208883 then ((some (x5_1 ++ [(⟨a1_0, a1_1, a1_2⟩ : S49)] : List (S49))).bind fun y346 => (if 0 ≤ x7_1 then (if x7_1 < (l0.length : Int) then (if ((rd_T49 l0 x7_1).f0).toList = a1_0.toList then (ravelinref12_With.l0 kj4 l0 y346 true (wrap64 (x7_1 + 1)) a1_0 a1_1 a1_2) else (if y346.length < 3518437208883 then (ravelinref12_With.l0 kj4 l0 (y346 ++ [(⟨(rd_T49 l0 x7_1).f0, (rd_T49 l0 x7_1).f1, (rd_T49 l0 x7_1).f2⟩ : S49)]) true (wrap64 (x7_1 + 1)) a1_0 a1_1 a1_2) else (none))) else (none)) else (none))) else (none)) = some r := by rw [if_pos rfl] at H; exact H
       clear H
       have H := H1
       clear H1
       by_cases c10 : x5_1.length < 3518437208883
       ·rw [if_pos c10] at H
        have LMc10 := Aside0.mk c10
        clear c10
        obtain ⟨y346, hy346⟩ : ∃ y_ : List (S49), y_ = (x5_1 ++ [(⟨a1_0, a1_1, a1_2⟩ : S49)]) := ⟨_, rfl⟩
        replace H : (if 0 ≤ x7_1 then (if x7_1 < (l0.length : Int) then (if ((rd_T49 l0 x7_1).f0).toList = a1_0.toList then (ravelinref12_With.l0 kj4 l0 y346 true (wrap64 (x7_1 + 1)) a1_0 a1_1 a1_2) else (if y346.length < 3518437208883 then (ravelinref12_With.l0 kj4 l0 (y346 ++ [(⟨(rd_T49 l0 x7_1).f0, (rd_T49 l0 x7_1).f1, (rd_T49 l0 x7_1).f2⟩ : S49)]) true (wrap64 (x7_1 + 1)) a1_0 a1_1 a1_2) else (none))) else (none)) else (none)) = some r := by first | (rw [hy346]; with_reducible exact H) | (have H2_ := (Option.bind_some _ _).symm.trans H; rw [hy346]; with_reducible exact H2_) | (have H2_ := (Option.bind_some _ _).symm.trans H; with_reducible exact H2_) | with_reducible exact H | (rw [hy346]; exact H) | exact H
        have Ny346 := Aside0.mk hy346
        clear hy346
        by_cases c11 : 0 ≤ x7_1
        ·rw [if_pos c11] at H
         have c11b0 : decide (0 ≤ x7_1) = true := decide_eq_true c11
         clear c11
         by_cases c12 : x7_1 < (l0.length : Int)
         ·rw [if_pos c12] at H
          have c12b0 : decide (x7_1 < (l0.length : Int)) = true := decide_eq_true c12
          clear c12
          by_cases c13 : ((rd_T49 l0 x7_1).f0).toList = a1_0.toList
          ·rw [if_pos c13] at H
           have c13b0 : (((rd_T49 l0 x7_1).f0).toList == a1_0.toList) = true := beq_iff_eq.mpr c13
           have c13b1 : (((rd_T49 l0 x7_1).f0).toList != a1_0.toList) = false := bne_eq_false_iff_eq.mpr c13
           clear c13
           have H' := Aside0.mk H
           clear H
           have hcz14_0 : wc.cell? ⟨gb341, 0, none⟩ = some (.string a1_0) := (blk_cell BK341.out 0).trans rfl
           have hcz14_1 : wc.cell? ⟨gb341, 1, none⟩ = some (.bool a1_1) := (blk_cell BK341.out 1).trans rfl
           have hcz14_2 : wc.cell? ⟨gb341, 2, none⟩ = some (.string a1_2) := (blk_cell BK341.out 2).trans rfl
           have hfz14_0 := blk_frozen BK341.out 0
           have hfz14_1 := blk_frozen BK341.out 1
           have hfz14_2 := blk_frozen BK341.out 2
           go_wp2_with (first | ((with_reducible refine gate_builtin (b := .append) (xs := #[.tmp 26, .tmp 28]) rfl ?_); at_builtin; refine Kd.R_append k49 (w0 := w) w.heap.size rfl (.tmp 26) (.tmp 28) 22 49 (.agg #[(.string ⟨#[]⟩), (.bool false), (.string ⟨#[]⟩)]) 40 rfl Try.underlying22 info49 rfl (by decide) (by omega) u5 x5_1 (⟨a1_0, a1_1, a1_2⟩ : S49) [.string a1_0, .bool a1_1, .string a1_2] (fun k_ => k_ ≠ gb341) (fun _ => False) rfl rfl ?aP (fun _ hk => hk.elim) ?aF ?aO ?aB ?aS ?aL ?_; (case aP => exact k49_mkM _ _ _ (⟨a1_0, a1_1, a1_2⟩ : S49)); (case aB => exact (by repeat (first | (with_reducible first | exact HB.out | apply below_alloc | apply pw_below_drewN | apply below_drew1 | refine below_set ?_ GE341.out) | exact HB.out))); (case aF => exact (fun k_ hk => Kd.freshB (g := gb341) (o := .cells #[.string a1_0, .bool a1_1, .string a1_2] 49 (0, 0)) (by (with_reducible repeat (first | refine blk_drewN ?_ _ | refine blk_drew ?_ | refine blk_alloc ?_ _)); exact BK341.out) k_ hk)); (case aO => exact (by (with_reducible repeat (first | apply Kd.R_alloc | apply Kd.R_drewN | apply Kd.R_drew)); exact HO_5.out)); (case aS => exact (below_size (by repeat (first | (with_reducible first | exact HB.out | apply below_alloc | apply pw_below_drewN | apply below_drew1 | refine below_set ?_ GE341.out) | exact HB.out)))); (case aL => have := LMc10.out; omega); intro v347 w15 ho hb hg hat; rw [← Ny346.out] at ho; have n0_ := Aside0.mk (blk_grown (g := gb341) (o := .cells #[.string a1_0, .bool a1_1, .string a1_2] 49 (0, 0)) (by (with_reducible repeat (first | refine blk_drewN ?_ _ | refine blk_drew ?_ | refine blk_alloc ?_ _)); exact BK341.out) hg (Kd.R_away HO_5.out (fun _ hk => hk))); have n1_ := Aside0.mk (hb); have n2_ := Aside0.mk (ho); clear BK341; clear HB; clear HO_5; have BK341 := n0_; have HB := n1_; have HO348 := n2_; clear n0_ n1_ n2_; clear ho hb hg hat; have p349 : 0 ≤ (x7_1 : Int) := of_decide_eq_true (by first | (with_reducible assumption) | assumption); have q349 : x7_1 < (l0.length : Int) := of_decide_eq_true (by first | (with_reducible assumption) | assumption); obtain ⟨ad349, e349, hx349_0, hx349_1, hx349_2⟩ := at_T49 HR0.out x7_1 p349 q349; cases e349; replace hx349_0 := (HB.out.cell (World.block_lt_of_cell? w _ hx349_0)).trans hx349_0; replace hx349_1 := (HB.out.cell (World.block_lt_of_cell? w _ hx349_1)).trans hx349_1; replace hx349_2 := (HB.out.cell (World.block_lt_of_cell? w _ hx349_2)).trans hx349_2; replace p349 := eq_true p349; replace q349 := eq_true q349; have hcz16_0 : w15.cell? ⟨gb341, 0, none⟩ = some (.string a1_0) := (blk_cell BK341.out 0).trans rfl; have hcz16_1 : w15.cell? ⟨gb341, 1, none⟩ = some (.bool a1_1) := (blk_cell BK341.out 1).trans rfl; have hcz16_2 : w15.cell? ⟨gb341, 2, none⟩ = some (.string a1_2) := (blk_cell BK341.out 2).trans rfl; have hfz16_0 := blk_frozen BK341.out 0; have hfz16_1 := blk_frozen BK341.out 1; have hfz16_2 := blk_frozen BK341.out 2))
           repeat (go_quiet (first | ((with_reducible refine gate_builtin (b := .append) (xs := #[.tmp 26, .tmp 28]) rfl ?_); at_builtin; refine Kd.R_append k49 (w0 := w) w.heap.size rfl (.tmp 26) (.tmp 28) 22 49 (.agg #[(.string ⟨#[]⟩), (.bool false), (.string ⟨#[]⟩)]) 40 rfl Try.underlying22 info49 rfl (by decide) (by omega) u5 x5_1 (⟨a1_0, a1_1, a1_2⟩ : S49) [.string a1_0, .bool a1_1, .string a1_2] (fun k_ => k_ ≠ gb341) (fun _ => False) rfl rfl ?aP (fun _ hk => hk.elim) ?aF ?aO ?aB ?aS ?aL ?_; (case aP => exact k49_mkM _ _ _ (⟨a1_0, a1_1, a1_2⟩ : S49)); (case aB => exact (by repeat (first | (with_reducible first | exact HB.out | apply below_alloc | apply pw_below_drewN | apply below_drew1 | refine below_set ?_ GE341.out) | exact HB.out))); (case aF => exact (fun k_ hk => Kd.freshB (g := gb341) (o := .cells #[.string a1_0, .bool a1_1, .string a1_2] 49 (0, 0)) (by (with_reducible repeat (first | refine blk_drewN ?_ _ | refine blk_drew ?_ | refine blk_alloc ?_ _)); exact BK341.out) k_ hk)); (case aO => exact (by (with_reducible repeat (first | apply Kd.R_alloc | apply Kd.R_drewN | apply Kd.R_drew)); exact HO_5.out)); (case aS => exact (below_size (by repeat (first | (with_reducible first | exact HB.out | apply below_alloc | apply pw_below_drewN | apply below_drew1 | refine below_set ?_ GE341.out) | exact HB.out)))); (case aL => have := LMc10.out; omega); intro v347 w15 ho hb hg hat; rw [← Ny346.out] at ho; have n0_ := Aside0.mk (blk_grown (g := gb341) (o := .cells #[.string a1_0, .bool a1_1, .string a1_2] 49 (0, 0)) (by (with_reducible repeat (first | refine blk_drewN ?_ _ | refine blk_drew ?_ | refine blk_alloc ?_ _)); exact BK341.out) hg (Kd.R_away HO_5.out (fun _ hk => hk))); have n1_ := Aside0.mk (hb); have n2_ := Aside0.mk (ho); clear BK341; clear HB; clear HO_5; have BK341 := n0_; have HB := n1_; have HO348 := n2_; clear n0_ n1_ n2_; clear ho hb hg hat; have p349 : 0 ≤ (x7_1 : Int) := of_decide_eq_true (by first | (with_reducible assumption) | assumption); have q349 : x7_1 < (l0.length : Int) := of_decide_eq_true (by first | (with_reducible assumption) | assumption); obtain ⟨ad349, e349, hx349_0, hx349_1, hx349_2⟩ := at_T49 HR0.out x7_1 p349 q349; cases e349; replace hx349_0 := (HB.out.cell (World.block_lt_of_cell? w _ hx349_0)).trans hx349_0; replace hx349_1 := (HB.out.cell (World.block_lt_of_cell? w _ hx349_1)).trans hx349_1; replace hx349_2 := (HB.out.cell (World.block_lt_of_cell? w _ hx349_2)).trans hx349_2; replace p349 := eq_true p349; replace q349 := eq_true q349; have hcz16_0 : w15.cell? ⟨gb341, 0, none⟩ = some (.string a1_0) := (blk_cell BK341.out 0).trans rfl; have hcz16_1 : w15.cell? ⟨gb341, 1, none⟩ = some (.bool a1_1) := (blk_cell BK341.out 1).trans rfl; have hcz16_2 : w15.cell? ⟨gb341, 2, none⟩ = some (.string a1_2) := (blk_cell BK341.out 2).trans rfl; have hfz16_0 := blk_frozen BK341.out 0; have hfz16_1 := blk_frozen BK341.out 1; have hfz16_2 := blk_frozen BK341.out 2)); try go_wp2_with (first | ((with_reducible refine gate_builtin (b := .append) (xs := #[.tmp 26, .tmp 28]) rfl ?_); at_builtin; refine Kd.R_append k49 (w0 := w) w.heap.size rfl (.tmp 26) (.tmp 28) 22 49 (.agg #[(.string ⟨#[]⟩), (.bool false), (.string ⟨#[]⟩)]) 40 rfl Try.underlying22 info49 rfl (by decide) (by omega) u5 x5_1 (⟨a1_0, a1_1, a1_2⟩ : S49) [.string a1_0, .bool a1_1, .string a1_2] (fun k_ => k_ ≠ gb341) (fun _ => False) rfl rfl ?aP (fun _ hk => hk.elim) ?aF ?aO ?aB ?aS ?aL ?_; (case aP => exact k49_mkM _ _ _ (⟨a1_0, a1_1, a1_2⟩ : S49)); (case aB => exact (by repeat (first | (with_reducible first | exact HB.out | apply below_alloc | apply pw_below_drewN | apply below_drew1 | refine below_set ?_ GE341.out) | exact HB.out))); (case aF => exact (fun k_ hk => Kd.freshB (g := gb341) (o := .cells #[.string a1_0, .bool a1_1, .string a1_2] 49 (0, 0)) (by (with_reducible repeat (first | refine blk_drewN ?_ _ | refine blk_drew ?_ | refine blk_alloc ?_ _)); exact BK341.out) k_ hk)); (case aO => exact (by (with_reducible repeat (first | apply Kd.R_alloc | apply Kd.R_drewN | apply Kd.R_drew)); exact HO_5.out)); (case aS => exact (below_size (by repeat (first | (with_reducible first | exact HB.out | apply below_alloc | apply pw_below_drewN | apply below_drew1 | refine below_set ?_ GE341.out) | exact HB.out)))); (case aL => have := LMc10.out; omega); intro v347 w15 ho hb hg hat; rw [← Ny346.out] at ho; have n0_ := Aside0.mk (blk_grown (g := gb341) (o := .cells #[.string a1_0, .bool a1_1, .string a1_2] 49 (0, 0)) (by (with_reducible repeat (first | refine blk_drewN ?_ _ | refine blk_drew ?_ | refine blk_alloc ?_ _)); exact BK341.out) hg (Kd.R_away HO_5.out (fun _ hk => hk))); have n1_ := Aside0.mk (hb); have n2_ := Aside0.mk (ho); clear BK341; clear HB; clear HO_5; have BK341 := n0_; have HB := n1_; have HO348 := n2_; clear n0_ n1_ n2_; clear ho hb hg hat; have p349 : 0 ≤ (x7_1 : Int) := of_decide_eq_true (by first | (with_reducible assumption) | assumption); have q349 : x7_1 < (l0.length : Int) := of_decide_eq_true (by first | (with_reducible assumption) | assumption); obtain ⟨ad349, e349, hx349_0, hx349_1, hx349_2⟩ := at_T49 HR0.out x7_1 p349 q349; cases e349; replace hx349_0 := (HB.out.cell (World.block_lt_of_cell? w _ hx349_0)).trans hx349_0; replace hx349_1 := (HB.out.cell (World.block_lt_of_cell? w _ hx349_1)).trans hx349_1; replace hx349_2 := (HB.out.cell (World.block_lt_of_cell? w _ hx349_2)).trans hx349_2; replace p349 := eq_true p349; replace q349 := eq_true q349; have hcz16_0 : w15.cell? ⟨gb341, 0, none⟩ = some (.string a1_0) := (blk_cell BK341.out 0).trans rfl; have hcz16_1 : w15.cell? ⟨gb341, 1, none⟩ = some (.bool a1_1) := (blk_cell BK341.out 1).trans rfl; have hcz16_2 : w15.cell? ⟨gb341, 2, none⟩ = some (.string a1_2) := (blk_cell BK341.out 2).trans rfl; have hfz16_0 := blk_frozen BK341.out 0; have hfz16_1 := blk_frozen BK341.out 1; have hfz16_2 := blk_frozen BK341.out 2)))
           go_roundg kj4
           case measure => have := HK1.out; have := HJ4.out; omega
           case rel => exact ⟨(y346), (true), (wrap64 (x7_1 + 1)), (by first | rfl | (simp; done) | (simp [*]; done)), (by first | rfl | (simp; done) | (simp [*]; done)), H', ⟨by have := HK1.out; have := HJ4.out; omega⟩, ⟨by (with_reducible repeat (first | apply Kd.R_alloc | apply Kd.R_drewN | apply Kd.R_drew)); exact HO348.out⟩, ⟨by (with_reducible repeat (first | refine blk_drewN ?_ _ | refine blk_drew ?_ | refine blk_alloc ?_ _)); exact BK341.out⟩, ⟨by repeat (first | (with_reducible first | exact HB.out | apply below_alloc | apply pw_below_drewN | apply below_drew1 | refine below_set ?_ GE341.out) | exact HB.out)⟩⟩
          ·rw [if_neg c13] at H
           have c13b0 : (((rd_T49 l0 x7_1).f0).toList == a1_0.toList) = false := beq_eq_false_iff_ne.mpr c13
           have c13b1 : (((rd_T49 l0 x7_1).f0).toList != a1_0.toList) = true := bne_iff_ne.mpr c13
           by_cases c17 : y346.length < 3518437208883
           ·rw [if_pos c17] at H
            have LMc17 := Aside0.mk c17
            clear c17
            obtain ⟨y351, hy351⟩ : ∃ y_ : List (S49), y_ = (y346 ++ [(⟨(rd_T49 l0 x7_1).f0, (rd_T49 l0 x7_1).f1, (rd_T49 l0 x7_1).f2⟩ : S49)]) := ⟨_, rfl⟩
            replace H : (ravelinref12_With.l0 kj4 l0 y351 true (wrap64 (x7_1 + 1)) a1_0 a1_1 a1_2) = some r := by first | (rw [hy351]; with_reducible exact H) | (have H2_ := (Option.bind_some _ _).symm.trans H; rw [hy351]; with_reducible exact H2_) | (have H2_ := (Option.bind_some _ _).symm.trans H; with_reducible exact H2_) | with_reducible exact H | (rw [hy351]; exact H) | exact H
            have Ny351 := Aside0.mk hy351
            clear hy351
            have H' := Aside0.mk H
            clear H
            have hcz18_0 : wc.cell? ⟨gb341, 0, none⟩ = some (.string a1_0) := (blk_cell BK341.out 0).trans rfl
            have hcz18_1 : wc.cell? ⟨gb341, 1, none⟩ = some (.bool a1_1) := (blk_cell BK341.out 1).trans rfl
            have hcz18_2 : wc.cell? ⟨gb341, 2, none⟩ = some (.string a1_2) := (blk_cell BK341.out 2).trans rfl
            have hfz18_0 := blk_frozen BK341.out 0
            have hfz18_1 := blk_frozen BK341.out 1
            have hfz18_2 := blk_frozen BK341.out 2
            go_wp2_with (first | ((with_reducible refine gate_builtin (b := .append) (xs := #[.tmp 26, .tmp 28]) rfl ?_); at_builtin; refine Kd.R_append k49 (w0 := w) w.heap.size rfl (.tmp 26) (.tmp 28) 22 49 (.agg #[(.string ⟨#[]⟩), (.bool false), (.string ⟨#[]⟩)]) 40 rfl Try.underlying22 info49 rfl (by decide) (by omega) u5 x5_1 (⟨a1_0, a1_1, a1_2⟩ : S49) [.string a1_0, .bool a1_1, .string a1_2] (fun k_ => k_ ≠ gb341) (fun _ => False) rfl rfl ?aP (fun _ hk => hk.elim) ?aF ?aO ?aB ?aS ?aL ?_; (case aP => exact k49_mkM _ _ _ (⟨a1_0, a1_1, a1_2⟩ : S49)); (case aB => exact (by repeat (first | (with_reducible first | exact HB.out | apply below_alloc | apply pw_below_drewN | apply below_drew1 | refine below_set ?_ GE341.out) | exact HB.out))); (case aF => exact (fun k_ hk => Kd.freshB (g := gb341) (o := .cells #[.string a1_0, .bool a1_1, .string a1_2] 49 (0, 0)) (by (with_reducible repeat (first | refine blk_drewN ?_ _ | refine blk_drew ?_ | refine blk_alloc ?_ _)); exact BK341.out) k_ hk)); (case aO => exact (by (with_reducible repeat (first | apply Kd.R_alloc | apply Kd.R_drewN | apply Kd.R_drew)); exact HO_5.out)); (case aS => exact (below_size (by repeat (first | (with_reducible first | exact HB.out | apply below_alloc | apply pw_below_drewN | apply below_drew1 | refine below_set ?_ GE341.out) | exact HB.out)))); (case aL => have := LMc10.out; omega); intro v347 w19 ho hb hg hat; rw [← Ny346.out] at ho; have n0_ := Aside0.mk (blk_grown (g := gb341) (o := .cells #[.string a1_0, .bool a1_1, .string a1_2] 49 (0, 0)) (by (with_reducible repeat (first | refine blk_drewN ?_ _ | refine blk_drew ?_ | refine blk_alloc ?_ _)); exact BK341.out) hg (Kd.R_away HO_5.out (fun _ hk => hk))); have n1_ := Aside0.mk (hb); have n2_ := Aside0.mk (ho); clear BK341; clear HB; clear HO_5; have BK341 := n0_; have HB := n1_; have HO348 := n2_; clear n0_ n1_ n2_; clear ho hb hg hat; have p349 : 0 ≤ (x7_1 : Int) := of_decide_eq_true (by first | (with_reducible assumption) | assumption); have q349 : x7_1 < (l0.length : Int) := of_decide_eq_true (by first | (with_reducible assumption) | assumption); obtain ⟨ad349, e349, hx349_0, hx349_1, hx349_2⟩ := at_T49 HR0.out x7_1 p349 q349; cases e349; replace hx349_0 := (HB.out.cell (World.block_lt_of_cell? w _ hx349_0)).trans hx349_0; replace hx349_1 := (HB.out.cell (World.block_lt_of_cell? w _ hx349_1)).trans hx349_1; replace hx349_2 := (HB.out.cell (World.block_lt_of_cell? w _ hx349_2)).trans hx349_2; replace p349 := eq_true p349; replace q349 := eq_true q349; have hcz20_0 : w19.cell? ⟨gb341, 0, none⟩ = some (.string a1_0) := (blk_cell BK341.out 0).trans rfl; have hcz20_1 : w19.cell? ⟨gb341, 1, none⟩ = some (.bool a1_1) := (blk_cell BK341.out 1).trans rfl; have hcz20_2 : w19.cell? ⟨gb341, 2, none⟩ = some (.string a1_2) := (blk_cell BK341.out 2).trans rfl; have hfz20_0 := blk_frozen BK341.out 0; have hfz20_1 := blk_frozen BK341.out 1; have hfz20_2 := blk_frozen BK341.out 2; have p350 : 0 ≤ (x7_1 : Int) := of_decide_eq_true (by first | (with_reducible assumption) | assumption); have q350 : x7_1 < (l0.length : Int) := of_decide_eq_true (by first | (with_reducible assumption) | assumption); obtain ⟨ad350, e350, hx350_0, hx350_1, hx350_2⟩ := at_T49 HR0.out x7_1 p350 q350; obtain rfl : ad349 = ad350 := (by injection e350); replace hx350_0 := (HB.out.cell (World.block_lt_of_cell? w _ hx350_0)).trans hx350_0; replace hx350_1 := (HB.out.cell (World.block_lt_of_cell? w _ hx350_1)).trans hx350_1; replace hx350_2 := (HB.out.cell (World.block_lt_of_cell? w _ hx350_2)).trans hx350_2; replace p350 := eq_true p350; replace q350 := eq_true q350) | ((with_reducible refine gate_builtin (b := .append) (xs := #[.tmp 38, .tmp 43]) rfl ?_); at_builtin; refine Kd.R_append k49 (w0 := w) w.heap.size rfl (.tmp 38) (.tmp 43) 22 49 (.agg #[(.string ⟨#[]⟩), (.bool false), (.string ⟨#[]⟩)]) 40 rfl Try.underlying22 info49 rfl (by decide) (by omega) v347 y346 (⟨(rd_T49 l0 x7_1).f0, (rd_T49 l0 x7_1).f1, (rd_T49 l0 x7_1).f2⟩ : S49) [.string ((rd_T49 l0 x7_1).f0), .bool ((rd_T49 l0 x7_1).f1), .string ((rd_T49 l0 x7_1).f2)] (fun k_ => k_ ≠ gb341) (fun _ => False) rfl rfl ?aP (fun _ hk => hk.elim) ?aF ?aO ?aB ?aS ?aL ?_; (case aP => exact k49_mkM _ _ _ (⟨(rd_T49 l0 x7_1).f0, (rd_T49 l0 x7_1).f1, (rd_T49 l0 x7_1).f2⟩ : S49)); (case aB => exact (by repeat (first | (with_reducible first | exact HB.out | apply below_alloc | apply pw_below_drewN | apply below_drew1 | refine below_set ?_ GE341.out) | exact HB.out))); (case aF => exact (fun k_ hk => Kd.freshB (g := gb341) (o := .cells #[.string a1_0, .bool a1_1, .string a1_2] 49 (0, 0)) (by (with_reducible repeat (first | refine blk_drewN ?_ _ | refine blk_drew ?_ | refine blk_alloc ?_ _)); exact BK341.out) k_ hk)); (case aO => exact (by (with_reducible repeat (first | apply Kd.R_alloc | apply Kd.R_drewN | apply Kd.R_drew)); exact HO348.out)); (case aS => exact (below_size (by repeat (first | (with_reducible first | exact HB.out | apply below_alloc | apply pw_below_drewN | apply below_drew1 | refine below_set ?_ GE341.out) | exact HB.out)))); (case aL => have := LMc17.out; omega); intro v352 w21 ho hb hg hat; rw [← Ny351.out] at ho; have n0_ := Aside0.mk (blk_grown (g := gb341) (o := .cells #[.string a1_0, .bool a1_1, .string a1_2] 49 (0, 0)) (by (with_reducible repeat (first | refine blk_drewN ?_ _ | refine blk_drew ?_ | refine blk_alloc ?_ _)); exact BK341.out) hg (Kd.R_away HO348.out (fun _ hk => hk))); have n1_ := Aside0.mk (hb); have n2_ := Aside0.mk (ho); clear BK341; clear HB; clear HO348; have BK341 := n0_; have HB := n1_; have HO353 := n2_; clear n0_ n1_ n2_; clear ho hb hg hat))
            repeat (go_quiet (first | ((with_reducible refine gate_builtin (b := .append) (xs := #[.tmp 26, .tmp 28]) rfl ?_); at_builtin; refine Kd.R_append k49 (w0 := w) w.heap.size rfl (.tmp 26) (.tmp 28) 22 49 (.agg #[(.string ⟨#[]⟩), (.bool false), (.string ⟨#[]⟩)]) 40 rfl Try.underlying22 info49 rfl (by decide) (by omega) u5 x5_1 (⟨a1_0, a1_1, a1_2⟩ : S49) [.string a1_0, .bool a1_1, .string a1_2] (fun k_ => k_ ≠ gb341) (fun _ => False) rfl rfl ?aP (fun _ hk => hk.elim) ?aF ?aO ?aB ?aS ?aL ?_; (case aP => exact k49_mkM _ _ _ (⟨a1_0, a1_1, a1_2⟩ : S49)); (case aB => exact (by repeat (first | (with_reducible first | exact HB.out | apply below_alloc | apply pw_below_drewN | apply below_drew1 | refine below_set ?_ GE341.out) | exact HB.out))); (case aF => exact (fun k_ hk => Kd.freshB (g := gb341) (o := .cells #[.string a1_0, .bool a1_1, .string a1_2] 49 (0, 0)) (by (with_reducible repeat (first | refine blk_drewN ?_ _ | refine blk_drew ?_ | refine blk_alloc ?_ _)); exact BK341.out) k_ hk)); (case aO => exact (by (with_reducible repeat (first | apply Kd.R_alloc | apply Kd.R_drewN | apply Kd.R_drew)); exact HO_5.out)); (case aS => exact (below_size (by repeat (first | (with_reducible first | exact HB.out | apply below_alloc | apply pw_below_drewN | apply below_drew1 | refine below_set ?_ GE341.out) | exact HB.out)))); (case aL => have := LMc10.out; omega); intro v347 w19 ho hb hg hat; rw [← Ny346.out] at ho; have n0_ := Aside0.mk (blk_grown (g := gb341) (o := .cells #[.string a1_0, .bool a1_1, .string a1_2] 49 (0, 0)) (by (with_reducible repeat (first | refine blk_drewN ?_ _ | refine blk_drew ?_ | refine blk_alloc ?_ _)); exact BK341.out) hg (Kd.R_away HO_5.out (fun _ hk => hk))); have n1_ := Aside0.mk (hb); have n2_ := Aside0.mk (ho); clear BK341; clear HB; clear HO_5; have BK341 := n0_; have HB := n1_; have HO348 := n2_; clear n0_ n1_ n2_; clear ho hb hg hat; have p349 : 0 ≤ (x7_1 : Int) := of_decide_eq_true (by first | (with_reducible assumption) | assumption); have q349 : x7_1 < (l0.length : Int) := of_decide_eq_true (by first | (with_reducible assumption) | assumption); obtain ⟨ad349, e349, hx349_0, hx349_1, hx349_2⟩ := at_T49 HR0.out x7_1 p349 q349; cases e349; replace hx349_0 := (HB.out.cell (World.block_lt_of_cell? w _ hx349_0)).trans hx349_0; replace hx349_1 := (HB.out.cell (World.block_lt_of_cell? w _ hx349_1)).trans hx349_1; replace hx349_2 := (HB.out.cell (World.block_lt_of_cell? w _ hx349_2)).trans hx349_2; replace p349 := eq_true p349; replace q349 := eq_true q349; have hcz20_0 : w19.cell? ⟨gb341, 0, none⟩ = some (.string a1_0) := (blk_cell BK341.out 0).trans rfl; have hcz20_1 : w19.cell? ⟨gb341, 1, none⟩ = some (.bool a1_1) := (blk_cell BK341.out 1).trans rfl; have hcz20_2 : w19.cell? ⟨gb341, 2, none⟩ = some (.string a1_2) := (blk_cell BK341.out 2).trans rfl; have hfz20_0 := blk_frozen BK341.out 0; have hfz20_1 := blk_frozen BK341.out 1; have hfz20_2 := blk_frozen BK341.out 2; have p350 : 0 ≤ (x7_1 : Int) := of_decide_eq_true (by first | (with_reducible assumption) | assumption); have q350 : x7_1 < (l0.length : Int) := of_decide_eq_true (by first | (with_reducible assumption) | assumption); obtain ⟨ad350, e350, hx350_0, hx350_1, hx350_2⟩ := at_T49 HR0.out x7_1 p350 q350; obtain rfl : ad349 = ad350 := (by injection e350); replace hx350_0 := (HB.out.cell (World.block_lt_of_cell? w _ hx350_0)).trans hx350_0; replace hx350_1 := (HB.out.cell (World.block_lt_of_cell? w _ hx350_1)).trans hx350_1; replace hx350_2 := (HB.out.cell (World.block_lt_of_cell? w _ hx350_2)).trans hx350_2; replace p350 := eq_true p350; replace q350 := eq_true q350) | ((with_reducible refine gate_builtin (b := .append) (xs := #[.tmp 38, .tmp 43]) rfl ?_); at_builtin; refine Kd.R_append k49 (w0 := w) w.heap.size rfl (.tmp 38) (.tmp 43) 22 49 (.agg #[(.string ⟨#[]⟩), (.bool false), (.string ⟨#[]⟩)]) 40 rfl Try.underlying22 info49 rfl (by decide) (by omega) v347 y346 (⟨(rd_T49 l0 x7_1).f0, (rd_T49 l0 x7_1).f1, (rd_T49 l0 x7_1).f2⟩ : S49) [.string ((rd_T49 l0 x7_1).f0), .bool ((rd_T49 l0 x7_1).f1), .string ((rd_T49 l0 x7_1).f2)] (fun k_ => k_ ≠ gb341) (fun _ => False) rfl rfl ?aP (fun _ hk => hk.elim) ?aF ?aO ?aB ?aS ?aL ?_; (case aP => exact k49_mkM _ _ _ (⟨(rd_T49 l0 x7_1).f0, (rd_T49 l0 x7_1).f1, (rd_T49 l0 x7_1).f2⟩ : S49)); (case aB => exact (by repeat (first | (with_reducible first | exact HB.out | apply below_alloc | apply pw_below_drewN | apply below_drew1 | refine below_set ?_ GE341.out) | exact HB.out))); (case aF => exact (fun k_ hk => Kd.freshB (g := gb341) (o := .cells #[.string a1_0, .bool a1_1, .string a1_2] 49 (0, 0)) (by (with_reducible repeat (first | refine blk_drewN ?_ _ | refine blk_drew ?_ | refine blk_alloc ?_ _)); exact BK341.out) k_ hk)); (case aO => exact (by (with_reducible repeat (first | apply Kd.R_alloc | apply Kd.R_drewN | apply Kd.R_drew)); exact HO348.out)); (case aS => exact (below_size (by repeat (first | (with_reducible first | exact HB.out | apply below_alloc | apply pw_below_drewN | apply below_drew1 | refine below_set ?_ GE341.out) | exact HB.out)))); (case aL => have := LMc17.out; omega); intro v352 w21 ho hb hg hat; rw [← Ny351.out] at ho; have n0_ := Aside0.mk (blk_grown (g := gb341) (o := .cells #[.string a1_0, .bool a1_1, .string a1_2] 49 (0, 0)) (by (with_reducible repeat (first | refine blk_drewN ?_ _ | refine blk_drew ?_ | refine blk_alloc ?_ _)); exact BK341.out) hg (Kd.R_away HO348.out (fun _ hk => hk))); have n1_ := Aside0.mk (hb); have n2_ := Aside0.mk (ho); clear BK341; clear HB; clear HO348; have BK341 := n0_; have HB := n1_; have HO353 := n2_; clear n0_ n1_ n2_; clear ho hb hg hat)); try go_wp2_with (first | ((with_reducible refine gate_builtin (b := .append) (xs := #[.tmp 26, .tmp 28]) rfl ?_); at_builtin; refine Kd.R_append k49 (w0 := w) w.heap.size rfl (.tmp 26) (.tmp 28) 22 49 (.agg #[(.string ⟨#[]⟩), (.bool false), (.string ⟨#[]⟩)]) 40 rfl Try.underlying22 info49 rfl (by decide) (by omega) u5 x5_1 (⟨a1_0, a1_1, a1_2⟩ : S49) [.string a1_0, .bool a1_1, .string a1_2] (fun k_ => k_ ≠ gb341) (fun _ => False) rfl rfl ?aP (fun _ hk => hk.elim) ?aF ?aO ?aB ?aS ?aL ?_; (case aP => exact k49_mkM _ _ _ (⟨a1_0, a1_1, a1_2⟩ : S49)); (case aB => exact (by repeat (first | (with_reducible first | exact HB.out | apply below_alloc | apply pw_below_drewN | apply below_drew1 | refine below_set ?_ GE341.out) | exact HB.out))); (case aF => exact (fun k_ hk => Kd.freshB (g := gb341) (o := .cells #[.string a1_0, .bool a1_1, .string a1_2] 49 (0, 0)) (by (with_reducible repeat (first | refine blk_drewN ?_ _ | refine blk_drew ?_ | refine blk_alloc ?_ _)); exact BK341.out) k_ hk)); (case aO => exact (by (with_reducible repeat (first | apply Kd.R_alloc | apply Kd.R_drewN | apply Kd.R_drew)); exact HO_5.out)); (case aS => exact (below_size (by repeat (first | (with_reducible first | exact HB.out | apply below_alloc | apply pw_below_drewN | apply below_drew1 | refine below_set ?_ GE341.out) | exact HB.out)))); (case aL => have := LMc10.out; omega); intro v347 w19 ho hb hg hat; rw [← Ny346.out] at ho; have n0_ := Aside0.mk (blk_grown (g := gb341) (o := .cells #[.string a1_0, .bool a1_1, .string a1_2] 49 (0, 0)) (by (with_reducible repeat (first | refine blk_drewN ?_ _ | refine blk_drew ?_ | refine blk_alloc ?_ _)); exact BK341.out) hg (Kd.R_away HO_5.out (fun _ hk => hk))); have n1_ := Aside0.mk (hb); have n2_ := Aside0.mk (ho); clear BK341; clear HB; clear HO_5; have BK341 := n0_; have HB := n1_; have HO348 := n2_; clear n0_ n1_ n2_; clear ho hb hg hat; have p349 : 0 ≤ (x7_1 : Int) := of_decide_eq_true (by first | (with_reducible assumption) | assumption); have q349 : x7_1 < (l0.length : Int) := of_decide_eq_true (by first | (with_reducible assumption) | assumption); obtain ⟨ad349, e349, hx349_0, hx349_1, hx349_2⟩ := at_T49 HR0.out x7_1 p349 q349; cases e349; replace hx349_0 := (HB.out.cell (World.block_lt_of_cell? w _ hx349_0)).trans hx349_0; replace hx349_1 := (HB.out.cell (World.block_lt_of_cell? w _ hx349_1)).trans hx349_1; replace hx349_2 := (HB.out.cell (World.block_lt_of_cell? w _ hx349_2)).trans hx349_2; replace p349 := eq_true p349; replace q349 := eq_true q349; have hcz20_0 : w19.cell? ⟨gb341, 0, none⟩ = some (.string a1_0) := (blk_cell BK341.out 0).trans rfl; have hcz20_1 : w19.cell? ⟨gb341, 1, none⟩ = some (.bool a1_1) := (blk_cell BK341.out 1).trans rfl; have hcz20_2 : w19.cell? ⟨gb341, 2, none⟩ = some (.string a1_2) := (blk_cell BK341.out 2).trans rfl; have hfz20_0 := blk_frozen BK341.out 0; have hfz20_1 := blk_frozen BK341.out 1; have hfz20_2 := blk_frozen BK341.out 2; have p350 : 0 ≤ (x7_1 : Int) := of_decide_eq_true (by first | (with_reducible assumption) | assumption); have q350 : x7_1 < (l0.length : Int) := of_decide_eq_true (by first | (with_reducible assumption) | assumption); obtain ⟨ad350, e350, hx350_0, hx350_1, hx350_2⟩ := at_T49 HR0.out x7_1 p350 q350; obtain rfl : ad349 = ad350 := (by injection e350); replace hx350_0 := (HB.out.cell (World.block_lt_of_cell? w _ hx350_0)).trans hx350_0; replace hx350_1 := (HB.out.cell (World.block_lt_of_cell? w _ hx350_1)).trans hx350_1; replace hx350_2 := (HB.out.cell (World.block_lt_of_cell? w _ hx350_2)).trans hx350_2; replace p350 := eq_true p350; replace q350 := eq_true q350) | ((with_reducible refine gate_builtin (b := .append) (xs := #[.tmp 38, .tmp 43]) rfl ?_); at_builtin; refine Kd.R_append k49 (w0 := w) w.heap.size rfl (.tmp 38) (.tmp 43) 22 49 (.agg #[(.string ⟨#[]⟩), (.bool false), (.string ⟨#[]⟩)]) 40 rfl Try.underlying22 info49 rfl (by decide) (by omega) v347 y346 (⟨(rd_T49 l0 x7_1).f0, (rd_T49 l0 x7_1).f1, (rd_T49 l0 x7_1).f2⟩ : S49) [.string ((rd_T49 l0 x7_1).f0), .bool ((rd_T49 l0 x7_1).f1), .string ((rd_T49 l0 x7_1).f2)] (fun k_ => k_ ≠ gb341) (fun _ => False) rfl rfl ?aP (fun _ hk => hk.elim) ?aF ?aO ?aB ?aS ?aL ?_; (case aP => exact k49_mkM _ _ _ (⟨(rd_T49 l0 x7_1).f0, (rd_T49 l0 x7_1).f1, (rd_T49 l0 x7_1).f2⟩ : S49)); (case aB => exact (by repeat (first | (with_reducible first | exact HB.out | apply below_alloc | apply pw_below_drewN | apply below_drew1 | refine below_set ?_ GE341.out) | exact HB.out))); (case aF => exact (fun k_ hk => Kd.freshB (g := gb341) (o := .cells #[.string a1_0, .bool a1_1, .string a1_2] 49 (0, 0)) (by (with_reducible repeat (first | refine blk_drewN ?_ _ | refine blk_drew ?_ | refine blk_alloc ?_ _)); exact BK341.out) k_ hk)); (case aO => exact (by (with_reducible repeat (first | apply Kd.R_alloc | apply Kd.R_drewN | apply Kd.R_drew)); exact HO348.out)); (case aS => exact (below_size (by repeat (first | (with_reducible first | exact HB.out | apply below_alloc | apply pw_below_drewN | apply below_drew1 | refine below_set ?_ GE341.out) | exact HB.out)))); (case aL => have := LMc17.out; omega); intro v352 w21 ho hb hg hat; rw [← Ny351.out] at ho; have n0_ := Aside0.mk (blk_grown (g := gb341) (o := .cells #[.string a1_0, .bool a1_1, .string a1_2] 49 (0, 0)) (by (with_reducible repeat (first | refine blk_drewN ?_ _ | refine blk_drew ?_ | refine blk_alloc ?_ _)); exact BK341.out) hg (Kd.R_away HO348.out (fun _ hk => hk))); have n1_ := Aside0.mk (hb); have n2_ := Aside0.mk (ho); clear BK341; clear HB; clear HO348; have BK341 := n0_; have HB := n1_; have HO353 := n2_; clear n0_ n1_ n2_; clear ho hb hg hat)))
            go_roundg kj4
            case measure => have := HK1.out; have := HJ4.out; omega
            case rel => exact ⟨(y351), (true), (wrap64 (x7_1 + 1)), (by first | rfl | (simp; done) | (simp [*]; done)), (by first | rfl | (simp; done) | (simp [*]; done)), H', ⟨by have := HK1.out; have := HJ4.out; omega⟩, ⟨by (with_reducible repeat (first | apply Kd.R_alloc | apply Kd.R_drewN | apply Kd.R_drew)); exact HO353.out⟩, ⟨by (with_reducible repeat (first | refine blk_drewN ?_ _ | refine blk_drew ?_ | refine blk_alloc ?_ _)); exact BK341.out⟩, ⟨by repeat (first | (with_reducible first | exact HB.out | apply below_alloc | apply pw_below_drewN | apply below_drew1 | refine below_set ?_ GE341.out) | exact HB.out)⟩⟩
           ·rw [if_neg c17] at H
            exact absurd H (by simp)
         ·rw [if_neg c12] at H
          exact absurd H (by simp)
        ·rw [if_neg c11] at H
         exact absurd H (by simp)
       ·rw [if_neg c10] at H
        exact absurd H (by simp)
      ·replace c9 := Bool.eq_false_iff.mpr c9
       subst c9
       have H1 : (if 0 ≤ x7_1 then (if x7_1 < (l0.length : Int) then (if ((rd_T49 l0 x7_1).f0).toList = a1_0.toList then (ravelinref12_With.l0 kj4 l0 x5_1 x6_1 (wrap64 (x7_1 + 1)) a1_0 a1_1 a1_2) else (if x5_1.length < 3518437208883 then (ravelinref12_With.l0 kj4 l0 (x5_1 ++ [(⟨(rd_T49 l0 x7_1).f0, (rd_T49 l0 x7_1).f1, (rd_T49 l0 x7_1).f2⟩ : S49)]) x6_1 (wrap64 (x7_1 + 1)) a1_0 a1_1 a1_2) else (none))) else (none)) else (none)) = some r := by rw [if_neg (show ¬ (false = true) by decide)] at H; exact H
       clear H
       have H := H1
       clear H1
       by_cases c22 : 0 ≤ x7_1
       ·rw [if_pos c22] at H
        have c22b0 : decide (0 ≤ x7_1) = true := decide_eq_true c22
        clear c22
        by_cases c23 : x7_1 < (l0.length : Int)
        ·rw [if_pos c23] at H
         have c23b0 : decide (x7_1 < (l0.length : Int)) = true := decide_eq_true c23
         clear c23
         by_cases c24 : ((rd_T49 l0 x7_1).f0).toList = a1_0.toList
         ·rw [if_pos c24] at H
          have c24b0 : (((rd_T49 l0 x7_1).f0).toList == a1_0.toList) = true := beq_iff_eq.mpr c24
          have c24b1 : (((rd_T49 l0 x7_1).f0).toList != a1_0.toList) = false := bne_eq_false_iff_eq.mpr c24
          clear c24
          have H' := Aside0.mk H
          clear H
          have p354 : 0 ≤ (x7_1 : Int) := of_decide_eq_true (by first | (with_reducible assumption) | assumption)
          have q354 : x7_1 < (l0.length : Int) := of_decide_eq_true (by first | (with_reducible assumption) | assumption)
          obtain ⟨ad354, e354, hx354_0, hx354_1, hx354_2⟩ := at_T49 HR0.out x7_1 p354 q354
          cases e354
          replace hx354_0 := (HB.out.cell (World.block_lt_of_cell? w _ hx354_0)).trans hx354_0
          replace hx354_1 := (HB.out.cell (World.block_lt_of_cell? w _ hx354_1)).trans hx354_1
          replace hx354_2 := (HB.out.cell (World.block_lt_of_cell? w _ hx354_2)).trans hx354_2
          replace p354 := eq_true p354
          replace q354 := eq_true q354
          have hcz25_0 : wc.cell? ⟨gb341, 0, none⟩ = some (.string a1_0) := (blk_cell BK341.out 0).trans rfl
          have hcz25_1 : wc.cell? ⟨gb341, 1, none⟩ = some (.bool a1_1) := (blk_cell BK341.out 1).trans rfl
          have hcz25_2 : wc.cell? ⟨gb341, 2, none⟩ = some (.string a1_2) := (blk_cell BK341.out 2).trans rfl
          have hfz25_0 := blk_frozen BK341.out 0
          have hfz25_1 := blk_frozen BK341.out 1
          have hfz25_2 := blk_frozen BK341.out 2
          go_wp2
          repeat (go_quiet (fail); try go_wp2)
          go_roundg kj4
          case measure => have := HK1.out; have := HJ4.out; omega
          case rel => exact ⟨(x5_1), (x6_1), (wrap64 (x7_1 + 1)), (by first | rfl | (simp; done) | (simp [*]; done)), (by first | rfl | (simp; done) | (simp [*]; done)), H', ⟨by have := HK1.out; have := HJ4.out; omega⟩, ⟨by (with_reducible repeat (first | apply Kd.R_alloc | apply Kd.R_drewN | apply Kd.R_drew)); exact HO_5.out⟩, ⟨by (with_reducible repeat (first | refine blk_drewN ?_ _ | refine blk_drew ?_ | refine blk_alloc ?_ _)); exact BK341.out⟩, ⟨by repeat (first | (with_reducible first | exact HB.out | apply below_alloc | apply pw_below_drewN | apply below_drew1 | refine below_set ?_ GE341.out) | exact HB.out)⟩⟩
         ·rw [if_neg c24] at H
          have c24b0 : (((rd_T49 l0 x7_1).f0).toList == a1_0.toList) = false := beq_eq_false_iff_ne.mpr c24
          have c24b1 : (((rd_T49 l0 x7_1).f0).toList != a1_0.toList) = true := bne_iff_ne.mpr c24
          by_cases c26 : x5_1.length < 3518437208883
          ·rw [if_pos c26] at H
           have LMc26 := Aside0.mk c26
           clear c26
           obtain ⟨y356, hy356⟩ : ∃ y_ : List (S49), y_ = (x5_1 ++ [(⟨(rd_T49 l0 x7_1).f0, (rd_T49 l0 x7_1).f1, (rd_T49 l0 x7_1).f2⟩ : S49)]) := ⟨_, rfl⟩
           replace H : (ravelinref12_With.l0 kj4 l0 y356 x6_1 (wrap64 (x7_1 + 1)) a1_0 a1_1 a1_2) = some r := by first | (rw [hy356]; with_reducible exact H) | (have H2_ := (Option.bind_some _ _).symm.trans H; rw [hy356]; with_reducible exact H2_) | (have H2_ := (Option.bind_some _ _).symm.trans H; with_reducible exact H2_) | with_reducible exact H | (rw [hy356]; exact H) | exact H
           have Ny356 := Aside0.mk hy356
           clear hy356
           have H' := Aside0.mk H
           clear H
           have p354 : 0 ≤ (x7_1 : Int) := of_decide_eq_true (by first | (with_reducible assumption) | assumption)
           have q354 : x7_1 < (l0.length : Int) := of_decide_eq_true (by first | (with_reducible assumption) | assumption)
           obtain ⟨ad354, e354, hx354_0, hx354_1, hx354_2⟩ := at_T49 HR0.out x7_1 p354 q354
           cases e354
           replace hx354_0 := (HB.out.cell (World.block_lt_of_cell? w _ hx354_0)).trans hx354_0
           replace hx354_1 := (HB.out.cell (World.block_lt_of_cell? w _ hx354_1)).trans hx354_1
           replace hx354_2 := (HB.out.cell (World.block_lt_of_cell? w _ hx354_2)).trans hx354_2
           replace p354 := eq_true p354
           replace q354 := eq_true q354
           have hcz27_0 : wc.cell? ⟨gb341, 0, none⟩ = some (.string a1_0) := (blk_cell BK341.out 0).trans rfl
           have hcz27_1 : wc.cell? ⟨gb341, 1, none⟩ = some (.bool a1_1) := (blk_cell BK341.out 1).trans rfl
           have hcz27_2 : wc.cell? ⟨gb341, 2, none⟩ = some (.string a1_2) := (blk_cell BK341.out 2).trans rfl
           have hfz27_0 := blk_frozen BK341.out 0
           have hfz27_1 := blk_frozen BK341.out 1
           have hfz27_2 := blk_frozen BK341.out 2
           have p355 : 0 ≤ (x7_1 : Int) := of_decide_eq_true (by first | (with_reducible assumption) | assumption)
           have q355 : x7_1 < (l0.length : Int) := of_decide_eq_true (by first | (with_reducible assumption) | assumption)
           obtain ⟨ad355, e355, hx355_0, hx355_1, hx355_2⟩ := at_T49 HR0.out x7_1 p355 q355
           obtain rfl : ad354 = ad355 := (by injection e355)
           replace hx355_0 := (HB.out.cell (World.block_lt_of_cell? w _ hx355_0)).trans hx355_0
           replace hx355_1 := (HB.out.cell (World.block_lt_of_cell? w _ hx355_1)).trans hx355_1
           replace hx355_2 := (HB.out.cell (World.block_lt_of_cell? w _ hx355_2)).trans hx355_2
           replace p355 := eq_true p355
           replace q355 := eq_true q355
           go_wp2_with (first | ((with_reducible refine gate_builtin (b := .append) (xs := #[.tmp 38, .tmp 43]) rfl ?_); at_builtin; refine Kd.R_append k49 (w0 := w) w.heap.size rfl (.tmp 38) (.tmp 43) 22 49 (.agg #[(.string ⟨#[]⟩), (.bool false), (.string ⟨#[]⟩)]) 40 rfl Try.underlying22 info49 rfl (by decide) (by omega) u5 x5_1 (⟨(rd_T49 l0 x7_1).f0, (rd_T49 l0 x7_1).f1, (rd_T49 l0 x7_1).f2⟩ : S49) [.string ((rd_T49 l0 x7_1).f0), .bool ((rd_T49 l0 x7_1).f1), .string ((rd_T49 l0 x7_1).f2)] (fun k_ => k_ ≠ gb341) (fun _ => False) rfl rfl ?aP (fun _ hk => hk.elim) ?aF ?aO ?aB ?aS ?aL ?_; (case aP => exact k49_mkM _ _ _ (⟨(rd_T49 l0 x7_1).f0, (rd_T49 l0 x7_1).f1, (rd_T49 l0 x7_1).f2⟩ : S49)); (case aB => exact (by repeat (first | (with_reducible first | exact HB.out | apply below_alloc | apply pw_below_drewN | apply below_drew1 | refine below_set ?_ GE341.out) | exact HB.out))); (case aF => exact (fun k_ hk => Kd.freshB (g := gb341) (o := .cells #[.string a1_0, .bool a1_1, .string a1_2] 49 (0, 0)) (by (with_reducible repeat (first | refine blk_drewN ?_ _ | refine blk_drew ?_ | refine blk_alloc ?_ _)); exact BK341.out) k_ hk)); (case aO => exact (by (with_reducible repeat (first | apply Kd.R_alloc | apply Kd.R_drewN | apply Kd.R_drew)); exact HO_5.out)); (case aS => exact (below_size (by repeat (first | (with_reducible first | exact HB.out | apply below_alloc | apply pw_below_drewN | apply below_drew1 | refine below_set ?_ GE341.out) | exact HB.out)))); (case aL => have := LMc26.out; omega); intro v357 w28 ho hb hg hat; rw [← Ny356.out] at ho; have n0_ := Aside0.mk (blk_grown (g := gb341) (o := .cells #[.string a1_0, .bool a1_1, .string a1_2] 49 (0, 0)) (by (with_reducible repeat (first | refine blk_drewN ?_ _ | refine blk_drew ?_ | refine blk_alloc ?_ _)); exact BK341.out) hg (Kd.R_away HO_5.out (fun _ hk => hk))); have n1_ := Aside0.mk (hb); have n2_ := Aside0.mk (ho); clear BK341; clear HB; clear HO_5; have BK341 := n0_; have HB := n1_; have HO358 := n2_; clear n0_ n1_ n2_; clear ho hb hg hat))
           repeat (go_quiet (first | ((with_reducible refine gate_builtin (b := .append) (xs := #[.tmp 38, .tmp 43]) rfl ?_); at_builtin; refine Kd.R_append k49 (w0 := w) w.heap.size rfl (.tmp 38) (.tmp 43) 22 49 (.agg #[(.string ⟨#[]⟩), (.bool false), (.string ⟨#[]⟩)]) 40 rfl Try.underlying22 info49 rfl (by decide) (by omega) u5 x5_1 (⟨(rd_T49 l0 x7_1).f0, (rd_T49 l0 x7_1).f1, (rd_T49 l0 x7_1).f2⟩ : S49) [.string ((rd_T49 l0 x7_1).f0), .bool ((rd_T49 l0 x7_1).f1), .string ((rd_T49 l0 x7_1).f2)] (fun k_ => k_ ≠ gb341) (fun _ => False) rfl rfl ?aP (fun _ hk => hk.elim) ?aF ?aO ?aB ?aS ?aL ?_; (case aP => exact k49_mkM _ _ _ (⟨(rd_T49 l0 x7_1).f0, (rd_T49 l0 x7_1).f1, (rd_T49 l0 x7_1).f2⟩ : S49)); (case aB => exact (by repeat (first | (with_reducible first | exact HB.out | apply below_alloc | apply pw_below_drewN | apply below_drew1 | refine below_set ?_ GE341.out) | exact HB.out))); (case aF => exact (fun k_ hk => Kd.freshB (g := gb341) (o := .cells #[.string a1_0, .bool a1_1, .string a1_2] 49 (0, 0)) (by (with_reducible repeat (first | refine blk_drewN ?_ _ | refine blk_drew ?_ | refine blk_alloc ?_ _)); exact BK341.out) k_ hk)); (case aO => exact (by (with_reducible repeat (first | apply Kd.R_alloc | apply Kd.R_drewN | apply Kd.R_drew)); exact HO_5.out)); (case aS => exact (below_size (by repeat (first | (with_reducible first | exact HB.out | apply below_alloc | apply pw_below_drewN | apply below_drew1 | refine below_set ?_ GE341.out) | exact HB.out)))); (case aL => have := LMc26.out; omega); intro v357 w28 ho hb hg hat; rw [← Ny356.out] at ho; have n0_ := Aside0.mk (blk_grown (g := gb341) (o := .cells #[.string a1_0, .bool a1_1, .string a1_2] 49 (0, 0)) (by (with_reducible repeat (first | refine blk_drewN ?_ _ | refine blk_drew ?_ | refine blk_alloc ?_ _)); exact BK341.out) hg (Kd.R_away HO_5.out (fun _ hk => hk))); have n1_ := Aside0.mk (hb); have n2_ := Aside0.mk (ho); clear BK341; clear HB; clear HO_5; have BK341 := n0_; have HB := n1_; have HO358 := n2_; clear n0_ n1_ n2_; clear ho hb hg hat)); try go_wp2_with (first | ((with_reducible refine gate_builtin (b := .append) (xs := #[.tmp 38, .tmp 43]) rfl ?_); at_builtin; refine Kd.R_append k49 (w0 := w) w.heap.size rfl (.tmp 38) (.tmp 43) 22 49 (.agg #[(.string ⟨#[]⟩), (.bool false), (.string ⟨#[]⟩)]) 40 rfl Try.underlying22 info49 rfl (by decide) (by omega) u5 x5_1 (⟨(rd_T49 l0 x7_1).f0, (rd_T49 l0 x7_1).f1, (rd_T49 l0 x7_1).f2⟩ : S49) [.string ((rd_T49 l0 x7_1).f0), .bool ((rd_T49 l0 x7_1).f1), .string ((rd_T49 l0 x7_1).f2)] (fun k_ => k_ ≠ gb341) (fun _ => False) rfl rfl ?aP (fun _ hk => hk.elim) ?aF ?aO ?aB ?aS ?aL ?_; (case aP => exact k49_mkM _ _ _ (⟨(rd_T49 l0 x7_1).f0, (rd_T49 l0 x7_1).f1, (rd_T49 l0 x7_1).f2⟩ : S49)); (case aB => exact (by repeat (first | (with_reducible first | exact HB.out | apply below_alloc | apply pw_below_drewN | apply below_drew1 | refine below_set ?_ GE341.out) | exact HB.out))); (case aF => exact (fun k_ hk => Kd.freshB (g := gb341) (o := .cells #[.string a1_0, .bool a1_1, .string a1_2] 49 (0, 0)) (by (with_reducible repeat (first | refine blk_drewN ?_ _ | refine blk_drew ?_ | refine blk_alloc ?_ _)); exact BK341.out) k_ hk)); (case aO => exact (by (with_reducible repeat (first | apply Kd.R_alloc | apply Kd.R_drewN | apply Kd.R_drew)); exact HO_5.out)); (case aS => exact (below_size (by repeat (first | (with_reducible first | exact HB.out | apply below_alloc | apply pw_below_drewN | apply below_drew1 | refine below_set ?_ GE341.out) | exact HB.out)))); (case aL => have := LMc26.out; omega); intro v357 w28 ho hb hg hat; rw [← Ny356.out] at ho; have n0_ := Aside0.mk (blk_grown (g := gb341) (o := .cells #[.string a1_0, .bool a1_1, .string a1_2] 49 (0, 0)) (by (with_reducible repeat (first | refine blk_drewN ?_ _ | refine blk_drew ?_ | refine blk_alloc ?_ _)); exact BK341.out) hg (Kd.R_away HO_5.out (fun _ hk => hk))); have n1_ := Aside0.mk (hb); have n2_ := Aside0.mk (ho); clear BK341; clear HB; clear HO_5; have BK341 := n0_; have HB := n1_; have HO358 := n2_; clear n0_ n1_ n2_; clear ho hb hg hat)))
           go_roundg kj4
           case measure => have := HK1.out; have := HJ4.out; omega
           case rel => exact ⟨(y356), (x6_1), (wrap64 (x7_1 + 1)), (by first | rfl | (simp; done) | (simp [*]; done)), (by first | rfl | (simp; done) | (simp [*]; done)), H', ⟨by have := HK1.out; have := HJ4.out; omega⟩, ⟨by (with_reducible repeat (first | apply Kd.R_alloc | apply Kd.R_drewN | apply Kd.R_drew)); exact HO358.out⟩, ⟨by (with_reducible repeat (first | refine blk_drewN ?_ _ | refine blk_drew ?_ | refine blk_alloc ?_ _)); exact BK341.out⟩, ⟨by repeat (first | (with_reducible first | exact HB.out | apply below_alloc | apply pw_below_drewN | apply below_drew1 | refine below_set ?_ GE341.out) | exact HB.out)⟩⟩
          ·rw [if_neg c26] at H
           exact absurd H (by simp)
        ·rw [if_neg c23] at H
         exact absurd H (by simp)
       ·rw [if_neg c22] at H
        exact absurd H (by simp)
   ·rw [if_neg c4] at H
    have c4b0 : decide (x7_1 < (l0.length : Int)) = false := decide_eq_false c4
    clear c4
    by_cases c29 : x6_1 = true
    ·subst c29
     have H1 : (some x5_1) = some r := by rw [if_pos rfl] at H; exact H
     clear H
     have H := H1
     clear H1
     obtain rfl := Option.some.inj H
     go_wp2
     repeat (go_quiet (fail); try go_wp2)
     go_ret
     exact ⟨_, by first | rfl | (simp [errW_none, errW_some] <;> rfl) | (simp [*, errW_none, errW_some] <;> rfl), by (with_reducible repeat (first | apply Kd.R_alloc | apply Kd.R_drewN | apply Kd.R_drew)); exact Kd.R_mono HO_5.out (fun _ hk => trivial), by repeat (first | (with_reducible first | exact HB.out | apply below_alloc | apply pw_below_drewN | apply below_drew1 | refine below_set ?_ GE341.out) | exact HB.out)⟩
    ·replace c29 := Bool.eq_false_iff.mpr c29
     subst c29
     have H1 : (if x5_1.length < 3518437208883 then (some (x5_1 ++ [(⟨a1_0, a1_1, a1_2⟩ : S49)])) else (none)) = some r := by rw [if_neg (show ¬ (false = true) by decide)] at H; exact H
     clear H
     have H := H1
     clear H1
     by_cases c30 : x5_1.length < 3518437208883
     ·rw [if_pos c30] at H
      have LMc30 := Aside0.mk c30
      clear c30
      obtain ⟨y342, hy342⟩ : ∃ y_ : List (S49), y_ = (x5_1 ++ [(⟨a1_0, a1_1, a1_2⟩ : S49)]) := ⟨_, rfl⟩
      replace H : (some y342) = some r := by first | (rw [hy342]; with_reducible exact H) | (have H2_ := (Option.bind_some _ _).symm.trans H; rw [hy342]; with_reducible exact H2_) | (have H2_ := (Option.bind_some _ _).symm.trans H; with_reducible exact H2_) | with_reducible exact H | (rw [hy342]; exact H) | exact H
      have Ny342 := Aside0.mk hy342
      clear hy342
      obtain rfl := Option.some.inj H
      have hcz31_0 : wr.cell? ⟨gb341, 0, none⟩ = some (.string a1_0) := (blk_cell BK341.out 0).trans rfl
      have hcz31_1 : wr.cell? ⟨gb341, 1, none⟩ = some (.bool a1_1) := (blk_cell BK341.out 1).trans rfl
      have hcz31_2 : wr.cell? ⟨gb341, 2, none⟩ = some (.string a1_2) := (blk_cell BK341.out 2).trans rfl
      have hfz31_0 := blk_frozen BK341.out 0
      have hfz31_1 := blk_frozen BK341.out 1
      have hfz31_2 := blk_frozen BK341.out 2
      go_wp2_with (first | ((with_reducible refine gate_builtin (b := .append) (xs := #[.tmp 47, .tmp 49]) rfl ?_); at_builtin; refine Kd.R_append k49 (w0 := w) w.heap.size rfl (.tmp 47) (.tmp 49) 22 49 (.agg #[(.string ⟨#[]⟩), (.bool false), (.string ⟨#[]⟩)]) 40 rfl Try.underlying22 info49 rfl (by decide) (by omega) u5 x5_1 (⟨a1_0, a1_1, a1_2⟩ : S49) [.string a1_0, .bool a1_1, .string a1_2] (fun k_ => k_ ≠ gb341) (fun _ => False) rfl rfl ?aP (fun _ hk => hk.elim) ?aF ?aO ?aB ?aS ?aL ?_; (case aP => exact k49_mkM _ _ _ (⟨a1_0, a1_1, a1_2⟩ : S49)); (case aB => exact (by repeat (first | (with_reducible first | exact HB.out | apply below_alloc | apply pw_below_drewN | apply below_drew1 | refine below_set ?_ GE341.out) | exact HB.out))); (case aF => exact (fun k_ hk => Kd.freshB (g := gb341) (o := .cells #[.string a1_0, .bool a1_1, .string a1_2] 49 (0, 0)) (by (with_reducible repeat (first | refine blk_drewN ?_ _ | refine blk_drew ?_ | refine blk_alloc ?_ _)); exact BK341.out) k_ hk)); (case aO => exact (by (with_reducible repeat (first | apply Kd.R_alloc | apply Kd.R_drewN | apply Kd.R_drew)); exact HO_5.out)); (case aS => exact (below_size (by repeat (first | (with_reducible first | exact HB.out | apply below_alloc | apply pw_below_drewN | apply below_drew1 | refine below_set ?_ GE341.out) | exact HB.out)))); (case aL => have := LMc30.out; omega); intro v343 w32 ho hb hg hat; rw [← Ny342.out] at ho; have n0_ := Aside0.mk (blk_grown (g := gb341) (o := .cells #[.string a1_0, .bool a1_1, .string a1_2] 49 (0, 0)) (by (with_reducible repeat (first | refine blk_drewN ?_ _ | refine blk_drew ?_ | refine blk_alloc ?_ _)); exact BK341.out) hg (Kd.R_away HO_5.out (fun _ hk => hk))); have n1_ := Aside0.mk (hb); have n2_ := Aside0.mk (ho); clear BK341; clear HB; clear HO_5; have BK341 := n0_; have HB := n1_; have HO344 := n2_; clear n0_ n1_ n2_; clear ho hb hg hat))
      repeat (go_quiet (first | ((with_reducible refine gate_builtin (b := .append) (xs := #[.tmp 47, .tmp 49]) rfl ?_); at_builtin; refine Kd.R_append k49 (w0 := w) w.heap.size rfl (.tmp 47) (.tmp 49) 22 49 (.agg #[(.string ⟨#[]⟩), (.bool false), (.string ⟨#[]⟩)]) 40 rfl Try.underlying22 info49 rfl (by decide) (by omega) u5 x5_1 (⟨a1_0, a1_1, a1_2⟩ : S49) [.string a1_0, .bool a1_1, .string a1_2] (fun k_ => k_ ≠ gb341) (fun _ => False) rfl rfl ?aP (fun _ hk => hk.elim) ?aF ?aO ?aB ?aS ?aL ?_; (case aP => exact k49_mkM _ _ _ (⟨a1_0, a1_1, a1_2⟩ : S49)); (case aB => exact (by repeat (first | (with_reducible first | exact HB.out | apply below_alloc | apply pw_below_drewN | apply below_drew1 | refine below_set ?_ GE341.out) | exact HB.out))); (case aF => exact (fun k_ hk => Kd.freshB (g := gb341) (o := .cells #[.string a1_0, .bool a1_1, .string a1_2] 49 (0, 0)) (by (with_reducible repeat (first | refine blk_drewN ?_ _ | refine blk_drew ?_ | refine blk_alloc ?_ _)); exact BK341.out) k_ hk)); (case aO => exact (by (with_reducible repeat (first | apply Kd.R_alloc | apply Kd.R_drewN | apply Kd.R_drew)); exact HO_5.out)); (case aS => exact (below_size (by repeat (first | (with_reducible first | exact HB.out | apply below_alloc | apply pw_below_drewN | apply below_drew1 | refine below_set ?_ GE341.out) | exact HB.out)))); (case aL => have := LMc30.out; omega); intro v343 w32 ho hb hg hat; rw [← Ny342.out] at ho; have n0_ := Aside0.mk (blk_grown (g := gb341) (o := .cells #[.string a1_0, .bool a1_1, .string a1_2] 49 (0, 0)) (by (with_reducible repeat (first | refine blk_drewN ?_ _ | refine blk_drew ?_ | refine blk_alloc ?_ _)); exact BK341.out) hg (Kd.R_away HO_5.out (fun _ hk => hk))); have n1_ := Aside0.mk (hb); have n2_ := Aside0.mk (ho); clear BK341; clear HB; clear HO_5; have BK341 := n0_; have HB := n1_; have HO344 := n2_; clear n0_ n1_ n2_; clear ho hb hg hat)); try go_wp2_with (first | ((with_reducible refine gate_builtin (b := .append) (xs := #[.tmp 47, .tmp 49]) rfl ?_); at_builtin; refine Kd.R_append k49 (w0 := w) w.heap.size rfl (.tmp 47) (.tmp 49) 22 49 (.agg #[(.string ⟨#[]⟩), (.bool false), (.string ⟨#[]⟩)]) 40 rfl Try.underlying22 info49 rfl (by decide) (by omega) u5 x5_1 (⟨a1_0, a1_1, a1_2⟩ : S49) [.string a1_0, .bool a1_1, .string a1_2] (fun k_ => k_ ≠ gb341) (fun _ => False) rfl rfl ?aP (fun _ hk => hk.elim) ?aF ?aO ?aB ?aS ?aL ?_; (case aP => exact k49_mkM _ _ _ (⟨a1_0, a1_1, a1_2⟩ : S49)); (case aB => exact (by repeat (first | (with_reducible first | exact HB.out | apply below_alloc | apply pw_below_drewN | apply below_drew1 | refine below_set ?_ GE341.out) | exact HB.out))); (case aF => exact (fun k_ hk => Kd.freshB (g := gb341) (o := .cells #[.string a1_0, .bool a1_1, .string a1_2] 49 (0, 0)) (by (with_reducible repeat (first | refine blk_drewN ?_ _ | refine blk_drew ?_ | refine blk_alloc ?_ _)); exact BK341.out) k_ hk)); (case aO => exact (by (with_reducible repeat (first | apply Kd.R_alloc | apply Kd.R_drewN | apply Kd.R_drew)); exact HO_5.out)); (case aS => exact (below_size (by repeat (first | (with_reducible first | exact HB.out | apply below_alloc | apply pw_below_drewN | apply below_drew1 | refine below_set ?_ GE341.out) | exact HB.out)))); (case aL => have := LMc30.out; omega); intro v343 w32 ho hb hg hat; rw [← Ny342.out] at ho; have n0_ := Aside0.mk (blk_grown (g := gb341) (o := .cells #[.string a1_0, .bool a1_1, .string a1_2] 49 (0, 0)) (by (with_reducible repeat (first | refine blk_drewN ?_ _ | refine blk_drew ?_ | refine blk_alloc ?_ _)); exact BK341.out) hg (Kd.R_away HO_5.out (fun _ hk => hk))); have n1_ := Aside0.mk (hb); have n2_ := Aside0.mk (ho); clear BK341; clear HB; clear HO_5; have BK341 := n0_; have HB := n1_; have HO344 := n2_; clear n0_ n1_ n2_; clear ho hb hg hat)))
      go_ret
      exact ⟨_, by first | rfl | (simp [errW_none, errW_some] <;> rfl) | (simp [*, errW_none, errW_some] <;> rfl), by (with_reducible repeat (first | apply Kd.R_alloc | apply Kd.R_drewN | apply Kd.R_drew)); exact Kd.R_mono HO344.out (fun _ hk => trivial), by repeat (first | (with_reducible first | exact HB.out | apply below_alloc | apply pw_below_drewN | apply below_drew1 | refine below_set ?_ GE341.out) | exact HB.out)⟩
     ·rw [if_neg c30] at H
      exact absurd H (by simp)

/-! ### ravelinref12_Neat: function 19 -/
def ravelinref12_Neat.l0 : Nat → List (S49) → List (S49) → Int → Option ((List (S49)))
 | 0, _, _, _ => none
 | k + 1, x0, x3, x4 => if x4 < (x0.length : Int) then (if 0 ≤ x4 then ((ravelinref12_With.f k x3 ((rd_T49 x0 x4).f0) ((rd_T49 x0 x4).f1) ((rd_T49 x0 x4).f2)).bind fun t360 => (ravelinref12_Neat.l0 k x0 t360 (wrap64 (x4 + 1)))) else (none)) else (some x3)
def ravelinref12_Neat.f (k : Nat) (l0 : List (S49)) : Option ((List (S49))) := ravelinref12_Neat.l0 k l0 ([] : List (S49)) 0
theorem ravelinref12_Neat.mono_l : ∀ k, (∀ y0 y1 y2, LeO (ravelinref12_Neat.l0 k y0 y1 y2) (ravelinref12_Neat.l0 (k + 1) y0 y1 y2))
 | 0 => fun _ _ _ r h => by simp [ravelinref12_Neat.l0] at h
 | k + 1 => by
  have ih0 := ravelinref12_Neat.mono_l k
  ·intro y0 y1 y2
   unfold ravelinref12_Neat.l0
   repeat' first
   | (with_reducible exact ih0 _ _ _)
   | (with_reducible exact ravelinref12_With.mono _ _ _ _ _)
   | (with_reducible exact LeO.refl _)
   | (with_reducible exact LeO.none _)
   | (with_reducible refine LeO.ite ?_ ?_)
   | (with_reducible refine LeO.bind ?_ (fun _ => ?_))
   | exact ih0 _ _ _
   | exact ravelinref12_With.mono _ _ _ _ _
   | exact LeO.none _
   | refine LeO.ite ?_ ?_
   | refine LeO.bind ?_ (fun _ => ?_)
theorem ravelinref12_Neat.mono : ∀ a0 k, LeO (ravelinref12_Neat.f k a0) (ravelinref12_Neat.f (k + 1) a0) := by
 intro a0 k
 have ih0 := ravelinref12_Neat.mono_l k
 unfold ravelinref12_Neat.f
 repeat' first
   | (with_reducible exact ih0 _ _ _)
   | (with_reducible exact ravelinref12_With.mono _ _ _ _ _)
   | (with_reducible exact LeO.refl _)
   | (with_reducible exact LeO.none _)
   | (with_reducible refine LeO.ite ?_ ?_)
   | (with_reducible refine LeO.bind ?_ (fun _ => ?_))
   | exact ih0 _ _ _
   | exact ravelinref12_With.mono _ _ _ _ _
   | exact LeO.none _
   | refine LeO.ite ?_ ?_
   | refine LeO.bind ?_ (fun _ => ?_)
set_option maxHeartbeats 8000000 in
set_option maxRecDepth 100000 in
theorem ravelinref12_Neat.calls (k : Nat) (A0 : Option Addr) (c0 : Nat) (l0 : List (S49)) (r : List (S49)) (w : World) (hr0 : Kd.C k49 w A0 l0.length l0) (hc0 : l0.length ≤ c0) (h : ravelinref12_Neat.f k l0 = some r) :
  Calls Try.prog 19 #[.slice A0 l0.length c0] w fun e w' => ∃ v0_ : Value, e = .returned (v0_) ∧ Kd.R k49 49 w' w.heap.size (fun _ => True) v0_ r ∧ Below w.heap.size w w' := by
 have hu49 := Try.underlying49
 have HR0 := Aside0.mk hr0
 have HC0 := Aside0.mk hc0
 clear hr0 hc0
 have HB := Aside0.mk (Below.refl w.heap.size w)
 have H : (ravelinref12_Neat.l0 k l0 ([] : List (S49)) 0) = some r := h
 clear h
 have H' := Aside0.mk H
 clear H
 go_enter Try.func19, Try.ntmps19
 go_wp2
 go_loopg [3, 4] k (fun kq v3 v4 w' => ∃ (x3_1 : List (S49)) (x4_1 : Int), v4 = .int .i64 x4_1 ∧ Aside0 (ravelinref12_Neat.l0 kq l0 x3_1 x4_1 = some r) ∧ Aside0 (kq ≤ k) ∧ Aside0 (Kd.R k49 49 w' w.heap.size (fun _ => True) v3 x3_1) ∧ Aside0 (Below w.heap.size w w'))
 case atStart => exact ⟨(([] : List (S49))), (0), (by first | rfl | (simp; done) | (simp [*]; done)), H', ⟨Nat.le_refl _⟩, ⟨by first | exact Kd.R_nil _ _ _ _ _ | exact Kd.N_nil _ _ _ _ _ | exact Kd.V_nil _ _ _ _ _ | exact Kd.Q_nil _ _ _ _ _ | exact Kd.S_nil _ _ _ _ _⟩, ⟨by repeat (first | (with_reducible first | exact HB.out | apply below_alloc | apply pw_below_drewN | apply below_drew1) | exact HB.out)⟩⟩
 case round =>
  clear H'
  try clear c1
  obtain ⟨x3_1, x4_1, rfl, HA, HK1, HO_3, HB⟩ := hrel
  cases gk with
  | zero => exact absurd HA.out (by simp [ravelinref12_Neat.l0])
  | succ k1 =>
   have H := HA.out
   clear HA
   simp only [ravelinref12_Neat.l0] at H
   by_cases c2 : x4_1 < (l0.length : Int)
   ·rw [if_pos c2] at H
    have c2b0 : decide (x4_1 < (l0.length : Int)) = true := decide_eq_true c2
    clear c2
    by_cases c3 : 0 ≤ x4_1
    ·rw [if_pos c3] at H
     have c3b0 : decide (0 ≤ x4_1) = true := decide_eq_true c3
     clear c3
     replace H := Option.bind_eq_some_iff.mp H
     obtain ⟨t360, A40, H⟩ := H
     replace H : (ravelinref12_Neat.l0 k1 l0 t360 (wrap64 (x4_1 + 1))) = some r := H
     have A4 := Aside0.mk A40
     clear A40
     have H' := Aside0.mk H
     clear H
     have p359 : 0 ≤ (x4_1 : Int) := of_decide_eq_true (by first | (with_reducible assumption) | assumption)
     have q359 : x4_1 < (l0.length : Int) := of_decide_eq_true (by first | (with_reducible assumption) | assumption)
     obtain ⟨ad359, e359, hx359_0, hx359_1, hx359_2⟩ := at_T49 HR0.out x4_1 p359 q359
     cases e359
     replace hx359_0 := (HB.out.cell (World.block_lt_of_cell? w _ hx359_0)).trans hx359_0
     replace hx359_1 := (HB.out.cell (World.block_lt_of_cell? w _ hx359_1)).trans hx359_1
     replace hx359_2 := (HB.out.cell (World.block_lt_of_cell? w _ hx359_2)).trans hx359_2
     replace p359 := eq_true p359
     replace q359 := eq_true q359
     obtain ⟨Ao5, co5, eo5⟩ := Kd.R_slice HO_3.out
     subst eo5
     go_wp2_with (first | ((with_reducible refine gate_callee (f := 40) rfl ?_); refine goesL_ (some 16) rfl rfl Try.func40 (by kernel_rfl) rfl #[.slice Ao5 x3_1.length co5, .agg #[.string ((rd_T49 l0 x4_1).f0), .bool ((rd_T49 l0 x4_1).f1), .string ((rd_T49 l0 x4_1).f2)]] rfl (by (try simp only [List.map_toArray, List.map_cons, List.map_nil]); first | done | rfl | (simp only [List.length_drop, List.length_take]; rfl)) ?_; (with_reducible refine (ravelinref12_With.calls k1 _ _ x3_1 ((rd_T49 l0 x4_1).f0) ((rd_T49 l0 x4_1).f1) ((rd_T49 l0 x4_1).f2) t360 _ ?side1 ?side2 A4.out).mono ?_); (case side1 => repeat (first | exact (Kd.R_reads' HO_3.out).2.2 | (with_reducible refine Kd.C_alloc ?_ _) | (with_reducible refine Kd.C_drewN ?_ _) | (with_reducible refine Kd.C_drew ?_))); (case side2 => exact (Kd.R_reads' HO_3.out).2.1); rintro e w6 ⟨v361, rfl, ho0, hb⟩; refine ⟨_, rfl, ?_⟩; have n0_ := Aside0.mk (Kd.R_elder' (by (with_reducible repeat (first | apply Kd.R_alloc | apply Kd.R_drewN | apply Kd.R_drew)); exact HO_3.out) (Kd.R_base ho0) hb); have n1_ := Aside0.mk (Kd.R_lower (Kd.R_new' ho0 (Kd.R_lt (by (with_reducible repeat (first | apply Kd.R_alloc | apply Kd.R_drewN | apply Kd.R_drew)); exact HO_3.out))) (below_size (by repeat (first | (with_reducible first | exact HB.out | apply below_alloc | apply pw_below_drewN | apply below_drew1) | exact HB.out)))); have n2_ := Aside0.mk (below_step (by repeat (first | (with_reducible first | exact HB.out | apply below_alloc | apply pw_below_drewN | apply below_drew1) | exact HB.out)) hb); clear HO_3; clear HB; have HO_3 := n0_; have HO362 := n1_; have HB := n2_; clear n0_ n1_ n2_; (try clear hb); (try clear hb2); (try clear hk); (try clear hi); (try clear ho0)))
     go_roundg k1
     case measure => have := HK1.out; omega
     case rel => exact ⟨(t360), (wrap64 (x4_1 + 1)), (by first | rfl | (simp; done) | (simp [*]; done)), H', ⟨by have := HK1.out; omega⟩, ⟨by (with_reducible repeat (first | apply Kd.R_alloc | apply Kd.R_drewN | apply Kd.R_drew)); exact Kd.R_mono HO362.out (fun _ hk => trivial)⟩, ⟨by repeat (first | (with_reducible first | exact HB.out | apply below_alloc | apply pw_below_drewN | apply below_drew1) | exact HB.out)⟩⟩
    ·rw [if_neg c3] at H
     exact absurd H (by simp)
   ·rw [if_neg c2] at H
    have c2b0 : decide (x4_1 < (l0.length : Int)) = false := decide_eq_false c2
    clear c2
    obtain rfl := Option.some.inj H
    go_wp2
    go_ret
    exact ⟨_, by first | rfl | (simp [errW_none, errW_some] <;> rfl) | (simp [*, errW_none, errW_some] <;> rfl), by (with_reducible repeat (first | apply Kd.R_alloc | apply Kd.R_drewN | apply Kd.R_drew)); exact HO_3.out, by repeat (first | (with_reducible first | exact HB.out | apply below_alloc | apply pw_below_drewN | apply below_drew1) | exact HB.out)⟩

/-! ### ravelinref6_Same: function 20 -/
def ravelinref6_Same.l0 : Nat → List (S74) → List (S74) → Int → Option (Bool)
 | 0, _, _, _ => none
 | k + 1, x0, x1, x5 => if x5 < (x0.length : Int) then (if 0 ≤ x5 then (if x5 < (x1.length : Int) then (if (!((((rd_T74 x0 x5).f0).toList) == (((rd_T74 x1 x5).f0).toList)) || (!(((rd_T74 x0 x5).f1) == ((rd_T74 x1 x5).f1)) || (!(((rd_T74 x0 x5).f2) == ((rd_T74 x1 x5).f2)) || (!((((rd_T74 x0 x5).f3).toList) == (((rd_T74 x1 x5).f3).toList)))))) = true then (some false) else (ravelinref6_Same.l0 k x0 x1 (wrap64 (x5 + 1)))) else (none)) else (none)) else (some true)
def ravelinref6_Same.f (k : Nat) (l0 : List (S74)) (l1 : List (S74)) : Option (Bool) := if (l0.length : Int) = (l1.length : Int) then (ravelinref6_Same.l0 k l0 l1 0) else (some false)
theorem ravelinref6_Same.mono_l : ∀ k, (∀ y0 y1 y2, LeO (ravelinref6_Same.l0 k y0 y1 y2) (ravelinref6_Same.l0 (k + 1) y0 y1 y2))
 | 0 => fun _ _ _ r h => by simp [ravelinref6_Same.l0] at h
 | k + 1 => by
  have ih0 := ravelinref6_Same.mono_l k
  ·intro y0 y1 y2
   unfold ravelinref6_Same.l0
   repeat' first
   | (with_reducible exact ih0 _ _ _)
   | (with_reducible exact LeO.refl _)
   | (with_reducible exact LeO.none _)
   | (with_reducible refine LeO.ite ?_ ?_)
   | (with_reducible refine LeO.bind ?_ (fun _ => ?_))
   | exact ih0 _ _ _
   | exact LeO.none _
   | refine LeO.ite ?_ ?_
   | refine LeO.bind ?_ (fun _ => ?_)
theorem ravelinref6_Same.mono : ∀ a0 a1 k, LeO (ravelinref6_Same.f k a0 a1) (ravelinref6_Same.f (k + 1) a0 a1) := by
 intro a0 a1 k
 have ih0 := ravelinref6_Same.mono_l k
 unfold ravelinref6_Same.f
 repeat' first
   | (with_reducible exact ih0 _ _ _)
   | (with_reducible exact LeO.refl _)
   | (with_reducible exact LeO.none _)
   | (with_reducible refine LeO.ite ?_ ?_)
   | (with_reducible refine LeO.bind ?_ (fun _ => ?_))
   | exact ih0 _ _ _
   | exact LeO.none _
   | refine LeO.ite ?_ ?_
   | refine LeO.bind ?_ (fun _ => ?_)
set_option maxHeartbeats 8000000 in
set_option maxRecDepth 100000 in
theorem ravelinref6_Same.calls (k : Nat) (A0 : Option Addr) (c0 : Nat) (l0 : List (S74)) (A1 : Option Addr) (c1 : Nat) (l1 : List (S74)) (r : Bool) (w : World) (hr0 : Kd.C k74 w A0 l0.length l0) (hc0 : l0.length ≤ c0) (hr1 : Kd.C k74 w A1 l1.length l1) (hc1 : l1.length ≤ c1) (h : ravelinref6_Same.f k l0 l1 = some r) :
  Calls Try.prog 20 #[.slice A0 l0.length c0, .slice A1 l1.length c1] w fun e w' => e = .returned (.bool r) ∧ Drawn0 w w' := by
 have hu74 := Try.underlying74
 have HR0 := Aside0.mk hr0
 have HC0 := Aside0.mk hc0
 clear hr0 hc0
 have HR1 := Aside0.mk hr1
 have HC1 := Aside0.mk hc1
 clear hr1 hc1
 have H : (if (l0.length : Int) = (l1.length : Int) then (ravelinref6_Same.l0 k l0 l1 0) else (some false)) = some r := h
 clear h
 by_cases c3 : (l0.length : Int) = (l1.length : Int)
 ·rw [if_pos c3] at H
  have c3b0 : ((l0.length : Int) == (l1.length : Int)) = true := beq_iff_eq.mpr c3
  have c3b1 : ((l0.length : Int) != (l1.length : Int)) = false := bne_eq_false_iff_eq.mpr c3
  have c3b2 : (l0.length == l1.length) = true := by first | simpa using c3 | (simp at c3 ⊢; omega)
  clear c3
  have H' := Aside0.mk H
  clear H
  go_enter Try.func20, Try.ntmps20
  go_wp2
  repeat (go_quiet (fail); try go_wp2)
  go_loopg [5] k (fun kq v5 w' => ∃ (x5_1 : Int), v5 = .int .i64 x5_1 ∧ Aside0 (ravelinref6_Same.l0 kq l0 l1 x5_1 = some r) ∧ Aside0 (kq ≤ k) ∧ Drawn0 w w')
  case atStart => exact ⟨(0), (by first | rfl | (simp; done) | (simp [*]; done)), H', ⟨Nat.le_refl _⟩, by repeat (first | exact Drawn0.refl _ | apply Drawn0.step)⟩
  case round =>
   clear H'
   try clear c1
   try clear c2
   try clear p2
   try clear c3
   try clear c3b0
   try clear c3b1
   try clear c3b2
   obtain ⟨x5_1, rfl, HA, HK1, ⟨m1, rfl⟩⟩ := hrel
   cases gk with
   | zero => exact absurd HA.out (by simp [ravelinref6_Same.l0])
   | succ k1 =>
    have H := HA.out
    clear HA
    simp only [ravelinref6_Same.l0] at H
    by_cases c4 : x5_1 < (l0.length : Int)
    ·rw [if_pos c4] at H
     have c4b0 : decide (x5_1 < (l0.length : Int)) = true := decide_eq_true c4
     clear c4
     by_cases c5 : 0 ≤ x5_1
     ·rw [if_pos c5] at H
      have c5b0 : decide (0 ≤ x5_1) = true := decide_eq_true c5
      clear c5
      by_cases c6 : x5_1 < (l1.length : Int)
      ·rw [if_pos c6] at H
       have c6b0 : decide (x5_1 < (l1.length : Int)) = true := decide_eq_true c6
       clear c6
       by_cases c7 : (!((((rd_T74 l0 x5_1).f0).toList) == (((rd_T74 l1 x5_1).f0).toList)) || (!(((rd_T74 l0 x5_1).f1) == ((rd_T74 l1 x5_1).f1)) || (!(((rd_T74 l0 x5_1).f2) == ((rd_T74 l1 x5_1).f2)) || (!((((rd_T74 l0 x5_1).f3).toList) == (((rd_T74 l1 x5_1).f3).toList)))))) = true
       ·rw [if_pos c7] at H
        have c7b0 : (!((((rd_T74 l0 x5_1).f0).toList) == (((rd_T74 l1 x5_1).f0).toList)) || (!(((rd_T74 l0 x5_1).f1) == ((rd_T74 l1 x5_1).f1)) || (!(((rd_T74 l0 x5_1).f2) == ((rd_T74 l1 x5_1).f2)) || (!((((rd_T74 l0 x5_1).f3).toList) == (((rd_T74 l1 x5_1).f3).toList)))))) = true := c7
        clear c7
        obtain rfl := Option.some.inj H
        have p363 : 0 ≤ (x5_1 : Int) := of_decide_eq_true (by first | (with_reducible assumption) | assumption)
        have q363 : x5_1 < (l0.length : Int) := of_decide_eq_true (by first | (with_reducible assumption) | assumption)
        obtain ⟨ad363, e363, hx363_0, hx363_1, hx363_2, hx363_3⟩ := at_T74 HR0.out x5_1 p363 q363
        cases e363
        replace p363 := eq_true p363
        replace q363 := eq_true q363
        have p364 : 0 ≤ (x5_1 : Int) := of_decide_eq_true (by first | (with_reducible assumption) | assumption)
        have q364 : x5_1 < (l1.length : Int) := of_decide_eq_true (by first | (with_reducible assumption) | assumption)
        obtain ⟨ad364, e364, hx364_0, hx364_1, hx364_2, hx364_3⟩ := at_T74 HR1.out x5_1 p364 q364
        cases e364
        replace p364 := eq_true p364
        replace q364 := eq_true q364
        go_wp2
        repeat (go_quiet (fail); try go_wp2)
        go_ret
        exact ⟨by first | rfl | (simp; done) | (simp [*]; done), by repeat (first | exact Drawn0.refl _ | apply Drawn0.step)⟩
       ·rw [if_neg c7] at H
        have c7b0 : (!((((rd_T74 l0 x5_1).f0).toList) == (((rd_T74 l1 x5_1).f0).toList)) || (!(((rd_T74 l0 x5_1).f1) == ((rd_T74 l1 x5_1).f1)) || (!(((rd_T74 l0 x5_1).f2) == ((rd_T74 l1 x5_1).f2)) || (!((((rd_T74 l0 x5_1).f3).toList) == (((rd_T74 l1 x5_1).f3).toList)))))) = false := by simpa using c7
        clear c7
        have H' := Aside0.mk H
        clear H
        have p363 : 0 ≤ (x5_1 : Int) := of_decide_eq_true (by first | (with_reducible assumption) | assumption)
        have q363 : x5_1 < (l0.length : Int) := of_decide_eq_true (by first | (with_reducible assumption) | assumption)
        obtain ⟨ad363, e363, hx363_0, hx363_1, hx363_2, hx363_3⟩ := at_T74 HR0.out x5_1 p363 q363
        cases e363
        replace p363 := eq_true p363
        replace q363 := eq_true q363
        have p364 : 0 ≤ (x5_1 : Int) := of_decide_eq_true (by first | (with_reducible assumption) | assumption)
        have q364 : x5_1 < (l1.length : Int) := of_decide_eq_true (by first | (with_reducible assumption) | assumption)
        obtain ⟨ad364, e364, hx364_0, hx364_1, hx364_2, hx364_3⟩ := at_T74 HR1.out x5_1 p364 q364
        cases e364
        replace p364 := eq_true p364
        replace q364 := eq_true q364
        go_wp2
        repeat (go_quiet (fail); try go_wp2)
        go_roundg k1
        case measure => have := HK1.out; omega
        case rel => exact ⟨(wrap64 (x5_1 + 1)), (by first | rfl | (simp; done) | (simp [*]; done)), H', ⟨by have := HK1.out; omega⟩, by repeat (first | exact Drawn0.refl _ | apply Drawn0.step)⟩
      ·rw [if_neg c6] at H
       exact absurd H (by simp)
     ·rw [if_neg c5] at H
      exact absurd H (by simp)
    ·rw [if_neg c4] at H
     have c4b0 : decide (x5_1 < (l0.length : Int)) = false := decide_eq_false c4
     clear c4
     obtain rfl := Option.some.inj H
     go_wp2
     repeat (go_quiet (fail); try go_wp2)
     go_ret
     exact ⟨by first | rfl | (simp; done) | (simp [*]; done), by repeat (first | exact Drawn0.refl _ | apply Drawn0.step)⟩
 ·rw [if_neg c3] at H
  have c3b0 : ((l0.length : Int) == (l1.length : Int)) = false := beq_eq_false_iff_ne.mpr c3
  have c3b1 : ((l0.length : Int) != (l1.length : Int)) = true := bne_iff_ne.mpr c3
  have c3b2 : (l0.length == l1.length) = false := by first | simpa using c3 | (simp at c3 ⊢; omega)
  obtain rfl := Option.some.inj H
  go_enter Try.func20, Try.ntmps20
  go_wp2
  repeat (go_quiet (fail); try go_wp2)
  go_ret
  exact ⟨by first | rfl | (simp; done) | (simp [*]; done), by repeat (first | exact Drawn0.refl _ | apply Drawn0.step)⟩

end Go.Proofs.Ytnjbmcjhhadojaa.P
