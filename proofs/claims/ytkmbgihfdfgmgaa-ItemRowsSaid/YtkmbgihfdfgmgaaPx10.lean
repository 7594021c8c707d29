-- Printed by a changed copy of the kit's printer (wip/tools/ext.py); labels and more
import Derived.Test.YtkmbgihfdfgmgaaM0
import Derived.Test.YtkmbgihfdfgmgaaM3
import Derived.Test.YtkmbgihfdfgmgaaM6
import Derived.Test.YtkmbgihfdfgmgaaM7
import Derived.Test.YtkmbgihfdfgmgaaM8
namespace Go.Proofs.Ytkmbgihfdfgmgaa.P
open Go.RowKit Go.Proofs.YtkmbgihfdfgmgaaW.PrintWords Go.Proofs.YtkmbgihfdfgmgaaW.PrintLast Go.Proofs.YtkmbgihfdfgmgaaW.PrintMore
attribute [local go_sem] max2_int min2_int max_two min_two max_three min_three max_four min_four   -- for this text's walks alone
attribute [local go_sem high] string_leq string_geq string_gtr
set_option linter.unusedVariables false
set_option linter.unusedSimpArgs false

/-! ### ravelinlaw18_few: function 8 -/
def ravelinlaw18_few.l0 : Nat → Int → Int → Int → Int → Bool → List (S39) → Option (Bool)
  | 0, _, _, _, _, _, _ => none
  | k + 1, x3, x268000, x268001, x268002, x268003, x268004 => if x3 < (x268004.length : Int) then (if 0 ≤ x3 then (if (((rd_T39 x268004 x3).f0).size : Int) > 20 then (some false) else (if (((rd_T39 x268004 x3).f2).size : Int) > 40 then (some false) else (ravelinlaw18_few.l0 k (wrap64 (x3 + 1)) x268000 x268001 x268002 x268003 x268004))) else (none)) else (some (decide ((x268004.length : Int) ≤ 12)))
def ravelinlaw18_few.f (k : Nat) (a0_0 : Int) (a0_1 : Int) (a0_2 : Int) (a0_3 : Bool) (l0_4 : List (S39)) : Option (Bool) := ravelinlaw18_few.l0 k 0 a0_0 a0_1 a0_2 a0_3 l0_4
theorem ravelinlaw18_few.mono_l : ∀ k, (∀ y0 y1 y2 y3 y4 y5, LeO (ravelinlaw18_few.l0 k y0 y1 y2 y3 y4 y5) (ravelinlaw18_few.l0 (k + 1) y0 y1 y2 y3 y4 y5))
  | 0 => fun _ _ _ _ _ _ r h => by simp [ravelinlaw18_few.l0] at h
  | k + 1 => by
    have ih0 := ravelinlaw18_few.mono_l k
    · intro y0 y1 y2 y3 y4 y5
      unfold ravelinlaw18_few.l0
      repeat' first
      | (with_reducible exact ih0 _ _ _ _ _ _)
      | (with_reducible exact LeO.refl _)
      | (with_reducible exact LeO.none _)
      | (with_reducible refine LeO.ite ?_ ?_)
      | (with_reducible refine LeO.bind ?_ (fun _ => ?_))
      | exact ih0 _ _ _ _ _ _
      | exact LeO.none _
      | refine LeO.ite ?_ ?_
      | refine LeO.bind ?_ (fun _ => ?_)
theorem ravelinlaw18_few.mono : ∀ a0 a1 a2 a3 a4 k, LeO (ravelinlaw18_few.f k a0 a1 a2 a3 a4) (ravelinlaw18_few.f (k + 1) a0 a1 a2 a3 a4) := by
  intro a0 a1 a2 a3 a4 k
  have ih0 := ravelinlaw18_few.mono_l k
  unfold ravelinlaw18_few.f
  repeat' first
      | (with_reducible exact ih0 _ _ _ _ _ _)
      | (with_reducible exact LeO.refl _)
      | (with_reducible exact LeO.none _)
      | (with_reducible refine LeO.ite ?_ ?_)
      | (with_reducible refine LeO.bind ?_ (fun _ => ?_))
      | exact ih0 _ _ _ _ _ _
      | exact LeO.none _
      | refine LeO.ite ?_ ?_
      | refine LeO.bind ?_ (fun _ => ?_)
set_option maxHeartbeats 8000000 in
set_option maxRecDepth 100000 in
theorem ravelinlaw18_few.calls (k : Nat) (a0_0 : Int) (a0_1 : Int) (a0_2 : Int) (a0_3 : Bool) (A0_4 : Option Addr) (c0_4 : Nat) (l0_4 : List (S39)) (r : Bool) (w : World) (hr0_4 : Kd.C k39 w A0_4 l0_4.length l0_4) (hc0_4 : l0_4.length ≤ c0_4) (h : ravelinlaw18_few.f k a0_0 a0_1 a0_2 a0_3 l0_4 = some r) :
    Calls Try.prog 8 #[.agg #[.int .i64 a0_0, .int .i64 a0_1, .int .i64 a0_2, .bool a0_3, .slice A0_4 l0_4.length c0_4]] w fun e w' => e = .returned (.bool r) ∧ Below w.heap.size w w' := by
  have hu24 := Try.underlying24
  have HR0_4 := Aside0.mk hr0_4
  have HC0_4 := Aside0.mk hc0_4
  clear hr0_4 hc0_4
  have HB := Aside0.mk (Below.refl w.heap.size w)
  have H : (ravelinlaw18_few.l0 k 0 a0_0 a0_1 a0_2 a0_3 l0_4) = some r := h
  clear h
  have H' := Aside0.mk H
  clear H
  go_enter Try.func8, Try.ntmps8
  go_wp2_with (first | ((with_reducible refine gate_dst (N := 1) rfl ?_); (try (refine gate_guard (by rfl) ?_; dsimp only)); refine box_event ?hg (N := 1) ?hd (cs := #[.int .i64 a0_0, .int .i64 a0_1, .int .i64 a0_2, .bool a0_3, .slice A0_4 l0_4.length c0_4]) (t := 24) ?hr ?_; (case hd => rfl); (case hg => rfl); (case hr => first | (go_simp; done) | (go_simp; rfl)); intro gb267 hg w2 hbox hb; have n0_ := Aside0.mk (below_step (by repeat (first | (with_reducible first | exact HB.out | apply below_alloc | apply pw_below_drewN | apply below_drew1) | exact HB.out)) hb); have n1_ := Aside0.mk (hbox); have n2_ := Aside0.mk ((by rw [hg]; exact (below_size (by repeat (first | (with_reducible first | exact HB.out | apply below_alloc | apply pw_below_drewN | apply below_drew1) | exact HB.out))) : w.heap.size ≤ gb267)); have n3_ := Aside0.mk ((by rw [hg]; exact (below_size (by repeat (first | (with_reducible first | exact HB.out | apply below_alloc | apply pw_below_drewN | apply below_drew1) | exact HB.out))) : w.heap.size ≤ gb267)); clear HB; have HB := n0_; have BK267 := n1_; have GW267 := n2_; have GE267 := n3_; clear n0_ n1_ n2_ n3_; clear hb hbox hg))
  go_loopg [3] k (fun kq v3 w' => ∃ (x3_1 : Int), v3 = .int .i64 x3_1 ∧ Aside0 (ravelinlaw18_few.l0 kq x3_1 a0_0 a0_1 a0_2 a0_3 l0_4 = some r) ∧ Aside0 (kq ≤ k) ∧ Aside0 (w'.heap[gb267]? = some (.cells #[.int .i64 a0_0, .int .i64 a0_1, .int .i64 a0_2, .bool a0_3, (.slice A0_4 l0_4.length c0_4)] 24 (0, 0))) ∧ Aside0 (Below w.heap.size w w'))
  case atStart => exact ⟨(0), (by first | rfl | (simp; done) | (simp [*]; done)), H', ⟨Nat.le_refl _⟩, ⟨by (with_reducible repeat (first | refine blk_drewN ?_ _ | refine blk_drew ?_ | refine blk_alloc ?_ _)); exact BK267.out⟩, ⟨by repeat (first | (with_reducible first | exact HB.out | apply below_alloc | apply pw_below_drewN | apply below_drew1 | refine below_set ?_ GE267.out) | exact HB.out)⟩⟩
  case round =>
    clear H'
    try clear p2
    obtain ⟨x3_1, rfl, HA, HK1, BK267, HB⟩ := hrel
    cases gk with
    | zero => exact absurd HA.out (by simp [ravelinlaw18_few.l0])
    | succ k1 =>
      have H := HA.out
      clear HA
      simp only [ravelinlaw18_few.l0] at H
      by_cases c3 : x3_1 < (l0_4.length : Int)
      · rw [if_pos c3] at H
        have c3b0 : decide (x3_1 < (l0_4.length : Int)) = true := decide_eq_true c3
        clear c3
        by_cases c4 : 0 ≤ x3_1
        · rw [if_pos c4] at H
          have c4b0 : decide (0 ≤ x3_1) = true := decide_eq_true c4
          clear c4
          by_cases c5 : (((rd_T39 l0_4 x3_1).f0).size : Int) > 20
          · rw [if_pos c5] at H
            have c5b0 : decide (20 < (((rd_T39 l0_4 x3_1).f0).size : Int)) = true := decide_eq_true c5
            have c5b1 : decide (20 < ((rd_T39 l0_4 x3_1).f0).size) = true := decide_eq_true (by omega)
            clear c5
            obtain rfl := Option.some.inj H
            have hcz6_0 : wr.cell? ⟨gb267, 0, none⟩ = some (.int .i64 a0_0) := (blk_cell BK267.out 0).trans rfl
            have hcz6_1 : wr.cell? ⟨gb267, 1, none⟩ = some (.int .i64 a0_1) := (blk_cell BK267.out 1).trans rfl
            have hcz6_2 : wr.cell? ⟨gb267, 2, none⟩ = some (.int .i64 a0_2) := (blk_cell BK267.out 2).trans rfl
            have hcz6_3 : wr.cell? ⟨gb267, 3, none⟩ = some (.bool a0_3) := (blk_cell BK267.out 3).trans rfl
            have hcz6_4 : wr.cell? ⟨gb267, 4, none⟩ = some (.slice A0_4 l0_4.length c0_4) := (blk_cell BK267.out 4).trans rfl
            have hfz6_0 := blk_frozen BK267.out 0
            have hfz6_1 := blk_frozen BK267.out 1
            have hfz6_2 := blk_frozen BK267.out 2
            have hfz6_3 := blk_frozen BK267.out 3
            have hfz6_4 := blk_frozen BK267.out 4
            have p268 : 0 ≤ (x3_1 : Int) := of_decide_eq_true (by first | (with_reducible assumption) | assumption)
            have q268 : x3_1 < (l0_4.length : Int) := of_decide_eq_true (by first | (with_reducible assumption) | assumption)
            obtain ⟨ad268, e268, hx268_0, hx268_1, hx268_2⟩ := at_T39 HR0_4.out x3_1 p268 q268
            cases e268
            replace hx268_0 := (HB.out.cell (World.block_lt_of_cell? w _ hx268_0)).trans hx268_0
            replace hx268_1 := (HB.out.cell (World.block_lt_of_cell? w _ hx268_1)).trans hx268_1
            replace hx268_2 := (HB.out.cell (World.block_lt_of_cell? w _ hx268_2)).trans hx268_2
            replace p268 := eq_true p268
            replace q268 := eq_true q268
            go_wp2
            go_ret
            exact ⟨by first | rfl | (simp [errW_none, errW_some] <;> rfl) | (simp [*, errW_none, errW_some] <;> rfl), by repeat (first | (with_reducible first | exact HB.out | apply below_alloc | apply pw_below_drewN | apply below_drew1 | refine below_set ?_ GE267.out) | exact HB.out)⟩
          · rw [if_neg c5] at H
            have c5b0 : decide (20 < (((rd_T39 l0_4 x3_1).f0).size : Int)) = false := decide_eq_false c5
            have c5b1 : decide (20 < ((rd_T39 l0_4 x3_1).f0).size) = false := decide_eq_false (by omega)
            clear c5
            by_cases c7 : (((rd_T39 l0_4 x3_1).f2).size : Int) > 40
            · rw [if_pos c7] at H
              have c7b0 : decide (40 < (((rd_T39 l0_4 x3_1).f2).size : Int)) = true := decide_eq_true c7
              have c7b1 : decide (40 < ((rd_T39 l0_4 x3_1).f2).size) = true := decide_eq_true (by omega)
              clear c7
              obtain rfl := Option.some.inj H
              have hcz8_0 : wr.cell? ⟨gb267, 0, none⟩ = some (.int .i64 a0_0) := (blk_cell BK267.out 0).trans rfl
              have hcz8_1 : wr.cell? ⟨gb267, 1, none⟩ = some (.int .i64 a0_1) := (blk_cell BK267.out 1).trans rfl
              have hcz8_2 : wr.cell? ⟨gb267, 2, none⟩ = some (.int .i64 a0_2) := (blk_cell BK267.out 2).trans rfl
              have hcz8_3 : wr.cell? ⟨gb267, 3, none⟩ = some (.bool a0_3) := (blk_cell BK267.out 3).trans rfl
              have hcz8_4 : wr.cell? ⟨gb267, 4, none⟩ = some (.slice A0_4 l0_4.length c0_4) := (blk_cell BK267.out 4).trans rfl
              have hfz8_0 := blk_frozen BK267.out 0
              have hfz8_1 := blk_frozen BK267.out 1
              have hfz8_2 := blk_frozen BK267.out 2
              have hfz8_3 := blk_frozen BK267.out 3
              have hfz8_4 := blk_frozen BK267.out 4
              have p268 : 0 ≤ (x3_1 : Int) := of_decide_eq_true (by first | (with_reducible assumption) | assumption)
              have q268 : x3_1 < (l0_4.length : Int) := of_decide_eq_true (by first | (with_reducible assumption) | assumption)
              obtain ⟨ad268, e268, hx268_0, hx268_1, hx268_2⟩ := at_T39 HR0_4.out x3_1 p268 q268
              cases e268
              replace hx268_0 := (HB.out.cell (World.block_lt_of_cell? w _ hx268_0)).trans hx268_0
              replace hx268_1 := (HB.out.cell (World.block_lt_of_cell? w _ hx268_1)).trans hx268_1
              replace hx268_2 := (HB.out.cell (World.block_lt_of_cell? w _ hx268_2)).trans hx268_2
              replace p268 := eq_true p268
              replace q268 := eq_true q268
              have p269 : 0 ≤ (x3_1 : Int) := of_decide_eq_true (by first | (with_reducible assumption) | assumption)
              have q269 : x3_1 < (l0_4.length : Int) := of_decide_eq_true (by first | (with_reducible assumption) | assumption)
              obtain ⟨ad269, e269, hx269_0, hx269_1, hx269_2⟩ := at_T39 HR0_4.out x3_1 p269 q269
              obtain rfl : ad268 = ad269 := (by injection e269)
              replace hx269_0 := (HB.out.cell (World.block_lt_of_cell? w _ hx269_0)).trans hx269_0
              replace hx269_1 := (HB.out.cell (World.block_lt_of_cell? w _ hx269_1)).trans hx269_1
              replace hx269_2 := (HB.out.cell (World.block_lt_of_cell? w _ hx269_2)).trans hx269_2
              replace p269 := eq_true p269
              replace q269 := eq_true q269
              go_wp2
              go_ret
              exact ⟨by first | rfl | (simp [errW_none, errW_some] <;> rfl) | (simp [*, errW_none, errW_some] <;> rfl), by repeat (first | (with_reducible first | exact HB.out | apply below_alloc | apply pw_below_drewN | apply below_drew1 | refine below_set ?_ GE267.out) | exact HB.out)⟩
            · rw [if_neg c7] at H
              have c7b0 : decide (40 < (((rd_T39 l0_4 x3_1).f2).size : Int)) = false := decide_eq_false c7
              have c7b1 : decide (40 < ((rd_T39 l0_4 x3_1).f2).size) = false := decide_eq_false (by omega)
              clear c7
              have H' := Aside0.mk H
              clear H
              have hcz9_0 : wr.cell? ⟨gb267, 0, none⟩ = some (.int .i64 a0_0) := (blk_cell BK267.out 0).trans rfl
              have hcz9_1 : wr.cell? ⟨gb267, 1, none⟩ = some (.int .i64 a0_1) := (blk_cell BK267.out 1).trans rfl
              have hcz9_2 : wr.cell? ⟨gb267, 2, none⟩ = some (.int .i64 a0_2) := (blk_cell BK267.out 2).trans rfl
              have hcz9_3 : wr.cell? ⟨gb267, 3, none⟩ = some (.bool a0_3) := (blk_cell BK267.out 3).trans rfl
              have hcz9_4 : wr.cell? ⟨gb267, 4, none⟩ = some (.slice A0_4 l0_4.length c0_4) := (blk_cell BK267.out 4).trans rfl
              have hfz9_0 := blk_frozen BK267.out 0
              have hfz9_1 := blk_frozen BK267.out 1
              have hfz9_2 := blk_frozen BK267.out 2
              have hfz9_3 := blk_frozen BK267.out 3
              have hfz9_4 := blk_frozen BK267.out 4
              have p268 : 0 ≤ (x3_1 : Int) := of_decide_eq_true (by first | (with_reducible assumption) | assumption)
              have q268 : x3_1 < (l0_4.length : Int) := of_decide_eq_true (by first | (with_reducible assumption) | assumption)
              obtain ⟨ad268, e268, hx268_0, hx268_1, hx268_2⟩ := at_T39 HR0_4.out x3_1 p268 q268
              cases e268
              replace hx268_0 := (HB.out.cell (World.block_lt_of_cell? w _ hx268_0)).trans hx268_0
              replace hx268_1 := (HB.out.cell (World.block_lt_of_cell? w _ hx268_1)).trans hx268_1
              replace hx268_2 := (HB.out.cell (World.block_lt_of_cell? w _ hx268_2)).trans hx268_2
              replace p268 := eq_true p268
              replace q268 := eq_true q268
              have p269 : 0 ≤ (x3_1 : Int) := of_decide_eq_true (by first | (with_reducible assumption) | assumption)
              have q269 : x3_1 < (l0_4.length : Int) := of_decide_eq_true (by first | (with_reducible assumption) | assumption)
              obtain ⟨ad269, e269, hx269_0, hx269_1, hx269_2⟩ := at_T39 HR0_4.out x3_1 p269 q269
              obtain rfl : ad268 = ad269 := (by injection e269)
              replace hx269_0 := (HB.out.cell (World.block_lt_of_cell? w _ hx269_0)).trans hx269_0
              replace hx269_1 := (HB.out.cell (World.block_lt_of_cell? w _ hx269_1)).trans hx269_1
              replace hx269_2 := (HB.out.cell (World.block_lt_of_cell? w _ hx269_2)).trans hx269_2
              replace p269 := eq_true p269
              replace q269 := eq_true q269
              go_wp2
              go_roundg k1
              case measure => have := HK1.out; omega
              case rel => exact ⟨(wrap64 (x3_1 + 1)), (by first | rfl | (simp; done) | (simp [*]; done)), H', ⟨by have := HK1.out; omega⟩, ⟨by (with_reducible repeat (first | refine blk_drewN ?_ _ | refine blk_drew ?_ | refine blk_alloc ?_ _)); exact BK267.out⟩, ⟨by repeat (first | (with_reducible first | exact HB.out | apply below_alloc | apply pw_below_drewN | apply below_drew1 | refine below_set ?_ GE267.out) | exact HB.out)⟩⟩
        · rw [if_neg c4] at H
          exact absurd H (by simp)
      · rw [if_neg c3] at H
        have c3b0 : decide (x3_1 < (l0_4.length : Int)) = false := decide_eq_false c3
        clear c3
        obtain rfl := Option.some.inj H
        have hcz10_0 : wr.cell? ⟨gb267, 0, none⟩ = some (.int .i64 a0_0) := (blk_cell BK267.out 0).trans rfl
        have hcz10_1 : wr.cell? ⟨gb267, 1, none⟩ = some (.int .i64 a0_1) := (blk_cell BK267.out 1).trans rfl
        have hcz10_2 : wr.cell? ⟨gb267, 2, none⟩ = some (.int .i64 a0_2) := (blk_cell BK267.out 2).trans rfl
        have hcz10_3 : wr.cell? ⟨gb267, 3, none⟩ = some (.bool a0_3) := (blk_cell BK267.out 3).trans rfl
        have hcz10_4 : wr.cell? ⟨gb267, 4, none⟩ = some (.slice A0_4 l0_4.length c0_4) := (blk_cell BK267.out 4).trans rfl
        have hfz10_0 := blk_frozen BK267.out 0
        have hfz10_1 := blk_frozen BK267.out 1
        have hfz10_2 := blk_frozen BK267.out 2
        have hfz10_3 := blk_frozen BK267.out 3
        have hfz10_4 := blk_frozen BK267.out 4
        go_wp2
        go_ret
        exact ⟨by first | rfl | (simp [errW_none, errW_some] <;> rfl) | (simp [*, errW_none, errW_some] <;> rfl), by repeat (first | (with_reducible first | exact HB.out | apply below_alloc | apply pw_below_drewN | apply below_drew1 | refine below_set ?_ GE267.out) | exact HB.out)⟩

/-! ### ravelinlaw18_ItemRows: function 6 -/
/-- The kind of a row whose elements lead to what came in: told at the first world. -/
def kG24 (w0 : World) : Kd S24 where
  sz := k24.sz
  E := []
  K := fun _ x cs => k24.K w0 x cs
  M := fun _ _ _ x cs => k24.K w0 x cs
  K_len := k24.K_len
  K_one := k24.K_one
  K_below := fun _ h => h
  K_of_M := fun h => h
  M_mono := fun _ h => h
  M_bound := fun h => h
  M_move := fun _ h => h
  M_lower := fun _ h => h
theorem at_G24 {w0 : World} {w : World} {A : Option Addr} {n : Nat} {xs : List S24} (h : Kd.C (kG24 w0) w A n xs) (i : Int) (h0 : 0 ≤ i) (h1 : i < n) : ∃ ad A4 c4, A = some ad ∧ w.cell? (ad.add (i.toNat * 5)) = some (.int .i64 (rd_T24 xs i).f0) ∧ w.cell? ⟨(ad.add (i.toNat * 5)).block, (ad.add (i.toNat * 5)).off + 1, none⟩ = some (.int .i64 (rd_T24 xs i).f1) ∧ w.cell? ⟨(ad.add (i.toNat * 5)).block, (ad.add (i.toNat * 5)).off + 2, none⟩ = some (.int .i64 (rd_T24 xs i).f2) ∧ w.cell? ⟨(ad.add (i.toNat * 5)).block, (ad.add (i.toNat * 5)).off + 3, none⟩ = some (.bool (rd_T24 xs i).f3) ∧ w.cell? ⟨(ad.add (i.toNat * 5)).block, (ad.add (i.toNat * 5)).off + 4, none⟩ = some (.slice A4 (rd_T24 xs i).f4.length c4) ∧ (rd_T24 xs i).f4.length ≤ c4 ∧ k39.C w0 A4 (rd_T24 xs i).f4.length (rd_T24 xs i).f4 := by
  obtain ⟨ad, c, e, _, hK, hc0⟩ := Kd.C_get h z24 i h0 h1
  have hc : ∀ j u, c[j]? = some u → w.cell? (ad.add (i.toNat * 5 + j)) = some u := hc0
  obtain ⟨A4, c4, rfl, l4, g4⟩ := k24_open hK
  exact ⟨ad, A4, c4, e, hc 0 _ rfl, by rw [← add_field _ _ 1 (by omega)]; exact hc 1 _ rfl, by rw [← add_field _ _ 2 (by omega)]; exact hc 2 _ rfl, by rw [← add_field _ _ 3 (by omega)]; exact hc 3 _ rfl, by rw [← add_field _ _ 4 (by omega)]; exact hc 4 _ rfl, l4, g4⟩
mutual
def ravelinlaw18_ItemRows.l0 : Nat → List (S24) → ByteArray → List (S24) → Int → Option (Bool)
  | 0, _, _, _, _ => none
  | k + 1, x0, x3, x4, x5 => if x5 < (x0.length : Int) then (if 0 ≤ x5 then ((ravelinlaw18_few.f k ((rd_T24 x0 x5).f0) ((rd_T24 x0 x5).f1) ((rd_T24 x0 x5).f2) ((rd_T24 x0 x5).f3) ((rd_T24 x0 x5).f4)).bind fun t272 => (if t272 = true then ((item_Bytes.f k ((rd_T24 x0 x5).f0) ((rd_T24 x0 x5).f1) ((rd_T24 x0 x5).f2) ((rd_T24 x0 x5).f3) ((rd_T24 x0 x5).f4)).bind fun bt274 => (if bt274.2 = 0 then (if x3.size + bt274.1.size ≤ 9223372036854775807 then (if x4.length < 2513169434916 then (ravelinlaw18_ItemRows.l0 k x0 (x3 ++ bt274.1) (x4 ++ [(⟨(rd_T24 x0 x5).f0, (rd_T24 x0 x5).f1, (rd_T24 x0 x5).f2, (rd_T24 x0 x5).f3, (rd_T24 x0 x5).f4⟩ : S24)]) (wrap64 (x5 + 1))) else (none)) else (none)) else (ravelinlaw18_ItemRows.l0 k x0 x3 x4 (wrap64 (x5 + 1))))) else (some true))) else (none)) else (ravelinlaw18_ItemRows.l1 k x3 x4 0 0)
def ravelinlaw18_ItemRows.l1 : Nat → ByteArray → List (S24) → Int → Int → Option (Bool)
  | 0, _, _, _, _ => none
  | k + 1, x3, x4, x8, x9 => if x9 < (x4.length : Int) then (if 0 ≤ x8 then (if x8 ≤ (x3.size : Int) then ((item_Read.f k (x3.extract (x8 : Int).toNat x3.size)).bind fun bt290 => (if bt290.2.2.2.2.2.2 = 0 then (if bt290.2.2.2.2.2.1 < 1 then (some false) else (if 0 ≤ x9 then ((item_Same.f k bt290.1 bt290.2.1 bt290.2.2.1 bt290.2.2.2.1 bt290.2.2.2.2.1 ((rd_T24 x4 x9).f0) ((rd_T24 x4 x9).f1) ((rd_T24 x4 x9).f2) ((rd_T24 x4 x9).f3) ((rd_T24 x4 x9).f4)).bind fun t301 => (if t301 = true then (ravelinlaw18_ItemRows.l1 k x3 x4 (wrap64 (x8 + bt290.2.2.2.2.2.1)) (wrap64 (x9 + 1))) else (some false))) else (none))) else (some false))) else (none)) else (none)) else (if 0 ≤ x8 then (if x8 ≤ (x3.size : Int) then ((item_Read.f k (x3.extract (x8 : Int).toNat x3.size)).bind fun bt280 => (if x8 = (x3.size : Int) then (some (bt280.2.2.2.2.2.2 == 12)) else (some false))) else (none)) else (none))
end
def ravelinlaw18_ItemRows.f (k : Nat) (l0 : List (S24)) : Option (Bool) := (ravelinlaw18_known.f k).bind fun t270 => (if t270 = true then (if (l0.length : Int) > 12 then (some true) else (ravelinlaw18_ItemRows.l0 k l0 (⟨#[]⟩ : ByteArray) ([] : List (S24)) 0)) else (some false))
theorem ravelinlaw18_ItemRows.mono_l : ∀ k, (∀ y0 y1 y2 y3, LeO (ravelinlaw18_ItemRows.l0 k y0 y1 y2 y3) (ravelinlaw18_ItemRows.l0 (k + 1) y0 y1 y2 y3)) ∧ (∀ y0 y1 y2 y3, LeO (ravelinlaw18_ItemRows.l1 k y0 y1 y2 y3) (ravelinlaw18_ItemRows.l1 (k + 1) y0 y1 y2 y3))
  | 0 => ⟨fun _ _ _ _ r h => by simp [ravelinlaw18_ItemRows.l0] at h, fun _ _ _ _ r h => by simp [ravelinlaw18_ItemRows.l1] at h⟩
  | k + 1 => by
    obtain ⟨ih0, ih1⟩ := ravelinlaw18_ItemRows.mono_l k
    refine ⟨?_, ?_⟩
    · intro y0 y1 y2 y3
      unfold ravelinlaw18_ItemRows.l0
      repeat' first
      | (with_reducible exact ih0 _ _ _ _)
      | (with_reducible exact ih1 _ _ _ _)
      | (with_reducible exact item_Bytes.mono _ _ _ _ _ _)
      | (with_reducible exact item_Read.mono _ _)
      | (with_reducible exact item_Same.mono _ _ _ _ _ _ _ _ _ _ _)
      | (with_reducible exact ravelinlaw18_few.mono _ _ _ _ _ _)
      | (with_reducible exact ravelinlaw18_known.mono _)
      | (with_reducible exact LeO.refl _)
      | (with_reducible exact LeO.none _)
      | (with_reducible refine LeO.ite ?_ ?_)
      | (with_reducible refine LeO.bind ?_ (fun _ => ?_))
      | exact ih0 _ _ _ _
      | exact ih1 _ _ _ _
      | exact item_Bytes.mono _ _ _ _ _ _
      | exact item_Read.mono _ _
      | exact item_Same.mono _ _ _ _ _ _ _ _ _ _ _
      | exact ravelinlaw18_few.mono _ _ _ _ _ _
      | exact ravelinlaw18_known.mono _
      | exact LeO.none _
      | refine LeO.ite ?_ ?_
      | refine LeO.bind ?_ (fun _ => ?_)
    · intro y0 y1 y2 y3
      unfold ravelinlaw18_ItemRows.l1
      repeat' first
      | (with_reducible exact ih0 _ _ _ _)
      | (with_reducible exact ih1 _ _ _ _)
      | (with_reducible exact item_Bytes.mono _ _ _ _ _ _)
      | (with_reducible exact item_Read.mono _ _)
      | (with_reducible exact item_Same.mono _ _ _ _ _ _ _ _ _ _ _)
      | (with_reducible exact ravelinlaw18_few.mono _ _ _ _ _ _)
      | (with_reducible exact ravelinlaw18_known.mono _)
      | (with_reducible exact LeO.refl _)
      | (with_reducible exact LeO.none _)
      | (with_reducible refine LeO.ite ?_ ?_)
      | (with_reducible refine LeO.bind ?_ (fun _ => ?_))
      | exact ih0 _ _ _ _
      | exact ih1 _ _ _ _
      | exact item_Bytes.mono _ _ _ _ _ _
      | exact item_Read.mono _ _
      | exact item_Same.mono _ _ _ _ _ _ _ _ _ _ _
      | exact ravelinlaw18_few.mono _ _ _ _ _ _
      | exact ravelinlaw18_known.mono _
      | exact LeO.none _
      | refine LeO.ite ?_ ?_
      | refine LeO.bind ?_ (fun _ => ?_)
theorem ravelinlaw18_ItemRows.mono : ∀ a0 k, LeO (ravelinlaw18_ItemRows.f k a0) (ravelinlaw18_ItemRows.f (k + 1) a0) := by
  intro a0 k
  obtain ⟨ih0, ih1⟩ := ravelinlaw18_ItemRows.mono_l k
  unfold ravelinlaw18_ItemRows.f
  repeat' first
      | (with_reducible exact ih0 _ _ _ _)
      | (with_reducible exact ih1 _ _ _ _)
      | (with_reducible exact item_Bytes.mono _ _ _ _ _ _)
      | (with_reducible exact item_Read.mono _ _)
      | (with_reducible exact item_Same.mono _ _ _ _ _ _ _ _ _ _ _)
      | (with_reducible exact ravelinlaw18_few.mono _ _ _ _ _ _)
      | (with_reducible exact ravelinlaw18_known.mono _)
      | (with_reducible exact LeO.refl _)
      | (with_reducible exact LeO.none _)
      | (with_reducible refine LeO.ite ?_ ?_)
      | (with_reducible refine LeO.bind ?_ (fun _ => ?_))
      | exact ih0 _ _ _ _
      | exact ih1 _ _ _ _
      | exact item_Bytes.mono _ _ _ _ _ _
      | exact item_Read.mono _ _
      | exact item_Same.mono _ _ _ _ _ _ _ _ _ _ _
      | exact ravelinlaw18_few.mono _ _ _ _ _ _
      | exact ravelinlaw18_known.mono _
      | exact LeO.none _
      | refine LeO.ite ?_ ?_
      | refine LeO.bind ?_ (fun _ => ?_)
def ravelinlaw18_ItemRows.T21 : Bool × List (List Nat × List Nat) := (true, [([], []), ([0], [0]), ([1], [1]), ([2], [2]), ([3, 2], [2, 3]), ([2, 4], [2, 4]), ([5, 2], [5]), ([6], [6]), ([6], [6]), ([6], [6]), ([8, 9, 6], [6, 8, 9]), ([10, 6], [6, 10]), ([7, 11, 6, 6], [6, 7, 11]), ([12, 6], [6, 12]), ([6, 13], [6, 13])])
def ravelinlaw18_ItemRows.B21 : List Nat := [0, 1, 3, 7, 15, 31, 63, 127, 127, 127, 895, 1919, 4095, 8191, 16383]
theorem ravelinlaw18_ItemRows.tab21 : rtab .any (opsOf Try.f6 21) = ravelinlaw18_ItemRows.T21 := by kernel_rfl
theorem ravelinlaw18_ItemRows.bits21 : waitsOk ravelinlaw18_ItemRows.T21.2 ravelinlaw18_ItemRows.B21 = true := by kernel_rfl
set_option maxHeartbeats 8000000 in
set_option maxRecDepth 100000 in
theorem ravelinlaw18_ItemRows.calls (k : Nat) (A0 : Option Addr) (c0 : Nat) (l0 : List (S24)) (r : Bool) (w : World) (hr0 : Kd.C k24 w A0 l0.length l0) (hc0 : l0.length ≤ c0) (h : ravelinlaw18_ItemRows.f k l0 = some r) (hr_ : r = true) :
    Calls Try.prog 6 #[.slice A0 l0.length c0] w fun e w' => e = .returned (.bool r) ∧ Below w.heap.size w w' := by
  have hu24 := Try.underlying24
  have HR0 := Aside0.mk hr0
  have HC0 := Aside0.mk hc0
  clear hr0 hc0
  have HB := Aside0.mk (Below.refl w.heap.size w)
  have H : ((ravelinlaw18_known.f k).bind fun t270 => (if t270 = true then (if (l0.length : Int) > 12 then (some true) else (ravelinlaw18_ItemRows.l0 k l0 (⟨#[]⟩ : ByteArray) ([] : List (S24)) 0)) else (some false))) = some r := h
  clear h
  have HR_ := Aside0.mk hr_
  clear hr_
  replace H := Option.bind_eq_some_iff.mp H
  obtain ⟨t270, A20, H⟩ := H
  replace H : (if t270 = true then (if (l0.length : Int) > 12 then (some true) else (ravelinlaw18_ItemRows.l0 k l0 (⟨#[]⟩ : ByteArray) ([] : List (S24)) 0)) else (some false)) = some r := H
  have A2 := Aside0.mk A20
  clear A20
  by_cases c3 : t270 = true
  · subst c3
    have H1 : (if (l0.length : Int) > 12 then (some true) else (ravelinlaw18_ItemRows.l0 k l0 (⟨#[]⟩ : ByteArray) ([] : List (S24)) 0)) = some r := by rw [if_pos rfl] at H; exact H
    clear H
    have H := H1
    clear H1
    by_cases c4 : (l0.length : Int) > 12
    · rw [if_pos c4] at H
      have c4b0 : decide (12 < (l0.length : Int)) = true := decide_eq_true c4
      have c4b1 : decide (12 < l0.length) = true := decide_eq_true (by omega)
      clear c4
      obtain rfl := Option.some.inj H
      go_enter Try.func6, Try.ntmps6
      go_wp2_with (first | ((with_reducible refine gate_callee (f := 7) rfl ?_); refine goesL_ (some 16) rfl rfl Try.func7 (by kernel_rfl) rfl #[] rfl (by (try simp only [List.map_toArray, List.map_cons, List.map_nil]); first | done | rfl | (simp only [List.length_drop, List.length_take]; rfl)) ?_; (with_reducible refine (ravelinlaw18_known.calls k  true _ A2.out (by first | rfl | assumption | exact of_decide_eq_true (by assumption))).mono ?_); rintro e w5 ⟨rfl, hb⟩; refine ⟨_, rfl, ?_⟩; have n0_ := Aside0.mk (below_step (by repeat (first | (with_reducible first | exact HB.out | apply below_alloc | apply pw_below_drewN | apply below_drew1) | exact HB.out)) hb); clear HB; have HB := n0_; clear n0_; (try clear hb); (try clear hb2); (try clear hk); (try clear hi)))
      go_ret
      exact ⟨by first | rfl | (simp [errW_none, errW_some] <;> rfl) | (simp [*, errW_none, errW_some] <;> rfl), by repeat (first | (with_reducible first | exact HB.out | apply below_alloc | apply pw_below_drewN | apply below_drew1) | exact HB.out)⟩
    · rw [if_neg c4] at H
      have c4b0 : decide (12 < (l0.length : Int)) = false := decide_eq_false c4
      have c4b1 : decide (12 < l0.length) = false := decide_eq_false (by omega)
      clear c4
      have H' := Aside0.mk H
      clear H
      go_enter Try.func6, Try.ntmps6
      go_wp2_with (first | ((with_reducible refine gate_callee (f := 7) rfl ?_); refine goesL_ (some 16) rfl rfl Try.func7 (by kernel_rfl) rfl #[] rfl (by (try simp only [List.map_toArray, List.map_cons, List.map_nil]); first | done | rfl | (simp only [List.length_drop, List.length_take]; rfl)) ?_; (with_reducible refine (ravelinlaw18_known.calls k  true _ A2.out (by first | rfl | assumption | exact of_decide_eq_true (by assumption))).mono ?_); rintro e w6 ⟨rfl, hb⟩; refine ⟨_, rfl, ?_⟩; have n0_ := Aside0.mk (below_step (by repeat (first | (with_reducible first | exact HB.out | apply below_alloc | apply pw_below_drewN | apply below_drew1) | exact HB.out)) hb); clear HB; have HB := n0_; clear n0_; (try clear hb); (try clear hb2); (try clear hk); (try clear hi)))
      go_loopg [3, 4, 5] k (fun kq v3 v4 v5 w' => ∃ (x3_1 : ByteArray) (x4_1 : List (S24)) (x5_1 : Int), v3 = .string x3_1 ∧ v5 = .int .i64 x5_1 ∧ Aside0 (ravelinlaw18_ItemRows.l0 kq l0 x3_1 x4_1 x5_1 = some r) ∧ Aside0 (kq ≤ k) ∧ Aside0 (Kd.R (kG24 w) 24 w' w.heap.size (fun _ => True) v4 x4_1) ∧ Aside0 (Below w.heap.size w w'))
      case atStart => exact ⟨((⟨#[]⟩ : ByteArray)), (([] : List (S24))), (0), (by first | rfl | (simp; done) | (simp [*]; done)), (by first | rfl | (simp; done) | (simp [*]; done)), H', ⟨Nat.le_refl _⟩, ⟨by first | exact Kd.R_nil _ _ _ _ _ | exact Kd.N_nil _ _ _ _ _ | exact Kd.V_nil _ _ _ _ _ | exact Kd.Q_nil _ _ _ _ _ | exact Kd.R_nil _ _ _ _ _⟩, ⟨by repeat (first | (with_reducible first | exact HB.out | apply below_alloc | apply pw_below_drewN | apply below_drew1) | exact HB.out)⟩⟩
      case round =>
        clear H'
        try clear p2
        try clear c3
        try clear c4
        try clear c4b0
        try clear c4b1
        try clear c6
        obtain ⟨x3_1, x4_1, x5_1, rfl, rfl, HA, HK1, HO_4, HB⟩ := hrel
        cases gk with
        | zero => exact absurd HA.out (by simp [ravelinlaw18_ItemRows.l0])
        | succ k1 =>
          have H := HA.out
          clear HA
          simp only [ravelinlaw18_ItemRows.l0] at H
          by_cases c7 : x5_1 < (l0.length : Int)
          · rw [if_pos c7] at H
            have c7b0 : decide (x5_1 < (l0.length : Int)) = true := decide_eq_true c7
            clear c7
            by_cases c8 : 0 ≤ x5_1
            · rw [if_pos c8] at H
              have c8b0 : decide (0 ≤ x5_1) = true := decide_eq_true c8
              clear c8
              replace H := Option.bind_eq_some_iff.mp H
              obtain ⟨t272, A90, H⟩ := H
              replace H : (if t272 = true then ((item_Bytes.f k1 ((rd_T24 l0 x5_1).f0) ((rd_T24 l0 x5_1).f1) ((rd_T24 l0 x5_1).f2) ((rd_T24 l0 x5_1).f3) ((rd_T24 l0 x5_1).f4)).bind fun bt274 => (if bt274.2 = 0 then (if x3_1.size + bt274.1.size ≤ 9223372036854775807 then (if x4_1.length < 2513169434916 then (ravelinlaw18_ItemRows.l0 k1 l0 (x3_1 ++ bt274.1) (x4_1 ++ [(⟨(rd_T24 l0 x5_1).f0, (rd_T24 l0 x5_1).f1, (rd_T24 l0 x5_1).f2, (rd_T24 l0 x5_1).f3, (rd_T24 l0 x5_1).f4⟩ : S24)]) (wrap64 (x5_1 + 1))) else (none)) else (none)) else (ravelinlaw18_ItemRows.l0 k1 l0 x3_1 x4_1 (wrap64 (x5_1 + 1))))) else (some true)) = some r := H
              have A9 := Aside0.mk A90
              clear A90
              by_cases c10 : t272 = true
              · subst c10
                have H1 : ((item_Bytes.f k1 ((rd_T24 l0 x5_1).f0) ((rd_T24 l0 x5_1).f1) ((rd_T24 l0 x5_1).f2) ((rd_T24 l0 x5_1).f3) ((rd_T24 l0 x5_1).f4)).bind fun bt274 => (if bt274.2 = 0 then (if x3_1.size + bt274.1.size ≤ 9223372036854775807 then (if x4_1.length < 2513169434916 then (ravelinlaw18_ItemRows.l0 k1 l0 (x3_1 ++ bt274.1) (x4_1 ++ [(⟨(rd_T24 l0 x5_1).f0, (rd_T24 l0 x5_1).f1, (rd_T24 l0 x5_1).f2, (rd_T24 l0 x5_1).f3, (rd_T24 l0 x5_1).f4⟩ : S24)]) (wrap64 (x5_1 + 1))) else (none)) else (none)) else (ravelinlaw18_ItemRows.l0 k1 l0 x3_1 x4_1 (wrap64 (x5_1 + 1))))) = some r := by rw [if_pos rfl] at H; exact H
                clear H
                have H := H1
                clear H1
                replace H := Option.bind_eq_some_iff.mp H
                obtain ⟨⟨t274, t275⟩, A110, H⟩ := H
                replace H : (if t275 = 0 then (if x3_1.size + t274.size ≤ 9223372036854775807 then (if x4_1.length < 2513169434916 then (ravelinlaw18_ItemRows.l0 k1 l0 (x3_1 ++ t274) (x4_1 ++ [(⟨(rd_T24 l0 x5_1).f0, (rd_T24 l0 x5_1).f1, (rd_T24 l0 x5_1).f2, (rd_T24 l0 x5_1).f3, (rd_T24 l0 x5_1).f4⟩ : S24)]) (wrap64 (x5_1 + 1))) else (none)) else (none)) else (ravelinlaw18_ItemRows.l0 k1 l0 x3_1 x4_1 (wrap64 (x5_1 + 1)))) = some r := H
                have A11 := Aside0.mk A110
                clear A110
                by_cases c12 : t275 = 0
                · rw [if_pos c12] at H
                  have c12b0 : (t275 == 0) = true := beq_iff_eq.mpr c12
                  have c12b1 : (t275 != 0) = false := bne_eq_false_iff_eq.mpr c12
                  clear c12
                  by_cases c13 : x3_1.size + t274.size ≤ 9223372036854775807
                  · rw [if_pos c13] at H
                    have c13b0 := eq_true c13
                    have c13b1 : decide (x3_1.size + t274.size ≤ 9223372036854775807) = true := decide_eq_true c13
                    try have c13b2 : (9223372036854775807 < x3_1.size + t274.size) = False := eq_false (Nat.not_lt.2 c13)
                    by_cases c14 : x4_1.length < 2513169434916
                    · rw [if_pos c14] at H
                      have LMc14 := Aside0.mk c14
                      clear c14
                      obtain ⟨y277, hy277⟩ : ∃ y_ : List (S24), y_ = (x4_1 ++ [(⟨(rd_T24 l0 x5_1).f0, (rd_T24 l0 x5_1).f1, (rd_T24 l0 x5_1).f2, (rd_T24 l0 x5_1).f3, (rd_T24 l0 x5_1).f4⟩ : S24)]) := ⟨_, rfl⟩
                      replace H : (ravelinlaw18_ItemRows.l0 k1 l0 (x3_1 ++ t274) y277 (wrap64 (x5_1 + 1))) = some r := by first | (rw [hy277]; with_reducible exact H) | (have H2_ := (Option.bind_some _ _).symm.trans H; rw [hy277]; with_reducible exact H2_) | (have H2_ := (Option.bind_some _ _).symm.trans H; with_reducible exact H2_) | with_reducible exact H | (rw [hy277]; exact H) | exact H
                      have Ny277 := Aside0.mk hy277
                      clear hy277
                      have H' := Aside0.mk H
                      clear H
                      have p271 : 0 ≤ (x5_1 : Int) := of_decide_eq_true (by first | (with_reducible assumption) | assumption)
                      have q271 : x5_1 < (l0.length : Int) := of_decide_eq_true (by first | (with_reducible assumption) | assumption)
                      obtain ⟨ad271, A271_4, c271_4, e271, hx271_0, hx271_1, hx271_2, hx271_3, hx271_4, hl271_4, hi271_4⟩ := at_T24 HR0.out x5_1 p271 q271
                      cases e271
                      replace hx271_0 := (HB.out.cell (World.block_lt_of_cell? w _ hx271_0)).trans hx271_0
                      replace hx271_1 := (HB.out.cell (World.block_lt_of_cell? w _ hx271_1)).trans hx271_1
                      replace hx271_2 := (HB.out.cell (World.block_lt_of_cell? w _ hx271_2)).trans hx271_2
                      replace hx271_3 := (HB.out.cell (World.block_lt_of_cell? w _ hx271_3)).trans hx271_3
                      replace hx271_4 := (HB.out.cell (World.block_lt_of_cell? w _ hx271_4)).trans hx271_4
                      have HR271_4 := Aside0.mk hi271_4
                      have HC271_4 := Aside0.mk hl271_4
                      clear hi271_4 hl271_4
                      replace p271 := eq_true p271
                      replace q271 := eq_true q271
                      go_wp2_with (first | ((with_reducible refine gate_callee (f := 8) rfl ?_); refine goesL_ (some 31) rfl rfl Try.func8 (by kernel_rfl) rfl #[.agg #[.int .i64 ((rd_T24 l0 x5_1).f0), .int .i64 ((rd_T24 l0 x5_1).f1), .int .i64 ((rd_T24 l0 x5_1).f2), .bool ((rd_T24 l0 x5_1).f3), .slice A271_4 ((rd_T24 l0 x5_1).f4).length c271_4]] rfl (by (try simp only [List.map_toArray, List.map_cons, List.map_nil]); first | done | rfl | (simp only [List.length_drop, List.length_take]; rfl)) ?_; (with_reducible refine (ravelinlaw18_few.calls k1 ((rd_T24 l0 x5_1).f0) ((rd_T24 l0 x5_1).f1) ((rd_T24 l0 x5_1).f2) ((rd_T24 l0 x5_1).f3) _ _ ((rd_T24 l0 x5_1).f4) true _ ?side1 ?side2 A9.out).mono ?_); (case side1 => repeat (first | exact (Kd.C_below HR271_4.out HB.out) | (with_reducible refine Kd.C_alloc ?_ _) | (with_reducible refine Kd.C_drewN ?_ _) | (with_reducible refine Kd.C_drew ?_))); (case side2 => exact HC271_4.out); rintro e w15 ⟨rfl, hb⟩; refine ⟨_, rfl, ?_⟩; have n0_ := Aside0.mk (Kd.R_below (by (with_reducible repeat (first | apply Kd.R_alloc | apply Kd.R_drewN | apply Kd.R_drew)); exact HO_4.out) hb); have n1_ := Aside0.mk (below_step (by repeat (first | (with_reducible first | exact HB.out | apply below_alloc | apply pw_below_drewN | apply below_drew1) | exact HB.out)) hb); clear HO_4; clear HB; have HO_4 := n0_; have HB := n1_; clear n0_ n1_; (try clear hb); (try clear hb2); (try clear hk); (try clear hi); have p273 : 0 ≤ (x5_1 : Int) := of_decide_eq_true (by first | (with_reducible assumption) | assumption); have q273 : x5_1 < (l0.length : Int) := of_decide_eq_true (by first | (with_reducible assumption) | assumption); obtain ⟨ad273, A273_4, c273_4, e273, hx273_0, hx273_1, hx273_2, hx273_3, hx273_4, hl273_4, hi273_4⟩ := at_T24 HR0.out x5_1 p273 q273; obtain rfl : ad271 = ad273 := (by injection e273); replace hx273_0 := (HB.out.cell (World.block_lt_of_cell? w _ hx273_0)).trans hx273_0; replace hx273_1 := (HB.out.cell (World.block_lt_of_cell? w _ hx273_1)).trans hx273_1; replace hx273_2 := (HB.out.cell (World.block_lt_of_cell? w _ hx273_2)).trans hx273_2; replace hx273_3 := (HB.out.cell (World.block_lt_of_cell? w _ hx273_3)).trans hx273_3; replace hx273_4 := (HB.out.cell (World.block_lt_of_cell? w _ hx273_4)).trans hx273_4; have HR273_4 := Aside0.mk hi273_4; have HC273_4 := Aside0.mk hl273_4; clear hi273_4 hl273_4; replace p273 := eq_true p273; replace q273 := eq_true q273) | ((with_reducible refine gate_callee (f := 9) rfl ?_); refine goesL_ (some 38) rfl rfl Try.func9 (by kernel_rfl) rfl #[.agg #[.int .i64 ((rd_T24 l0 x5_1).f0), .int .i64 ((rd_T24 l0 x5_1).f1), .int .i64 ((rd_T24 l0 x5_1).f2), .bool ((rd_T24 l0 x5_1).f3), .slice A273_4 ((rd_T24 l0 x5_1).f4).length c273_4]] rfl (by (try simp only [List.map_toArray, List.map_cons, List.map_nil]); first | done | rfl | (simp only [List.length_drop, List.length_take]; rfl)) ?_; (with_reducible refine (item_Bytes.calls k1 ((rd_T24 l0 x5_1).f0) ((rd_T24 l0 x5_1).f1) ((rd_T24 l0 x5_1).f2) ((rd_T24 l0 x5_1).f3) _ _ ((rd_T24 l0 x5_1).f4) t274 t275 _ ?side1 ?side2 A11.out).mono ?_); (case side1 => repeat (first | exact (Kd.C_below HR273_4.out HB.out) | (with_reducible refine Kd.C_alloc ?_ _) | (with_reducible refine Kd.C_drewN ?_ _) | (with_reducible refine Kd.C_drew ?_))); (case side2 => exact HC273_4.out); rintro e w16 ⟨rfl, hb⟩; refine ⟨_, rfl, ?_⟩; have n0_ := Aside0.mk (Kd.R_below (by (with_reducible repeat (first | apply Kd.R_alloc | apply Kd.R_drewN | apply Kd.R_drew)); exact HO_4.out) hb); have n1_ := Aside0.mk (below_step (by repeat (first | (with_reducible first | exact HB.out | apply below_alloc | apply pw_below_drewN | apply below_drew1) | exact HB.out)) hb); clear HO_4; clear HB; have HO_4 := n0_; have HB := n1_; clear n0_ n1_; (try clear hb); (try clear hb2); (try clear hk); (try clear hi); have p276 : 0 ≤ (x5_1 : Int) := of_decide_eq_true (by first | (with_reducible assumption) | assumption); have q276 : x5_1 < (l0.length : Int) := of_decide_eq_true (by first | (with_reducible assumption) | assumption); obtain ⟨ad276, A276_4, c276_4, e276, hx276_0, hx276_1, hx276_2, hx276_3, hx276_4, hl276_4, hi276_4⟩ := at_T24 HR0.out x5_1 p276 q276; obtain rfl : ad271 = ad276 := (by injection e276); replace hx276_0 := (HB.out.cell (World.block_lt_of_cell? w _ hx276_0)).trans hx276_0; replace hx276_1 := (HB.out.cell (World.block_lt_of_cell? w _ hx276_1)).trans hx276_1; replace hx276_2 := (HB.out.cell (World.block_lt_of_cell? w _ hx276_2)).trans hx276_2; replace hx276_3 := (HB.out.cell (World.block_lt_of_cell? w _ hx276_3)).trans hx276_3; replace hx276_4 := (HB.out.cell (World.block_lt_of_cell? w _ hx276_4)).trans hx276_4; have HR276_4 := Aside0.mk hi276_4; have HC276_4 := Aside0.mk hl276_4; clear hi276_4 hl276_4; replace p276 := eq_true p276; replace q276 := eq_true q276) | ((with_reducible refine gate_builtin (b := .append) (xs := #[.tmp 46, .tmp 51]) rfl ?_); at_builtin; refine Kd.R_append (kG24 w) (w0 := w) w.heap.size rfl (.tmp 46) (.tmp 51) 45 24 (.agg #[(.int .i64 0), (.int .i64 0), (.int .i64 0), (.bool false), (.slice none 0 0)]) 56 rfl Try.underlying45 info24 rfl (show 0 < 5 by decide) (by omega) u4 x4_1 (⟨(rd_T24 l0 x5_1).f0, (rd_T24 l0 x5_1).f1, (rd_T24 l0 x5_1).f2, (rd_T24 l0 x5_1).f3, (rd_T24 l0 x5_1).f4⟩ : S24) [.int .i64 ((rd_T24 l0 x5_1).f0), .int .i64 ((rd_T24 l0 x5_1).f1), .int .i64 ((rd_T24 l0 x5_1).f2), .bool ((rd_T24 l0 x5_1).f3), .slice A276_4 ((rd_T24 l0 x5_1).f4).length c276_4] (fun _ => True) (fun _ => False) rfl rfl ?aP (fun k_ hk_ => hk_.elim) ?aF ?aO ?aB ?aS ?aL ?_; (case aP => exact k24_mk w _ HC276_4.out HR276_4.out); (case aB => exact (by repeat (first | (with_reducible first | exact HB.out | apply below_alloc | apply pw_below_drewN | apply below_drew1) | exact HB.out))); (case aF => exact (fun _ _ => trivial)); (case aO => exact (by (with_reducible repeat (first | apply Kd.R_alloc | apply Kd.R_drewN | apply Kd.R_drew)); exact HO_4.out)); (case aS => exact (below_size (by repeat (first | (with_reducible first | exact HB.out | apply below_alloc | apply pw_below_drewN | apply below_drew1) | exact HB.out)))); (case aL => have := LMc14.out; omega); intro v278 w17 ho hb hg hat; rw [← Ny277.out] at ho; have n0_ := Aside0.mk (hb); have n1_ := Aside0.mk (ho); clear HB; clear HO_4; have HB := n0_; have HO279 := n1_; clear n0_ n1_; clear ho hb hg hat))
                      go_roundg k1
                      case measure => have := HK1.out; omega
                      case rel => exact ⟨(x3_1 ++ t274), (y277), (wrap64 (x5_1 + 1)), (by first | rfl | (simp; done) | (simp [*]; done)), (by first | rfl | (simp; done) | (simp [*]; done)), H', ⟨by have := HK1.out; omega⟩, ⟨by (with_reducible repeat (first | apply Kd.R_alloc | apply Kd.R_drewN | apply Kd.R_drew)); exact HO279.out⟩, ⟨by repeat (first | (with_reducible first | exact HB.out | apply below_alloc | apply pw_below_drewN | apply below_drew1) | exact HB.out)⟩⟩
                    · rw [if_neg c14] at H
                      exact absurd H (by simp)
                  · rw [if_neg c13] at H
                    exact absurd H (by simp)
                · rw [if_neg c12] at H
                  have c12b0 : (t275 == 0) = false := beq_eq_false_iff_ne.mpr c12
                  have c12b1 : (t275 != 0) = true := bne_iff_ne.mpr c12
                  have H' := Aside0.mk H
                  clear H
                  have p271 : 0 ≤ (x5_1 : Int) := of_decide_eq_true (by first | (with_reducible assumption) | assumption)
                  have q271 : x5_1 < (l0.length : Int) := of_decide_eq_true (by first | (with_reducible assumption) | assumption)
                  obtain ⟨ad271, A271_4, c271_4, e271, hx271_0, hx271_1, hx271_2, hx271_3, hx271_4, hl271_4, hi271_4⟩ := at_T24 HR0.out x5_1 p271 q271
                  cases e271
                  replace hx271_0 := (HB.out.cell (World.block_lt_of_cell? w _ hx271_0)).trans hx271_0
                  replace hx271_1 := (HB.out.cell (World.block_lt_of_cell? w _ hx271_1)).trans hx271_1
                  replace hx271_2 := (HB.out.cell (World.block_lt_of_cell? w _ hx271_2)).trans hx271_2
                  replace hx271_3 := (HB.out.cell (World.block_lt_of_cell? w _ hx271_3)).trans hx271_3
                  replace hx271_4 := (HB.out.cell (World.block_lt_of_cell? w _ hx271_4)).trans hx271_4
                  have HR271_4 := Aside0.mk hi271_4
                  have HC271_4 := Aside0.mk hl271_4
                  clear hi271_4 hl271_4
                  replace p271 := eq_true p271
                  replace q271 := eq_true q271
                  go_wp2_with (first | ((with_reducible refine gate_callee (f := 8) rfl ?_); refine goesL_ (some 31) rfl rfl Try.func8 (by kernel_rfl) rfl #[.agg #[.int .i64 ((rd_T24 l0 x5_1).f0), .int .i64 ((rd_T24 l0 x5_1).f1), .int .i64 ((rd_T24 l0 x5_1).f2), .bool ((rd_T24 l0 x5_1).f3), .slice A271_4 ((rd_T24 l0 x5_1).f4).length c271_4]] rfl (by (try simp only [List.map_toArray, List.map_cons, List.map_nil]); first | done | rfl | (simp only [List.length_drop, List.length_take]; rfl)) ?_; (with_reducible refine (ravelinlaw18_few.calls k1 ((rd_T24 l0 x5_1).f0) ((rd_T24 l0 x5_1).f1) ((rd_T24 l0 x5_1).f2) ((rd_T24 l0 x5_1).f3) _ _ ((rd_T24 l0 x5_1).f4) true _ ?side1 ?side2 A9.out).mono ?_); (case side1 => repeat (first | exact (Kd.C_below HR271_4.out HB.out) | (with_reducible refine Kd.C_alloc ?_ _) | (with_reducible refine Kd.C_drewN ?_ _) | (with_reducible refine Kd.C_drew ?_))); (case side2 => exact HC271_4.out); rintro e w18 ⟨rfl, hb⟩; refine ⟨_, rfl, ?_⟩; have n0_ := Aside0.mk (Kd.R_below (by (with_reducible repeat (first | apply Kd.R_alloc | apply Kd.R_drewN | apply Kd.R_drew)); exact HO_4.out) hb); have n1_ := Aside0.mk (below_step (by repeat (first | (with_reducible first | exact HB.out | apply below_alloc | apply pw_below_drewN | apply below_drew1) | exact HB.out)) hb); clear HO_4; clear HB; have HO_4 := n0_; have HB := n1_; clear n0_ n1_; (try clear hb); (try clear hb2); (try clear hk); (try clear hi); have p273 : 0 ≤ (x5_1 : Int) := of_decide_eq_true (by first | (with_reducible assumption) | assumption); have q273 : x5_1 < (l0.length : Int) := of_decide_eq_true (by first | (with_reducible assumption) | assumption); obtain ⟨ad273, A273_4, c273_4, e273, hx273_0, hx273_1, hx273_2, hx273_3, hx273_4, hl273_4, hi273_4⟩ := at_T24 HR0.out x5_1 p273 q273; obtain rfl : ad271 = ad273 := (by injection e273); replace hx273_0 := (HB.out.cell (World.block_lt_of_cell? w _ hx273_0)).trans hx273_0; replace hx273_1 := (HB.out.cell (World.block_lt_of_cell? w _ hx273_1)).trans hx273_1; replace hx273_2 := (HB.out.cell (World.block_lt_of_cell? w _ hx273_2)).trans hx273_2; replace hx273_3 := (HB.out.cell (World.block_lt_of_cell? w _ hx273_3)).trans hx273_3; replace hx273_4 := (HB.out.cell (World.block_lt_of_cell? w _ hx273_4)).trans hx273_4; have HR273_4 := Aside0.mk hi273_4; have HC273_4 := Aside0.mk hl273_4; clear hi273_4 hl273_4; replace p273 := eq_true p273; replace q273 := eq_true q273) | ((with_reducible refine gate_callee (f := 9) rfl ?_); refine goesL_ (some 38) rfl rfl Try.func9 (by kernel_rfl) rfl #[.agg #[.int .i64 ((rd_T24 l0 x5_1).f0), .int .i64 ((rd_T24 l0 x5_1).f1), .int .i64 ((rd_T24 l0 x5_1).f2), .bool ((rd_T24 l0 x5_1).f3), .slice A273_4 ((rd_T24 l0 x5_1).f4).length c273_4]] rfl (by (try simp only [List.map_toArray, List.map_cons, List.map_nil]); first | done | rfl | (simp only [List.length_drop, List.length_take]; rfl)) ?_; (with_reducible refine (item_Bytes.calls k1 ((rd_T24 l0 x5_1).f0) ((rd_T24 l0 x5_1).f1) ((rd_T24 l0 x5_1).f2) ((rd_T24 l0 x5_1).f3) _ _ ((rd_T24 l0 x5_1).f4) t274 t275 _ ?side1 ?side2 A11.out).mono ?_); (case side1 => repeat (first | exact (Kd.C_below HR273_4.out HB.out) | (with_reducible refine Kd.C_alloc ?_ _) | (with_reducible refine Kd.C_drewN ?_ _) | (with_reducible refine Kd.C_drew ?_))); (case side2 => exact HC273_4.out); rintro e w19 ⟨rfl, hb⟩; refine ⟨_, rfl, ?_⟩; have n0_ := Aside0.mk (Kd.R_below (by (with_reducible repeat (first | apply Kd.R_alloc | apply Kd.R_drewN | apply Kd.R_drew)); exact HO_4.out) hb); have n1_ := Aside0.mk (below_step (by repeat (first | (with_reducible first | exact HB.out | apply below_alloc | apply pw_below_drewN | apply below_drew1) | exact HB.out)) hb); clear HO_4; clear HB; have HO_4 := n0_; have HB := n1_; clear n0_ n1_; (try clear hb); (try clear hb2); (try clear hk); (try clear hi)))
                  go_roundg k1
                  case measure => have := HK1.out; omega
                  case rel => exact ⟨(x3_1), (x4_1), (wrap64 (x5_1 + 1)), (by first | rfl | (simp; done) | (simp [*]; done)), (by first | rfl | (simp; done) | (simp [*]; done)), H', ⟨by have := HK1.out; omega⟩, ⟨by (with_reducible repeat (first | apply Kd.R_alloc | apply Kd.R_drewN | apply Kd.R_drew)); exact HO_4.out⟩, ⟨by repeat (first | (with_reducible first | exact HB.out | apply below_alloc | apply pw_below_drewN | apply below_drew1) | exact HB.out)⟩⟩
              · replace c10 := Bool.eq_false_iff.mpr c10
                subst c10
                have H1 : (some true) = some r := by rw [if_neg (show ¬ (false = true) by decide)] at H; exact H
                clear H
                have H := H1
                clear H1
                obtain rfl := Option.some.inj H
                have p271 : 0 ≤ (x5_1 : Int) := of_decide_eq_true (by first | (with_reducible assumption) | assumption)
                have q271 : x5_1 < (l0.length : Int) := of_decide_eq_true (by first | (with_reducible assumption) | assumption)
                obtain ⟨ad271, A271_4, c271_4, e271, hx271_0, hx271_1, hx271_2, hx271_3, hx271_4, hl271_4, hi271_4⟩ := at_T24 HR0.out x5_1 p271 q271
                cases e271
                replace hx271_0 := (HB.out.cell (World.block_lt_of_cell? w _ hx271_0)).trans hx271_0
                replace hx271_1 := (HB.out.cell (World.block_lt_of_cell? w _ hx271_1)).trans hx271_1
                replace hx271_2 := (HB.out.cell (World.block_lt_of_cell? w _ hx271_2)).trans hx271_2
                replace hx271_3 := (HB.out.cell (World.block_lt_of_cell? w _ hx271_3)).trans hx271_3
                replace hx271_4 := (HB.out.cell (World.block_lt_of_cell? w _ hx271_4)).trans hx271_4
                have HR271_4 := Aside0.mk hi271_4
                have HC271_4 := Aside0.mk hl271_4
                clear hi271_4 hl271_4
                replace p271 := eq_true p271
                replace q271 := eq_true q271
                go_wp2_with (first | ((with_reducible refine gate_callee (f := 8) rfl ?_); refine goesL_ (some 31) rfl rfl Try.func8 (by kernel_rfl) rfl #[.agg #[.int .i64 ((rd_T24 l0 x5_1).f0), .int .i64 ((rd_T24 l0 x5_1).f1), .int .i64 ((rd_T24 l0 x5_1).f2), .bool ((rd_T24 l0 x5_1).f3), .slice A271_4 ((rd_T24 l0 x5_1).f4).length c271_4]] rfl (by (try simp only [List.map_toArray, List.map_cons, List.map_nil]); first | done | rfl | (simp only [List.length_drop, List.length_take]; rfl)) ?_; (with_reducible refine (ravelinlaw18_few.calls k1 ((rd_T24 l0 x5_1).f0) ((rd_T24 l0 x5_1).f1) ((rd_T24 l0 x5_1).f2) ((rd_T24 l0 x5_1).f3) _ _ ((rd_T24 l0 x5_1).f4) false _ ?side1 ?side2 A9.out).mono ?_); (case side1 => repeat (first | exact (Kd.C_below HR271_4.out HB.out) | (with_reducible refine Kd.C_alloc ?_ _) | (with_reducible refine Kd.C_drewN ?_ _) | (with_reducible refine Kd.C_drew ?_))); (case side2 => exact HC271_4.out); rintro e w20 ⟨rfl, hb⟩; refine ⟨_, rfl, ?_⟩; have n0_ := Aside0.mk (Kd.R_below (by (with_reducible repeat (first | apply Kd.R_alloc | apply Kd.R_drewN | apply Kd.R_drew)); exact HO_4.out) hb); have n1_ := Aside0.mk (below_step (by repeat (first | (with_reducible first | exact HB.out | apply below_alloc | apply pw_below_drewN | apply below_drew1) | exact HB.out)) hb); clear HO_4; clear HB; have HO_4 := n0_; have HB := n1_; clear n0_ n1_; (try clear hb); (try clear hb2); (try clear hk); (try clear hi)))
                go_ret
                exact ⟨by first | rfl | (simp [errW_none, errW_some] <;> rfl) | (simp [*, errW_none, errW_some] <;> rfl), by repeat (first | (with_reducible first | exact HB.out | apply below_alloc | apply pw_below_drewN | apply below_drew1) | exact HB.out)⟩
            · rw [if_neg c8] at H
              exact absurd H (by simp)
          · rw [if_neg c7] at H
            have c7b0 : decide (x5_1 < (l0.length : Int)) = false := decide_eq_false c7
            clear c7
            have H' := Aside0.mk H
            clear H
            go_wp2
            go_loopg [8, 9] k1 (fun kq v8 v9 w' => ∃ (x8_2 : Int) (x9_2 : Int), v8 = .int .i64 x8_2 ∧ v9 = .int .i64 x9_2 ∧ Aside0 (ravelinlaw18_ItemRows.l1 kq x3_1 x4_1 x8_2 x9_2 = some r) ∧ Aside0 (kq ≤ k1) ∧ Aside0 (Kd.R (kG24 w) 24 w' w.heap.size (fun _ => True) u4 x4_1) ∧ Aside0 (Below w.heap.size w w'))
            case atStart => exact ⟨(0), (0), (by first | rfl | (simp; done) | (simp [*]; done)), (by first | rfl | (simp; done) | (simp [*]; done)), H', ⟨Nat.le_refl _⟩, ⟨by (with_reducible repeat (first | apply Kd.R_alloc | apply Kd.R_drewN | apply Kd.R_drew)); exact HO_4.out⟩, ⟨by repeat (first | (with_reducible first | exact HB.out | apply below_alloc | apply pw_below_drewN | apply below_drew1) | exact HB.out)⟩⟩
            case round =>
              clear H'
              try clear c1
              try clear c2
              try clear p2
              try clear q2
              try clear hx2
              try clear c3
              try clear c4
              try clear c4b0
              try clear c4b1
              try clear c6
              try clear p6
              try clear c7
              try clear c7b0
              try clear c8
              try clear c8b0
              try clear c9
              try clear c10
              try clear c12
              try clear c12b0
              try clear c12b1
              try clear c13
              try clear c13b0
              try clear c13b1
              try clear c13b2
              try clear c14
              try clear hx271_0
              try clear hx271_1
              try clear hx271_2
              try clear hx271_3
              try clear hx271_4
              try clear hx273_0
              try clear hx273_1
              try clear hx273_2
              try clear hx273_3
              try clear hx273_4
              try clear hx276_0
              try clear hx276_1
              try clear hx276_2
              try clear hx276_3
              try clear hx276_4
              try clear p2
              try clear p271
              try clear p273
              try clear p276
              try clear q271
              try clear q273
              try clear q276
              obtain ⟨x8_2, x9_2, rfl, rfl, HA, HK2, HO_4, HB⟩ := hrel
              cases gk with
              | zero => exact absurd HA.out (by simp [ravelinlaw18_ItemRows.l1])
              | succ k2 =>
                have H := HA.out
                clear HA
                simp only [ravelinlaw18_ItemRows.l1] at H
                by_cases c21 : x9_2 < (x4_1.length : Int)
                · rw [if_pos c21] at H
                  have c21b0 : decide (x9_2 < (x4_1.length : Int)) = true := decide_eq_true c21
                  clear c21
                  by_cases c22 : 0 ≤ x8_2
                  · rw [if_pos c22] at H
                    have c22b0 := eq_true c22
                    have c22b1 : decide (0 ≤ x8_2) = true := decide_eq_true c22
                    clear c22
                    by_cases c23 : x8_2 ≤ (x3_1.size : Int)
                    · rw [if_pos c23] at H
                      have c23b0 := eq_true c23
                      have c23b1 : decide (x8_2 ≤ (x3_1.size : Int)) = true := decide_eq_true c23
                      clear c23
                      replace H := Option.bind_eq_some_iff.mp H
                      obtain ⟨⟨t290, t291, t292, t293, t294, t297, t298⟩, A240, H⟩ := H
                      replace H : (if t298 = 0 then (if t297 < 1 then (some false) else (if 0 ≤ x9_2 then ((item_Same.f k2 t290 t291 t292 t293 t294 ((rd_T24 x4_1 x9_2).f0) ((rd_T24 x4_1 x9_2).f1) ((rd_T24 x4_1 x9_2).f2) ((rd_T24 x4_1 x9_2).f3) ((rd_T24 x4_1 x9_2).f4)).bind fun t301 => (if t301 = true then (ravelinlaw18_ItemRows.l1 k2 x3_1 x4_1 (wrap64 (x8_2 + t297)) (wrap64 (x9_2 + 1))) else (some false))) else (none))) else (some false)) = some r := H
                      have A24 := Aside0.mk A240
                      clear A240
                      by_cases c25 : t298 = 0
                      · rw [if_pos c25] at H
                        have c25b0 : (t298 == 0) = true := beq_iff_eq.mpr c25
                        have c25b1 : (t298 != 0) = false := bne_eq_false_iff_eq.mpr c25
                        clear c25
                        by_cases c26 : t297 < 1
                        · rw [if_pos c26] at H
                          have c26b0 : decide (t297 < 1) = true := decide_eq_true c26
                          clear c26
                          exact absurd ((Option.some.inj H).trans HR_.out) (by decide)
                        · rw [if_neg c26] at H
                          have c26b0 : decide (t297 < 1) = false := decide_eq_false c26
                          clear c26
                          by_cases c27 : 0 ≤ x9_2
                          · rw [if_pos c27] at H
                            have c27b0 : decide (0 ≤ x9_2) = true := decide_eq_true c27
                            clear c27
                            replace H := Option.bind_eq_some_iff.mp H
                            obtain ⟨t301, A280, H⟩ := H
                            replace H : (if t301 = true then (ravelinlaw18_ItemRows.l1 k2 x3_1 x4_1 (wrap64 (x8_2 + t297)) (wrap64 (x9_2 + 1))) else (some false)) = some r := H
                            have A28 := Aside0.mk A280
                            clear A280
                            by_cases c29 : t301 = true
                            · subst c29
                              have H1 : (ravelinlaw18_ItemRows.l1 k2 x3_1 x4_1 (wrap64 (x8_2 + t297)) (wrap64 (x9_2 + 1))) = some r := by rw [if_pos rfl] at H; exact H
                              clear H
                              have H := H1
                              clear H1
                              have H' := Aside0.mk H
                              clear H
                              obtain ⟨Ao30, co30, eo30⟩ := Kd.R_slice HO_4.out
                              subst eo30
                              try go_wp2_with (first | ((with_reducible refine gate_callee (f := 11) rfl ?_); refine goesL_ (some 63) rfl rfl Try.func11 (by kernel_rfl) rfl #[.string (x3_1.extract (x8_2 : Int).toNat x3_1.size)] rfl (by (try simp only [List.map_toArray, List.map_cons, List.map_nil]); first | done | rfl | (simp only [List.length_drop, List.length_take]; rfl)) ?_; (with_reducible refine (item_Read.calls k2 (x3_1.extract (x8_2 : Int).toNat x3_1.size) t290 t291 t292 t293 t294 t297 t298 _ A24.out).mono ?_); rintro e w31 ⟨v295, rfl, ho0, hb⟩; refine ⟨_, rfl, ?_⟩; have n0_ := Aside0.mk (Kd.R_elder' (by (with_reducible repeat (first | apply Kd.R_alloc | apply Kd.R_drewN | apply Kd.R_drew)); exact HO_4.out) (Kd.R_base ho0) hb); have n1_ := Aside0.mk (Kd.R_lower ho0 (below_size (by repeat (first | (with_reducible first | exact HB.out | apply below_alloc | apply pw_below_drewN | apply below_drew1) | exact HB.out)))); have n2_ := Aside0.mk (below_step (by repeat (first | (with_reducible first | exact HB.out | apply below_alloc | apply pw_below_drewN | apply below_drew1) | exact HB.out)) hb); clear HO_4; clear HB; have HO_4 := n0_; have HO296 := n1_; have HB := n2_; clear n0_ n1_ n2_; (try clear hb); (try clear hb2); (try clear hk); (try clear hi); (try clear ho0)) | ((with_reducible refine gate_dst (N := 10) rfl ?_); refine box_event ?hg (N := 10) ?hd (cs := #[.int .i64 0, .int .i64 0, .int .i64 0, .bool false, .slice none 0 0]) (t := 24) ?hr ?_; (case hd => rfl); (case hg => rfl); (case hr => first | (go_simp; done) | (go_simp; rfl)); intro gb299 hg w32 hbox hb; have n0_ := Aside0.mk (Kd.R_below (Kd.R_elderB (by (with_reducible repeat (first | apply Kd.R_alloc | apply Kd.R_drewN | apply Kd.R_drew)); exact HO_4.out) gb299 (Nat.le_of_eq hg.symm)) hb); have n1_ := Aside0.mk (Kd.R_below (by (with_reducible repeat (first | apply Kd.R_alloc | apply Kd.R_drewN | apply Kd.R_drew)); exact HO296.out) hb); have n2_ := Aside0.mk (below_step (by repeat (first | (with_reducible first | exact HB.out | apply below_alloc | apply pw_below_drewN | apply below_drew1) | exact HB.out)) hb); have n3_ := Aside0.mk (hbox); have n4_ := Aside0.mk ((by rw [hg]; exact (below_size (by repeat (first | (with_reducible first | exact HB.out | apply below_alloc | apply pw_below_drewN | apply below_drew1) | exact HB.out))) : w.heap.size ≤ gb299)); have n5_ := Aside0.mk ((by rw [hg]; exact (below_size (by repeat (first | (with_reducible first | exact HB.out | apply below_alloc | apply pw_below_drewN | apply below_drew1) | exact HB.out))) : w.heap.size ≤ gb299)); clear HO_4; clear HO296; clear HB; have HO_4 := n0_; have HO296 := n1_; have HB := n2_; have BK299 := n3_; have GW299 := n4_; have GE299 := n5_; clear n0_ n1_ n2_ n3_ n4_ n5_; clear hb hbox hg; have hcz33_0 : w32.cell? ⟨gb299, 0, none⟩ = some (.int .i64 0) := (blk_cell BK299.out 0).trans rfl; have hcz33_1 : w32.cell? ⟨gb299, 1, none⟩ = some (.int .i64 0) := (blk_cell BK299.out 1).trans rfl; have hcz33_2 : w32.cell? ⟨gb299, 2, none⟩ = some (.int .i64 0) := (blk_cell BK299.out 2).trans rfl; have hcz33_3 : w32.cell? ⟨gb299, 3, none⟩ = some (.bool false) := (blk_cell BK299.out 3).trans rfl; have hcz33_4 : w32.cell? ⟨gb299, 4, none⟩ = some (.slice none 0 0) := (blk_cell BK299.out 4).trans rfl; have hfz33_0 := blk_frozen BK299.out 0; have hfz33_1 := blk_frozen BK299.out 1; have hfz33_2 := blk_frozen BK299.out 2; have hfz33_3 := blk_frozen BK299.out 3; have hfz33_4 := blk_frozen BK299.out 4; obtain ⟨Ao34, co34, eo34⟩ := Kd.R_slice HO296.out; subst eo34))
                              have n0_ : Aside0 (Kd.R (kG24 w) 24 (((((w32.setCell ⟨gb299, 0, none⟩ (.int .i64 t290)).setCell ⟨gb299, 1, none⟩ (.int .i64 t291)).setCell ⟨gb299, 2, none⟩ (.int .i64 t292)).setCell ⟨gb299, 3, none⟩ (.bool t293)).setCell ⟨gb299, 4, none⟩ (.slice Ao34 t294.length co34)) w.heap.size (fun k_ => some k_ ≠ (.slice Ao34 t294.length co34 : Value).ownBlock ∧ k_ ≠ gb299) (.slice Ao30 x4_1.length co30) x4_1) := ⟨by (with_reducible repeat (first | apply Kd.R_alloc | apply Kd.R_drewN | apply Kd.R_drew)); exact Kd.R_mono (Kd.R_far (p := ⟨gb299, 4, none⟩) (Kd.R_far (p := ⟨gb299, 3, none⟩) (Kd.R_far (p := ⟨gb299, 2, none⟩) (Kd.R_far (p := ⟨gb299, 1, none⟩) (Kd.R_far (p := ⟨gb299, 0, none⟩) (Kd.R_mono HO_4.out (fun k_ hk => (⟨hk, hk.2⟩ : _ ∧ k_ ≠ gb299))) (fun _ hk => hk.2) (.int .i64 t290)) (fun _ hk => hk.2) (.int .i64 t291)) (fun _ hk => hk.2) (.int .i64 t292)) (fun _ hk => hk.2) (.bool t293)) (fun _ hk => hk.2) (.slice Ao34 t294.length co34)) (fun _ hk => ⟨hk.1.1.2, hk.1.2⟩)⟩
                              have n1_ : Aside0 (Kd.R k39 39 (((((w32.setCell ⟨gb299, 0, none⟩ (.int .i64 t290)).setCell ⟨gb299, 1, none⟩ (.int .i64 t291)).setCell ⟨gb299, 2, none⟩ (.int .i64 t292)).setCell ⟨gb299, 3, none⟩ (.bool t293)).setCell ⟨gb299, 4, none⟩ (.slice Ao34 t294.length co34)) w.heap.size (fun _ => True) (.slice Ao34 t294.length co34) t294) := ⟨by (with_reducible repeat (first | apply Kd.R_alloc | apply Kd.R_drewN | apply Kd.R_drew)); exact Kd.R_mono (Kd.R_far (p := ⟨gb299, 4, none⟩) (Kd.R_far (p := ⟨gb299, 3, none⟩) (Kd.R_far (p := ⟨gb299, 2, none⟩) (Kd.R_far (p := ⟨gb299, 1, none⟩) (Kd.R_far (p := ⟨gb299, 0, none⟩) (Kd.R_types HO296.out BK299.out (by decide)) (fun _ hk => hk.2) (.int .i64 t290)) (fun _ hk => hk.2) (.int .i64 t291)) (fun _ hk => hk.2) (.int .i64 t292)) (fun _ hk => hk.2) (.bool t293)) (fun _ hk => hk.2) (.slice Ao34 t294.length co34)) (fun _ hk => trivial)⟩
                              have n2_ : Aside0 ((((((w32.setCell ⟨gb299, 0, none⟩ (.int .i64 t290)).setCell ⟨gb299, 1, none⟩ (.int .i64 t291)).setCell ⟨gb299, 2, none⟩ (.int .i64 t292)).setCell ⟨gb299, 3, none⟩ (.bool t293)).setCell ⟨gb299, 4, none⟩ (.slice Ao34 t294.length co34)).heap[gb299]? = some (.cells #[.int .i64 t290, .int .i64 t291, .int .i64 t292, .bool t293, .slice Ao34 t294.length co34] 24 (0, 0))) := ⟨by (with_reducible repeat (first | refine blk_drewN ?_ _ | refine blk_drew ?_ | refine blk_alloc ?_ _)); refine blk_put (cs := #[.int .i64 t290, .int .i64 t291, .int .i64 t292, .bool t293, .slice none 0 0]) ?_ 4 _ rfl; (with_reducible repeat (first | refine blk_drewN ?_ _ | refine blk_drew ?_ | refine blk_alloc ?_ _)); refine blk_put (cs := #[.int .i64 t290, .int .i64 t291, .int .i64 t292, .bool false, .slice none 0 0]) ?_ 3 _ rfl; (with_reducible repeat (first | refine blk_drewN ?_ _ | refine blk_drew ?_ | refine blk_alloc ?_ _)); refine blk_put (cs := #[.int .i64 t290, .int .i64 t291, .int .i64 0, .bool false, .slice none 0 0]) ?_ 2 _ rfl; (with_reducible repeat (first | refine blk_drewN ?_ _ | refine blk_drew ?_ | refine blk_alloc ?_ _)); refine blk_put (cs := #[.int .i64 t290, .int .i64 0, .int .i64 0, .bool false, .slice none 0 0]) ?_ 1 _ rfl; (with_reducible repeat (first | refine blk_drewN ?_ _ | refine blk_drew ?_ | refine blk_alloc ?_ _)); refine blk_put (cs := #[.int .i64 0, .int .i64 0, .int .i64 0, .bool false, .slice none 0 0]) ?_ 0 _ rfl; (with_reducible repeat (first | refine blk_drewN ?_ _ | refine blk_drew ?_ | refine blk_alloc ?_ _)); exact BK299.out⟩
                              have n3_ : Aside0 (Below w.heap.size w (((((w32.setCell ⟨gb299, 0, none⟩ (.int .i64 t290)).setCell ⟨gb299, 1, none⟩ (.int .i64 t291)).setCell ⟨gb299, 2, none⟩ (.int .i64 t292)).setCell ⟨gb299, 3, none⟩ (.bool t293)).setCell ⟨gb299, 4, none⟩ (.slice Ao34 t294.length co34))) := ⟨by repeat (first | (with_reducible first | exact HB.out | apply below_alloc | apply pw_below_drewN | apply below_drew1 | refine below_set ?_ GE299.out) | exact HB.out)⟩
                              (try clear HO_4)
                              (try clear HO296)
                              (try clear BK299)
                              (try clear HB)
                              generalize (((((w32.setCell ⟨gb299, 0, none⟩ (.int .i64 t290)).setCell ⟨gb299, 1, none⟩ (.int .i64 t291)).setCell ⟨gb299, 2, none⟩ (.int .i64 t292)).setCell ⟨gb299, 3, none⟩ (.bool t293)).setCell ⟨gb299, 4, none⟩ (.slice Ao34 t294.length co34)) = w35 at n0_ n1_ n2_ n3_ ⊢
                              have HO_4 := n0_
                              have HO296 := n1_
                              have BK299 := n2_
                              have HB := n3_
                              clear n0_ n1_ n2_ n3_
                              have n0_ := Aside0.mk (Kd.R_drew HO_4.out)
                              have n1_ := Aside0.mk (Kd.R_drew HO296.out)
                              have n2_ := Aside0.mk (blk_drew BK299.out)
                              have n3_ := Aside0.mk (below_drew1 HB.out)
                              clear HO_4
                              clear HO296
                              clear BK299
                              clear HB
                              have HO_4 := n0_
                              have HO296 := n1_
                              have BK299 := n2_
                              have HB := n3_
                              clear n0_ n1_ n2_ n3_
                              have p300 : 0 ≤ (x9_2 : Int) := of_decide_eq_true (by first | (with_reducible assumption) | assumption)
                              have q300 : x9_2 < (x4_1.length : Int) := of_decide_eq_true (by first | (with_reducible assumption) | assumption)
                              obtain ⟨ad300, A300_4, c300_4, e300, hx300_0, hx300_1, hx300_2, hx300_3, hx300_4, hl300_4, hi300_4⟩ := at_G24 (Kd.R_reads' HO_4.out).2.2 x9_2 p300 q300
                              replace hi300_4 := Kd.C_below hi300_4 HB.out
                              cases e300
                              have HR300_4 := Aside0.mk hi300_4
                              have HC300_4 := Aside0.mk hl300_4
                              clear hi300_4 hl300_4
                              replace p300 := eq_true p300
                              replace q300 := eq_true q300
                              refine start_ (n := 15) (S := fun w' => w'.cell? ⟨gb299, 0, none⟩ = some (.int .i64 t290) ∧ w'.cell? ⟨gb299, 1, none⟩ = some (.int .i64 t291) ∧ w'.cell? ⟨gb299, 2, none⟩ = some (.int .i64 t292) ∧ w'.cell? ⟨gb299, 3, none⟩ = some (.bool t293) ∧ w'.cell? ⟨gb299, 4, none⟩ = some (.slice Ao34 t294.length co34) ∧ w'.cell? (ad300.add ((x9_2).toNat * 5)) = some (.int .i64 ((rd_T24 x4_1 x9_2).f0)) ∧ w'.cell? ⟨(ad300.add ((x9_2).toNat * 5)).block, (ad300.add ((x9_2).toNat * 5)).off + 1, none⟩ = some (.int .i64 ((rd_T24 x4_1 x9_2).f1)) ∧ w'.cell? ⟨(ad300.add ((x9_2).toNat * 5)).block, (ad300.add ((x9_2).toNat * 5)).off + 2, none⟩ = some (.int .i64 ((rd_T24 x4_1 x9_2).f2)) ∧ w'.cell? ⟨(ad300.add ((x9_2).toNat * 5)).block, (ad300.add ((x9_2).toNat * 5)).off + 3, none⟩ = some (.bool ((rd_T24 x4_1 x9_2).f3)) ∧ w'.cell? ⟨(ad300.add ((x9_2).toNat * 5)).block, (ad300.add ((x9_2).toNat * 5)).off + 4, none⟩ = some (.slice A300_4 ((rd_T24 x4_1 x9_2).f4).length c300_4)) (ds := []) #[false, false, false, false, false, false, false, false, false, false, false, false, false, false, false] (by kernel_rfl) rfl rfl ⟨(blk_cell BK299.out 0).trans rfl, (blk_cell BK299.out 1).trans rfl, (blk_cell BK299.out 2).trans rfl, (blk_cell BK299.out 3).trans rfl, (blk_cell BK299.out 4).trans rfl, hx300_0, hx300_1, hx300_2, hx300_3, hx300_4⟩ (fun hHeld => ?_); refine with_tabW ravelinlaw18_ItemRows.tab21 ravelinlaw18_ItemRows.bits21 (fun HT_ HW_ => ?_)
                              generalize w35.drew = w36 at HO_4 HO296 BK299 HB HR300_4 hx300_0 hx300_1 hx300_2 hx300_3 hx300_4 hHeld ⊢
                              refine pure_ (i := 0) (N := some 67) (v := ?_) (a' := ?_) #[true, false, false, false, false, false, false, false, false, false, false, false, false, false, false] rfl rfl (any_of HT_.out (by kernel_rfl)) (fun _ _ _ h => h) (Or.inl ⟨by rfl, ?_⟩) ?_ ?_
                              rotate_left
                              · intro w'
                                go_simp
                                with_reducible rfl
                              rotate_left
                              · simp only [Act.put, List.setIfInBounds_toArray, List.set_cons_zero, List.set_cons_succ, i64_w, i32_w]
                                rfl
                              refine pure_ (i := 1) (N := some 68) (v := ?_) (a' := ?_) #[true, true, false, false, false, false, false, false, false, false, false, false, false, false, false] rfl rfl (any_of HT_.out (by kernel_rfl)) (fun _ _ _ h => h) (Or.inl ⟨by rfl, ?_⟩) ?_ ?_
                              rotate_left
                              · intro w'
                                go_simp
                                with_reducible rfl
                              rotate_left
                              · simp only [Act.put, List.setIfInBounds_toArray, List.set_cons_zero, List.set_cons_succ, i64_w, i32_w]
                                rfl
                              refine pure_ (i := 2) (N := some 69) (v := ?_) (a' := ?_) #[true, true, true, false, false, false, false, false, false, false, false, false, false, false, false] rfl rfl (any_of HT_.out (by kernel_rfl)) (fun _ _ _ h => h) (Or.inl ⟨by rfl, ?_⟩) ?_ ?_
                              rotate_left
                              · intro w'
                                go_simp
                                with_reducible rfl
                              rotate_left
                              · simp only [Act.put, List.setIfInBounds_toArray, List.set_cons_zero, List.set_cons_succ, i64_w, i32_w]
                                rfl
                              refine pure_ (i := 3) (N := some 70) (v := ?_) (a' := ?_) #[true, true, true, true, false, false, false, false, false, false, false, false, false, false, false] rfl rfl (any_of HT_.out (by kernel_rfl)) (fun _ _ _ h => h) (Or.inl ⟨by rfl, ?_⟩) ?_ ?_
                              rotate_left
                              · intro w'
                                go_simp
                                with_reducible rfl
                              rotate_left
                              · simp only [Act.put, List.setIfInBounds_toArray, List.set_cons_zero, List.set_cons_succ, i64_w, i32_w]
                                rfl
                              refine pure_ (i := 4) (N := some 71) (v := ?_) (a' := ?_) #[true, true, true, true, true, false, false, false, false, false, false, false, false, false, false] rfl rfl (any_of HT_.out (by kernel_rfl)) (fun _ _ _ h => h) (Or.inl ⟨by rfl, ?_⟩) ?_ ?_
                              rotate_left
                              · intro w'
                                go_simp
                                with_reducible rfl
                              rotate_left
                              · simp only [Act.put, List.setIfInBounds_toArray, List.set_cons_zero, List.set_cons_succ, i64_w, i32_w]
                                rfl
                              refine pure_ (i := 5) (N := some 72) (v := ?_) (a' := ?_) #[true, true, true, true, true, true, false, false, false, false, false, false, false, false, false] rfl rfl (any_of HT_.out (by kernel_rfl)) (fun _ _ _ h => h) (Or.inl ⟨by rfl, ?_⟩) ?_ ?_
                              rotate_left
                              · intro w'
                                go_simp
                                with_reducible rfl
                              rotate_left
                              · simp only [Act.put, List.setIfInBounds_toArray, List.set_cons_zero, List.set_cons_succ, i64_w, i32_w]
                                rfl
                              refine pure_ (i := 6) (N := some 73) (v := ?_) (a' := ?_) #[true, true, true, true, true, true, true, false, false, false, false, false, false, false, false] rfl rfl (any_of HT_.out (by kernel_rfl)) (fun _ _ _ h => h) (Or.inl ⟨by rfl, ?_⟩) ?_ ?_
                              rotate_left
                              · intro w'
                                go_simp
                                with_reducible rfl
                              rotate_left
                              · simp only [Act.put, List.setIfInBounds_toArray, List.set_cons_zero, List.set_cons_succ, i64_w, i32_w]
                                rfl
                              refine pure_ (i := 8) (N := some 75) (v := ?_) (a' := ?_) #[true, true, true, true, true, true, true, false, true, false, false, false, false, false, false] rfl rfl (any_of HT_.out (by kernel_rfl)) (fun _ _ _ h => h) (Or.inl ⟨by rfl, ?_⟩) ?_ ?_
                              rotate_left
                              · intro w'
                                go_simp
                                with_reducible rfl
                              rotate_left
                              · simp only [Act.put, List.setIfInBounds_toArray, List.set_cons_zero, List.set_cons_succ, i64_w, i32_w]
                                rfl
                              refine pure_ (i := 9) (N := some 76) (v := ?_) (a' := ?_) #[true, true, true, true, true, true, true, false, true, true, false, false, false, false, false] rfl rfl (any_of HT_.out (by kernel_rfl)) (fun _ _ _ h => h) (Or.inl ⟨by rfl, ?_⟩) ?_ ?_
                              rotate_left
                              · intro w'
                                go_simp
                                with_reducible rfl
                              rotate_left
                              · simp only [Act.put, List.setIfInBounds_toArray, List.set_cons_zero, List.set_cons_succ, i64_w, i32_w]
                                rfl
                              refine pure_ (i := 10) (N := some 77) (v := ?_) (a' := ?_) #[true, true, true, true, true, true, true, false, true, true, true, false, false, false, false] rfl rfl (any_of HT_.out (by kernel_rfl)) (fun _ _ _ h => h) (Or.inl ⟨by rfl, ?_⟩) ?_ ?_
                              rotate_left
                              · intro w'
                                go_simp
                                with_reducible rfl
                              rotate_left
                              · simp only [Act.put, List.setIfInBounds_toArray, List.set_cons_zero, List.set_cons_succ, i64_w, i32_w]
                                rfl
                              refine take_ (i := 7) (N := some 74) (v := ?_) (a' := ?_) #[true, true, true, true, true, true, true, true, true, true, true, false, false, false, false] rfl rfl (take_ofW HT_.out HW_.out (by kernel_rfl)) (fun _ _ _ h => h) (Or.inl ⟨by rfl, ?_⟩) hHeld ?_ ?_
                              rotate_left
                              · rintro w' ⟨s0, s1, s2, s3, s4, s5, s6, s7, s8, s9⟩
                                go_simp
                                with_reducible rfl
                              rotate_left
                              · simp only [Act.put, List.setIfInBounds_toArray, List.set_cons_zero, List.set_cons_succ, i64_w, i32_w]
                                rfl
                              refine take_ (i := 11) (N := some 78) (v := ?_) (a' := ?_) #[true, true, true, true, true, true, true, true, true, true, true, true, false, false, false] rfl rfl (take_ofW HT_.out HW_.out (by kernel_rfl)) (fun _ _ _ h => h) (Or.inl ⟨by rfl, ?_⟩) hHeld ?_ ?_
                              rotate_left
                              · rintro w' ⟨s0, s1, s2, s3, s4, s5, s6, s7, s8, s9⟩
                                go_simp
                                with_reducible rfl
                              rotate_left
                              · simp only [Act.put, List.setIfInBounds_toArray, List.set_cons_zero, List.set_cons_succ, i64_w, i32_w]
                                rfl
                              refine one_ (i := 12) (N := some 79) #[true, true, true, true, true, true, true, true, true, true, true, true, true, false, false] rfl rfl (one_of HT_.out (by kernel_rfl)) (by decide) (fun K hK => ?_)
                              refine goes_ Try.func17 (by kernel_rfl) rfl #[.agg #[.int .i64 t290, .int .i64 t291, .int .i64 t292, .bool t293, .slice Ao34 t294.length co34], .agg #[.int .i64 ((rd_T24 x4_1 x9_2).f0), .int .i64 ((rd_T24 x4_1 x9_2).f1), .int .i64 ((rd_T24 x4_1 x9_2).f2), .bool ((rd_T24 x4_1 x9_2).f3), .slice A300_4 ((rd_T24 x4_1 x9_2).f4).length c300_4]] (by rfl) rfl rfl (by (try simp only [List.map_toArray, List.map_cons, List.map_nil]); first | done | rfl | (simp only [List.length_drop, List.length_take]; rfl)) ?_
                              with_reducible refine (item_Same.calls k2 t290 t291 t292 t293 _ _ t294 ((rd_T24 x4_1 x9_2).f0) ((rd_T24 x4_1 x9_2).f1) ((rd_T24 x4_1 x9_2).f2) ((rd_T24 x4_1 x9_2).f3) _ _ ((rd_T24 x4_1 x9_2).f4) true _ ?side1 ?side2 ?side3 ?side4 A28.out).mono ?_
                              (case side1 => repeat (first | exact (Kd.R_reads' HO296.out).2.2 | (with_reducible refine Kd.C_alloc ?_ _) | (with_reducible refine Kd.C_drewN ?_ _) | (with_reducible refine Kd.C_drew ?_)))
                              (case side2 => exact (Kd.R_reads' HO296.out).2.1)
                              (case side3 => repeat (first | exact (by repeat (first | (with_reducible exact HR300_4.out) | (with_reducible refine Kd.C_alloc ?_ _) | (with_reducible refine Kd.C_drewN ?_ _) | (with_reducible refine Kd.C_drew ?_) | exact HR300_4.out)) | (with_reducible refine Kd.C_alloc ?_ _) | (with_reducible refine Kd.C_drewN ?_ _) | (with_reducible refine Kd.C_drew ?_)))
                              (case side4 => exact HC300_4.out)
                              rintro e w37 ⟨rfl, hb⟩
                              have HS5_ := (hb.cell (World.block_lt_of_cell? _ _ (hHeld.2.2.2.2.2.1))).trans (hHeld.2.2.2.2.2.1)
                              have HS6_ := (hb.cell (World.block_lt_of_cell? _ _ (hHeld.2.2.2.2.2.2.1))).trans (hHeld.2.2.2.2.2.2.1)
                              have HS7_ := (hb.cell (World.block_lt_of_cell? _ _ (hHeld.2.2.2.2.2.2.2.1))).trans (hHeld.2.2.2.2.2.2.2.1)
                              have HS8_ := (hb.cell (World.block_lt_of_cell? _ _ (hHeld.2.2.2.2.2.2.2.2.1))).trans (hHeld.2.2.2.2.2.2.2.2.1)
                              have HS9_ := (hb.cell (World.block_lt_of_cell? _ _ (hHeld.2.2.2.2.2.2.2.2.2))).trans (hHeld.2.2.2.2.2.2.2.2.2)
                              refine ⟨_, rfl, ?_⟩
                              have n0_ := Aside0.mk (Kd.R_below (by (with_reducible repeat (first | apply Kd.R_alloc | apply Kd.R_drewN | apply Kd.R_drew)); exact HO_4.out) hb)
                              have n1_ := Aside0.mk (Kd.R_below (by (with_reducible repeat (first | apply Kd.R_alloc | apply Kd.R_drewN | apply Kd.R_drew)); exact HO296.out) hb)
                              have n2_ := True.intro
                              have n3_ := Aside0.mk (blk_below (g := gb299) (o := .cells #[.int .i64 t290, .int .i64 t291, .int .i64 t292, .bool t293, .slice Ao34 t294.length co34] 24 (0, 0)) (by (with_reducible repeat (first | refine blk_drewN ?_ _ | refine blk_drew ?_ | refine blk_alloc ?_ _)); exact BK299.out) hb)
                              have n4_ := Aside0.mk (Kd.C_below (by repeat (first | (with_reducible exact HR300_4.out) | (with_reducible refine Kd.C_alloc ?_ _) | (with_reducible refine Kd.C_drewN ?_ _) | (with_reducible refine Kd.C_drew ?_) | exact HR300_4.out)) hb)
                              have n5_ := Aside0.mk (below_step (by repeat (first | (with_reducible first | exact HB.out | apply below_alloc | apply pw_below_drewN | apply below_drew1 | refine below_set ?_ GE299.out) | exact HB.out)) hb)
                              clear HO_4
                              clear HO296
                              clear BK299
                              clear HR300_4
                              clear HB
                              have HO_4 := n0_
                              have HO296 := n1_
                              have BK299 := n3_
                              have HR300_4 := n4_
                              have HB := n5_
                              clear n0_ n1_ n2_ n3_ n4_ n5_
                              (try clear hb)
                              (try clear hb2)
                              (try clear hk)
                              (try clear hi)
                              refine hK.out _ _ ⟨(blk_cell BK299.out 0).trans rfl, (blk_cell BK299.out 1).trans rfl, (blk_cell BK299.out 2).trans rfl, (blk_cell BK299.out 3).trans rfl, (blk_cell BK299.out 4).trans rfl, HS5_, HS6_, HS7_, HS8_, HS9_⟩ (fun hHeld => ?_)
                              clear hK K
                              refine norm_ (a' := ?_) ?_ ?_
                              rotate_left
                              · show Act.put _ (some 79) _ = _
                                simp only [Act.put, List.setIfInBounds_toArray, List.set_cons_zero, List.set_cons_succ, i64_w, i32_w]
                                rfl
                              refine pure_ (i := 13) (N := some 80) (v := ?_) (a' := ?_) #[true, true, true, true, true, true, true, true, true, true, true, true, true, true, false] rfl rfl (any_of HT_.out (by kernel_rfl)) (fun _ _ _ h => h) (Or.inl ⟨by rfl, ?_⟩) ?_ ?_
                              rotate_left
                              · intro w'
                                go_simp
                                with_reducible rfl
                              rotate_left
                              · simp only [Act.put, List.setIfInBounds_toArray, List.set_cons_zero, List.set_cons_succ, i64_w, i32_w]
                                rfl
                              refine pure_ (i := 14) (N := some 81) (v := ?_) (a' := ?_) #[true, true, true, true, true, true, true, true, true, true, true, true, true, true, true] rfl rfl (any_of HT_.out (by kernel_rfl)) (fun _ _ _ h => h) (Or.inl ⟨by rfl, ?_⟩) ?_ ?_
                              rotate_left
                              · intro w'
                                go_simp
                                with_reducible rfl
                              rotate_left
                              · simp only [Act.put, List.setIfInBounds_toArray, List.set_cons_zero, List.set_cons_succ, i64_w, i32_w]
                                rfl
                              refine done_ (done_of HT_.out (by kernel_rfl)) ?_
                              try go_wp2
                              go_roundg k2
                              case measure => have := HK1.out; have := HK2.out; omega
                              case rel => exact ⟨(wrap64 (x8_2 + t297)), (wrap64 (x9_2 + 1)), (by first | rfl | (simp; done) | (simp [*]; done)), (by first | rfl | (simp; done) | (simp [*]; done)), H', ⟨by have := HK1.out; have := HK2.out; omega⟩, ⟨by (with_reducible repeat (first | apply Kd.R_alloc | apply Kd.R_drewN | apply Kd.R_drew)); exact Kd.R_mono HO_4.out (fun _ hk => trivial)⟩, ⟨by repeat (first | (with_reducible first | exact HB.out | apply below_alloc | apply pw_below_drewN | apply below_drew1 | refine below_set ?_ GE299.out) | exact HB.out)⟩⟩
                            · replace c29 := Bool.eq_false_iff.mpr c29
                              subst c29
                              have H1 : (some false) = some r := by rw [if_neg (show ¬ (false = true) by decide)] at H; exact H
                              clear H
                              have H := H1
                              clear H1
                              exact absurd ((Option.some.inj H).trans HR_.out) (by decide)
                          · rw [if_neg c27] at H
                            exact absurd H (by simp)
                      · rw [if_neg c25] at H
                        have c25b0 : (t298 == 0) = false := beq_eq_false_iff_ne.mpr c25
                        have c25b1 : (t298 != 0) = true := bne_iff_ne.mpr c25
                        exact absurd ((Option.some.inj H).trans HR_.out) (by decide)
                    · rw [if_neg c23] at H
                      exact absurd H (by simp)
                  · rw [if_neg c22] at H
                    exact absurd H (by simp)
                · rw [if_neg c21] at H
                  have c21b0 : decide (x9_2 < (x4_1.length : Int)) = false := decide_eq_false c21
                  clear c21
                  by_cases c38 : 0 ≤ x8_2
                  · rw [if_pos c38] at H
                    have c38b0 := eq_true c38
                    have c38b1 : decide (0 ≤ x8_2) = true := decide_eq_true c38
                    clear c38
                    by_cases c39 : x8_2 ≤ (x3_1.size : Int)
                    · rw [if_pos c39] at H
                      have c39b0 := eq_true c39
                      have c39b1 : decide (x8_2 ≤ (x3_1.size : Int)) = true := decide_eq_true c39
                      clear c39
                      replace H := Option.bind_eq_some_iff.mp H
                      obtain ⟨⟨t280, t281, t282, t283, t284, t287, t288⟩, A400, H⟩ := H
                      replace H : (if x8_2 = (x3_1.size : Int) then (some (t288 == 12)) else (some false)) = some r := H
                      have A40 := Aside0.mk A400
                      clear A400
                      by_cases c41 : x8_2 = (x3_1.size : Int)
                      · rw [if_pos c41] at H
                        have c41b0 : (x8_2 == (x3_1.size : Int)) = true := beq_iff_eq.mpr c41
                        have c41b1 : (x8_2 != (x3_1.size : Int)) = false := bne_eq_false_iff_eq.mpr c41
                        clear c41
                        obtain rfl := Option.some.inj H
                        obtain ⟨Ao42, co42, eo42⟩ := Kd.R_slice HO_4.out
                        subst eo42
                        go_wp2_with (first | ((with_reducible refine gate_callee (f := 11) rfl ?_); refine goesL_ (some 89) rfl rfl Try.func11 (by kernel_rfl) rfl #[.string (x3_1.extract (x8_2 : Int).toNat x3_1.size)] rfl (by (try simp only [List.map_toArray, List.map_cons, List.map_nil]); first | done | rfl | (simp only [List.length_drop, List.length_take]; rfl)) ?_; (with_reducible refine (item_Read.calls k2 (x3_1.extract (x8_2 : Int).toNat x3_1.size) t280 t281 t282 t283 t284 t287 t288 _ A40.out).mono ?_); rintro e w43 ⟨v285, rfl, ho0, hb⟩; refine ⟨_, rfl, ?_⟩; have n0_ := Aside0.mk (Kd.R_elder' (by (with_reducible repeat (first | apply Kd.R_alloc | apply Kd.R_drewN | apply Kd.R_drew)); exact HO_4.out) (Kd.R_base ho0) hb); have n1_ := Aside0.mk (Kd.R_lower ho0 (below_size (by repeat (first | (with_reducible first | exact HB.out | apply below_alloc | apply pw_below_drewN | apply below_drew1) | exact HB.out)))); have n2_ := Aside0.mk (below_step (by repeat (first | (with_reducible first | exact HB.out | apply below_alloc | apply pw_below_drewN | apply below_drew1) | exact HB.out)) hb); clear HO_4; clear HB; have HO_4 := n0_; have HO286 := n1_; have HB := n2_; clear n0_ n1_ n2_; (try clear hb); (try clear hb2); (try clear hk); (try clear hi); (try clear ho0)) | ((with_reducible refine gate_dst (N := 13) rfl ?_); refine box_event ?hg (N := 13) ?hd (cs := #[.int .i64 0, .int .i64 0, .int .i64 0, .bool false, .slice none 0 0]) (t := 24) ?hr ?_; (case hd => rfl); (case hg => rfl); (case hr => first | (go_simp; done) | (go_simp; rfl)); intro gb289 hg w44 hbox hb; have n0_ := Aside0.mk (Kd.R_below (Kd.R_elderB (by (with_reducible repeat (first | apply Kd.R_alloc | apply Kd.R_drewN | apply Kd.R_drew)); exact HO_4.out) gb289 (Nat.le_of_eq hg.symm)) hb); have n1_ := Aside0.mk (Kd.R_below (by (with_reducible repeat (first | apply Kd.R_alloc | apply Kd.R_drewN | apply Kd.R_drew)); exact HO286.out) hb); have n2_ := Aside0.mk (below_step (by repeat (first | (with_reducible first | exact HB.out | apply below_alloc | apply pw_below_drewN | apply below_drew1) | exact HB.out)) hb); have n3_ := Aside0.mk (hbox); have n4_ := Aside0.mk ((by rw [hg]; exact (below_size (by repeat (first | (with_reducible first | exact HB.out | apply below_alloc | apply pw_below_drewN | apply below_drew1) | exact HB.out))) : w.heap.size ≤ gb289)); have n5_ := Aside0.mk ((by rw [hg]; exact (below_size (by repeat (first | (with_reducible first | exact HB.out | apply below_alloc | apply pw_below_drewN | apply below_drew1) | exact HB.out))) : w.heap.size ≤ gb289)); clear HO_4; clear HO286; clear HB; have HO_4 := n0_; have HO286 := n1_; have HB := n2_; have BK289 := n3_; have GW289 := n4_; have GE289 := n5_; clear n0_ n1_ n2_ n3_ n4_ n5_; clear hb hbox hg; have hcz45_0 : w44.cell? ⟨gb289, 0, none⟩ = some (.int .i64 0) := (blk_cell BK289.out 0).trans rfl; have hcz45_1 : w44.cell? ⟨gb289, 1, none⟩ = some (.int .i64 0) := (blk_cell BK289.out 1).trans rfl; have hcz45_2 : w44.cell? ⟨gb289, 2, none⟩ = some (.int .i64 0) := (blk_cell BK289.out 2).trans rfl; have hcz45_3 : w44.cell? ⟨gb289, 3, none⟩ = some (.bool false) := (blk_cell BK289.out 3).trans rfl; have hcz45_4 : w44.cell? ⟨gb289, 4, none⟩ = some (.slice none 0 0) := (blk_cell BK289.out 4).trans rfl; have hfz45_0 := blk_frozen BK289.out 0; have hfz45_1 := blk_frozen BK289.out 1; have hfz45_2 := blk_frozen BK289.out 2; have hfz45_3 := blk_frozen BK289.out 3; have hfz45_4 := blk_frozen BK289.out 4; obtain ⟨Ao46, co46, eo46⟩ := Kd.R_slice HO286.out; subst eo46))
                        go_ret
                        exact ⟨by first | rfl | (simp [errW_none, errW_some] <;> rfl) | (simp [*, errW_none, errW_some] <;> rfl), by repeat (first | (with_reducible first | exact HB.out | apply below_alloc | apply pw_below_drewN | apply below_drew1 | refine below_set ?_ GE289.out) | exact HB.out)⟩
                      · rw [if_neg c41] at H
                        have c41b0 : (x8_2 == (x3_1.size : Int)) = false := beq_eq_false_iff_ne.mpr c41
                        have c41b1 : (x8_2 != (x3_1.size : Int)) = true := bne_iff_ne.mpr c41
                        exact absurd ((Option.some.inj H).trans HR_.out) (by decide)
                    · rw [if_neg c39] at H
                      exact absurd H (by simp)
                  · rw [if_neg c38] at H
                    exact absurd H (by simp)
  · replace c3 := Bool.eq_false_iff.mpr c3
    subst c3
    have H1 : (some false) = some r := by rw [if_neg (show ¬ (false = true) by decide)] at H; exact H
    clear H
    have H := H1
    clear H1
    exact absurd ((Option.some.inj H).trans HR_.out) (by decide)
def ravelinlaw18_ItemRows.Pure : Prop := ∀ (l0 : List (S24)), l0.length ≤ 9223372036854775807 → (∀ y_ ∈ l0, ((Lit.int .i64 y_.f0).wf = true ∧ (Lit.int .i64 y_.f1).wf = true ∧ (Lit.int .i64 y_.f2).wf = true ∧ True ∧ (y_.f4.length ≤ 9223372036854775807 ∧ ∀ yy__f4 ∈ y_.f4, (yy__f4.f0.size ≤ 9223372036854775807 ∧ True ∧ yy__f4.f2.size ≤ 9223372036854775807)))) → ∃ k, ravelinlaw18_ItemRows.f k l0 = some true

end Go.Proofs.Ytkmbgihfdfgmgaa.P
