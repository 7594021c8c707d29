-- Printed by a changed copy of the kit's printer (wip/tools/ext.py); labels and more
import Derived.Test.YtggmgenofmfdpaaM0
import Derived.Test.YtggmgenofmfdpaaM3
import Derived.Test.YtggmgenofmfdpaaM4
import Derived.Test.YtggmgenofmfdpaaM5
namespace Go.Proofs.Ytggmgenofmfdpaa.P
open Go.RowKit Go.Proofs.YtggmgenofmfdpaaW.PrintWords Go.Proofs.YtggmgenofmfdpaaW.PrintLast Go.Proofs.YtggmgenofmfdpaaW.PrintMore
attribute [local go_sem] max2_int min2_int max_two min_two max_three min_three max_four min_four   -- for this text's walks alone
set_option linter.unusedVariables false
set_option linter.unusedSimpArgs false

attribute [local go_sem high] eqA23
/-! ### ravelinlaw6_EntryNewest: function 6 -/
mutual
def ravelinlaw6_EntryNewest.j1 : Nat → Int → List (S23) → Option (Bool)
  | 0, _, _ => none
  | k + 1, x1, x5 => (some (([(⟨(⟨#[106]⟩ : ByteArray), 5, false, (⟨#[]⟩ : ByteArray)⟩ : S23)] : List (S23)) : List (S23))).bind fun y385 => (if y385.length + x5.length < 2932031007402 then ((some (y385 ++ x5 : List (S23))).bind fun y388 => (if y388.length < 2932031007402 then ((some (y388 ++ [(⟨(⟨#[108]⟩ : ByteArray), 1, false, (⟨#[]⟩ : ByteArray)⟩ : S23)] : List (S23))).bind fun y391 => ((entry_Newest.f k y391 (⟨#[107]⟩ : ByteArray) x1).bind fun bt394 => (ravelinlaw6_EntryNewest.l1 k x1 y391 bt394.2.2.2.2 false (wrap64 ((y391.length : Int) - 1)) bt394.1 bt394.2.1 bt394.2.2.1 bt394.2.2.2.1 (⟨#[]⟩ : ByteArray) 0 false (⟨#[]⟩ : ByteArray)))) else (none))) else (none))
def ravelinlaw6_EntryNewest.l1 : Nat → Int → List (S23) → Bool → Bool → Int → ByteArray → Int → Bool → ByteArray → ByteArray → Int → Bool → ByteArray → Option (Bool)
  | 0, _, _, _, _, _, _, _, _, _, _, _, _, _ => none
  | k + 1, x1, x5, x10, x12, x13, x400000, x400001, x400002, x400003, x401000, x401001, x401002, x401003 => if x13 ≥ 0 then (if 0 ≤ x13 then (if x13 < (x5.length : Int) then (if ((rd_T23 x5 x13).f0).toList = ([107] : List UInt8) then (if ((rd_T23 x5 x13).f1) ≤ x1 then (ravelinlaw6_EntryNewest.l1 k x1 x5 x10 true (wrap64 (x13 - 1)) x400000 x400001 x400002 x400003 ((rd_T23 x5 x13).f0) ((rd_T23 x5 x13).f1) ((rd_T23 x5 x13).f2) ((rd_T23 x5 x13).f3)) else (ravelinlaw6_EntryNewest.l1 k x1 x5 x10 x12 (wrap64 (x13 - 1)) x400000 x400001 x400002 x400003 x401000 x401001 x401002 x401003)) else (ravelinlaw6_EntryNewest.l1 k x1 x5 x10 x12 (wrap64 (x13 - 1)) x400000 x400001 x400002 x400003 x401000 x401001 x401002 x401003)) else (none)) else (none)) else ((entry_Sorted.f k x5).bind fun t404 => (if t404 = true then (if (x10 == x12) = true then (some (x400000.toList == x401000.toList && (x400001 == x401001 && (x400002 == x401002 && (x400003.toList == x401003.toList))))) else (some false)) else (some false)))
def ravelinlaw6_EntryNewest.l0 : Nat → List Int → Int → List (S23) → Int → Int → Option (Bool)
  | 0, _, _, _, _, _ => none
  | k + 1, x0, x1, x5, x6, x7 => if x7 < (x0.length : Int) then (if x7 < 20 then (if 0 ≤ x7 then ((some (([(⟨(⟨#[107]⟩ : ByteArray), wrap64 ((wrap64 (x6 + (wrap64 (Int.tmod (rd x0 x7) 9)))) + 1), ((Int.tmod (rd x0 x7) 4) == 0), (⟨#[]⟩ : ByteArray)⟩ : S23)] : List (S23)) : List (S23))).bind fun y379 => (if y379.length + x5.length < 2932031007402 then (ravelinlaw6_EntryNewest.l0 k x0 x1 (y379 ++ x5) (wrap64 ((wrap64 (x6 + (wrap64 (Int.tmod (rd x0 x7) 9)))) + 1)) (wrap64 (x7 + 1))) else (none))) else (none)) else (ravelinlaw6_EntryNewest.j1 k x1 x5)) else (ravelinlaw6_EntryNewest.j1 k x1 x5)
end
def ravelinlaw6_EntryNewest.f (k : Nat) (l0 : List Int) (a1 : Int) : Option (Bool) := (ravelinlaw6_known.f k).bind fun t375 => (if t375 = true then (ravelinlaw6_EntryNewest.l0 k l0 a1 ([] : List (S23)) 0 0) else (some false))
theorem ravelinlaw6_EntryNewest.mono_l : ∀ k, (∀ y0 y1, LeO (ravelinlaw6_EntryNewest.j1 k y0 y1) (ravelinlaw6_EntryNewest.j1 (k + 1) y0 y1)) ∧ (∀ y0 y1 y2 y3 y4 y5 y6 y7 y8 y9 y10 y11 y12, LeO (ravelinlaw6_EntryNewest.l1 k y0 y1 y2 y3 y4 y5 y6 y7 y8 y9 y10 y11 y12) (ravelinlaw6_EntryNewest.l1 (k + 1) y0 y1 y2 y3 y4 y5 y6 y7 y8 y9 y10 y11 y12)) ∧ (∀ y0 y1 y2 y3 y4, LeO (ravelinlaw6_EntryNewest.l0 k y0 y1 y2 y3 y4) (ravelinlaw6_EntryNewest.l0 (k + 1) y0 y1 y2 y3 y4))
  | 0 => ⟨fun _ _ r h => by simp [ravelinlaw6_EntryNewest.j1] at h, fun _ _ _ _ _ _ _ _ _ _ _ _ _ r h => by simp [ravelinlaw6_EntryNewest.l1] at h, fun _ _ _ _ _ r h => by simp [ravelinlaw6_EntryNewest.l0] at h⟩
  | k + 1 => by
    obtain ⟨ih0, ih1, ih2⟩ := ravelinlaw6_EntryNewest.mono_l k
    refine ⟨?_, ?_, ?_⟩
    · intro y0 y1
      unfold ravelinlaw6_EntryNewest.j1
      repeat' first
      | (with_reducible exact ih0 _ _)
      | (with_reducible exact ih1 _ _ _ _ _ _ _ _ _ _ _ _ _)
      | (with_reducible exact ih2 _ _ _ _ _)
      | (with_reducible exact entry_Newest.mono _ _ _ _)
      | (with_reducible exact entry_Sorted.mono _ _)
      | (with_reducible exact ravelinlaw6_known.mono _)
      | (with_reducible exact LeO.refl _)
      | (with_reducible exact LeO.none _)
      | (with_reducible refine LeO.ite ?_ ?_)
      | (with_reducible refine LeO.bind ?_ (fun _ => ?_))
      | exact ih0 _ _
      | exact ih1 _ _ _ _ _ _ _ _ _ _ _ _ _
      | exact ih2 _ _ _ _ _
      | exact entry_Newest.mono _ _ _ _
      | exact entry_Sorted.mono _ _
      | exact ravelinlaw6_known.mono _
      | exact LeO.none _
      | refine LeO.ite ?_ ?_
      | refine LeO.bind ?_ (fun _ => ?_)
    · intro y0 y1 y2 y3 y4 y5 y6 y7 y8 y9 y10 y11 y12
      unfold ravelinlaw6_EntryNewest.l1
      repeat' first
      | (with_reducible exact ih0 _ _)
      | (with_reducible exact ih1 _ _ _ _ _ _ _ _ _ _ _ _ _)
      | (with_reducible exact ih2 _ _ _ _ _)
      | (with_reducible exact entry_Newest.mono _ _ _ _)
      | (with_reducible exact entry_Sorted.mono _ _)
      | (with_reducible exact ravelinlaw6_known.mono _)
      | (with_reducible exact LeO.refl _)
      | (with_reducible exact LeO.none _)
      | (with_reducible refine LeO.ite ?_ ?_)
      | (with_reducible refine LeO.bind ?_ (fun _ => ?_))
      | exact ih0 _ _
      | exact ih1 _ _ _ _ _ _ _ _ _ _ _ _ _
      | exact ih2 _ _ _ _ _
      | exact entry_Newest.mono _ _ _ _
      | exact entry_Sorted.mono _ _
      | exact ravelinlaw6_known.mono _
      | exact LeO.none _
      | refine LeO.ite ?_ ?_
      | refine LeO.bind ?_ (fun _ => ?_)
    · intro y0 y1 y2 y3 y4
      unfold ravelinlaw6_EntryNewest.l0
      repeat' first
      | (with_reducible exact ih0 _ _)
      | (with_reducible exact ih1 _ _ _ _ _ _ _ _ _ _ _ _ _)
      | (with_reducible exact ih2 _ _ _ _ _)
      | (with_reducible exact entry_Newest.mono _ _ _ _)
      | (with_reducible exact entry_Sorted.mono _ _)
      | (with_reducible exact ravelinlaw6_known.mono _)
      | (with_reducible exact LeO.refl _)
      | (with_reducible exact LeO.none _)
      | (with_reducible refine LeO.ite ?_ ?_)
      | (with_reducible refine LeO.bind ?_ (fun _ => ?_))
      | exact ih0 _ _
      | exact ih1 _ _ _ _ _ _ _ _ _ _ _ _ _
      | exact ih2 _ _ _ _ _
      | exact entry_Newest.mono _ _ _ _
      | exact entry_Sorted.mono _ _
      | exact ravelinlaw6_known.mono _
      | exact LeO.none _
      | refine LeO.ite ?_ ?_
      | refine LeO.bind ?_ (fun _ => ?_)
theorem ravelinlaw6_EntryNewest.mono : ∀ a0 a1 k, LeO (ravelinlaw6_EntryNewest.f k a0 a1) (ravelinlaw6_EntryNewest.f (k + 1) a0 a1) := by
  intro a0 a1 k
  obtain ⟨ih0, ih1, ih2⟩ := ravelinlaw6_EntryNewest.mono_l k
  unfold ravelinlaw6_EntryNewest.f
  repeat' first
      | (with_reducible exact ih0 _ _)
      | (with_reducible exact ih1 _ _ _ _ _ _ _ _ _ _ _ _ _)
      | (with_reducible exact ih2 _ _ _ _ _)
      | (with_reducible exact entry_Newest.mono _ _ _ _)
      | (with_reducible exact entry_Sorted.mono _ _)
      | (with_reducible exact ravelinlaw6_known.mono _)
      | (with_reducible exact LeO.refl _)
      | (with_reducible exact LeO.none _)
      | (with_reducible refine LeO.ite ?_ ?_)
      | (with_reducible refine LeO.bind ?_ (fun _ => ?_))
      | exact ih0 _ _
      | exact ih1 _ _ _ _ _ _ _ _ _ _ _ _ _
      | exact ih2 _ _ _ _ _
      | exact entry_Newest.mono _ _ _ _
      | exact entry_Sorted.mono _ _
      | exact ravelinlaw6_known.mono _
      | exact LeO.none _
      | refine LeO.ite ?_ ?_
      | refine LeO.bind ?_ (fun _ => ?_)
set_option maxHeartbeats 8000000 in
set_option maxRecDepth 100000 in
theorem ravelinlaw6_EntryNewest.calls (k : Nat) (A0 : Option Addr) (c0 : Nat) (l0 : List Int) (a1 : Int) (r : Bool) (w : World) (hr0 : Kd.C (Kd.int .u8) w A0 l0.length l0) (hc0 : l0.length ≤ c0) (h : ravelinlaw6_EntryNewest.f k l0 a1 = some r) (hr_ : r = true) :
    Calls Try.prog 6 #[.slice A0 l0.length c0, .int .i64 a1] w fun e w' => e = .returned (.bool r) ∧ Below w.heap.size w w' := by
  have hu23 := Try.underlying23
  have HR0 := Aside0.mk hr0
  have HC0 := Aside0.mk hc0
  clear hr0 hc0
  have HB := Aside0.mk (Below.refl w.heap.size w)
  have H : ((ravelinlaw6_known.f k).bind fun t375 => (if t375 = true then (ravelinlaw6_EntryNewest.l0 k l0 a1 ([] : List (S23)) 0 0) else (some false))) = some r := h
  clear h
  have HR_ := Aside0.mk hr_
  clear hr_
  replace H := Option.bind_eq_some_iff.mp H
  obtain ⟨t375, A30, H⟩ := H
  replace H : (if t375 = true then (ravelinlaw6_EntryNewest.l0 k l0 a1 ([] : List (S23)) 0 0) else (some false)) = some r := H
  have A3 := Aside0.mk A30
  clear A30
  by_cases c4 : t375 = true
  · subst c4
    have H1 : (ravelinlaw6_EntryNewest.l0 k l0 a1 ([] : List (S23)) 0 0) = some r := by rw [if_pos rfl] at H; exact H
    clear H
    have H := H1
    clear H1
    have HC5 := Aside0.mk H
    clear H
    go_enter Try.func6, Try.ntmps6
    go_upto_block 0 with (first | ((with_reducible refine gate_callee (f := 9) rfl ?_); refine goesL_ (some 14) rfl rfl Try.func9 (by kernel_rfl) rfl #[] rfl (by (try simp only [List.map_toArray, List.map_cons, List.map_nil]); first | done | rfl | (simp only [List.length_drop, List.length_take]; rfl)) ?_; (with_reducible refine (ravelinlaw6_known.calls k  true _ A3.out (by first | rfl | assumption | exact of_decide_eq_true (by assumption))).mono ?_); rintro e w6 ⟨rfl, hb⟩; refine ⟨_, rfl, ?_⟩; have n0_ := Aside0.mk (below_step (by repeat (first | (with_reducible first | exact HB.out | apply below_alloc | apply pw_below_drewN | apply below_drew1) | exact HB.out)) hb); clear HB; have HB := n0_; clear n0_; (try clear hb); (try clear hb2); (try clear hk); (try clear hi)))
    (try simp only [Act.put, List.setIfInBounds_toArray, List.set_cons_zero, List.set_cons_succ])
    go_cut [5] (fun v5 wc => ∃ (kq : Nat) (x5_4 : List (S23)), Aside0 (ravelinlaw6_EntryNewest.j1 kq a1 x5_4 = some r) ∧ Aside0 (kq ≤ k) ∧ Aside0 (Kd.R k23 23 wc w.heap.size (fun _ => True) v5 x5_4) ∧ Aside0 (Below w.heap.size w wc))
    case first =>
      have H := HC5.out
      clear HC5
      have H' := Aside0.mk H
      clear H
      go_wp2
      go_loopg [5, 6, 7] k (fun kq v5 v6 v7 w' => ∃ (x5_1 : List (S23)) (x6_1 : Int) (x7_1 : Int), v6 = .int .i64 x6_1 ∧ v7 = .int .i64 x7_1 ∧ Aside0 (ravelinlaw6_EntryNewest.l0 kq l0 a1 x5_1 x6_1 x7_1 = some r) ∧ Aside0 (kq ≤ k) ∧ Aside0 (Kd.R k23 23 w' w.heap.size (fun _ => True) v5 x5_1) ∧ Aside0 (Below w.heap.size w w'))
      case atStart => exact ⟨(([] : List (S23))), (0), (0), (by first | rfl | (simp; done) | (simp [*]; done)), (by first | rfl | (simp; done) | (simp [*]; done)), H', ⟨Nat.le_refl _⟩, ⟨by first | exact Kd.R_nil _ _ _ _ _ | exact Kd.N_nil _ _ _ _ _ | exact Kd.V_nil _ _ _ _ _ | exact Kd.Q_nil _ _ _ _ _ | exact Kd.S_nil _ _ _ _ _⟩, ⟨by repeat (first | (with_reducible first | exact HB.out | apply below_alloc | apply pw_below_drewN | apply below_drew1) | exact HB.out)⟩⟩
      case round =>
        clear H'
        try clear p2
        try clear c4
        try clear c6
        obtain ⟨x5_1, x6_1, x7_1, rfl, rfl, HA, HK1, HO_5, HB⟩ := hrel
        cases gk with
        | zero => exact absurd HA.out (by simp [ravelinlaw6_EntryNewest.l0])
        | succ k1 =>
          have H := HA.out
          clear HA
          simp only [ravelinlaw6_EntryNewest.l0] at H
          by_cases c7 : x7_1 < (l0.length : Int)
          · rw [if_pos c7] at H
            have c7b0 : decide (x7_1 < (l0.length : Int)) = true := decide_eq_true c7
            clear c7
            (first | rw [c7b0] | (simp only [i64_w, i32_w]; rw [c7b0]) | skip)
            by_cases c8 : x7_1 < 20
            · rw [if_pos c8] at H
              have c8b0 : decide (x7_1 < 20) = true := decide_eq_true c8
              clear c8
              by_cases c9 : 0 ≤ x7_1
              · rw [if_pos c9] at H
                have c9b0 : decide (0 ≤ x7_1) = true := decide_eq_true c9
                clear c9
                obtain ⟨y379, hy379⟩ : ∃ y_ : List (S23), y_ = (([(⟨(⟨#[107]⟩ : ByteArray), wrap64 ((wrap64 (x6_1 + (wrap64 (Int.tmod (rd l0 x7_1) 9)))) + 1), ((Int.tmod (rd l0 x7_1) 4) == 0), (⟨#[]⟩ : ByteArray)⟩ : S23)] : List (S23))) := ⟨_, rfl⟩
                replace H : (if y379.length + x5_1.length < 2932031007402 then (ravelinlaw6_EntryNewest.l0 k1 l0 a1 (y379 ++ x5_1) (wrap64 ((wrap64 (x6_1 + (wrap64 (Int.tmod (rd l0 x7_1) 9)))) + 1)) (wrap64 (x7_1 + 1))) else (none)) = some r := by first | (rw [hy379]; with_reducible exact H) | (have H2_ := (Option.bind_some _ _).symm.trans H; rw [hy379]; with_reducible exact H2_) | (have H2_ := (Option.bind_some _ _).symm.trans H; with_reducible exact H2_) | with_reducible exact H | (rw [hy379]; exact H) | exact H
                have Ny379 := Aside0.mk hy379
                clear hy379
                by_cases c10 : y379.length + x5_1.length < 2932031007402
                · rw [if_pos c10] at H
                  have LMc10 := Aside0.mk c10
                  clear c10
                  obtain ⟨y382, hy382⟩ : ∃ y_ : List (S23), y_ = (y379 ++ x5_1) := ⟨_, rfl⟩
                  replace H : (ravelinlaw6_EntryNewest.l0 k1 l0 a1 y382 (wrap64 ((wrap64 (x6_1 + (wrap64 (Int.tmod (rd l0 x7_1) 9)))) + 1)) (wrap64 (x7_1 + 1))) = some r := by first | (rw [hy382]; with_reducible exact H) | (have H2_ := (Option.bind_some _ _).symm.trans H; rw [hy382]; with_reducible exact H2_) | (have H2_ := (Option.bind_some _ _).symm.trans H; with_reducible exact H2_) | with_reducible exact H | (rw [hy382]; exact H) | exact H
                  have Ny382 := Aside0.mk hy382
                  clear hy382
                  have H' := Aside0.mk H
                  clear H
                  have p376 : 0 ≤ (x7_1 : Int) := of_decide_eq_true (by first | (with_reducible assumption) | assumption)
                  have q376 : x7_1 < (l0.length : Int) := of_decide_eq_true (by first | (with_reducible assumption) | assumption)
                  obtain ⟨ad376, e376, hx376_0⟩ := Kd.at_int HR0.out x7_1 p376 q376
                  cases e376
                  replace hx376_0 := (HB.out.cell (World.block_lt_of_cell? w _ hx376_0)).trans hx376_0
                  replace p376 := eq_true p376
                  replace q376 := eq_true q376
                  have p377 : 0 ≤ (x7_1 : Int) := of_decide_eq_true (by first | (with_reducible assumption) | assumption)
                  have q377 : x7_1 < (l0.length : Int) := of_decide_eq_true (by first | (with_reducible assumption) | assumption)
                  obtain ⟨ad377, e377, hx377_0⟩ := Kd.at_int HR0.out x7_1 p377 q377
                  obtain rfl : ad376 = ad377 := (by injection e377)
                  replace hx377_0 := (HB.out.cell (World.block_lt_of_cell? w _ hx377_0)).trans hx377_0
                  replace p377 := eq_true p377
                  replace q377 := eq_true q377
                  go_wp2_with (first | ((with_reducible refine gate_dst (N := 8) rfl ?_); refine box_event ?hg (N := 8) ?hd (cs := #[.string (⟨#[]⟩ : ByteArray), .int .i64 0, .bool false, .string (⟨#[]⟩ : ByteArray)]) (t := 23) ?hr ?_; (case hd => rfl); (case hg => rfl); (case hr => first | (go_simp; done) | (go_simp; rfl)); intro gb378 hg w11 hbox hb; have n0_ := Aside0.mk (Kd.R_below (Kd.R_elderB (by (with_reducible repeat (first | apply Kd.R_alloc | apply Kd.R_drewN | apply Kd.R_drew)); exact HO_5.out) gb378 (Nat.le_of_eq hg.symm)) hb); have n1_ := Aside0.mk (below_step (by repeat (first | (with_reducible first | exact HB.out | apply below_alloc | apply pw_below_drewN | apply below_drew1) | exact HB.out)) hb); have n2_ := Aside0.mk (hbox); have n3_ := Aside0.mk ((by rw [hg]; exact (below_size (by repeat (first | (with_reducible first | exact HB.out | apply below_alloc | apply pw_below_drewN | apply below_drew1) | exact HB.out))) : w.heap.size ≤ gb378)); have n4_ := Aside0.mk ((by rw [hg]; exact (below_size (by repeat (first | (with_reducible first | exact HB.out | apply below_alloc | apply pw_below_drewN | apply below_drew1) | exact HB.out))) : w.heap.size ≤ gb378)); clear HO_5; clear HB; have HO_5 := n0_; have HB := n1_; have BK378 := n2_; have GW378 := n3_; have GE378 := n4_; clear n0_ n1_ n2_ n3_ n4_; clear hb hbox hg; have hcz12_0 : w11.cell? ⟨gb378, 0, none⟩ = some (.string (⟨#[]⟩ : ByteArray)) := (blk_cell BK378.out 0).trans rfl; have hcz12_1 : w11.cell? ⟨gb378, 1, none⟩ = some (.int .i64 0) := (blk_cell BK378.out 1).trans rfl; have hcz12_2 : w11.cell? ⟨gb378, 2, none⟩ = some (.bool false) := (blk_cell BK378.out 2).trans rfl; have hcz12_3 : w11.cell? ⟨gb378, 3, none⟩ = some (.string (⟨#[]⟩ : ByteArray)) := (blk_cell BK378.out 3).trans rfl; have hfz12_0 := blk_frozen BK378.out 0; have hfz12_1 := blk_frozen BK378.out 1; have hfz12_2 := blk_frozen BK378.out 2; have hfz12_3 := blk_frozen BK378.out 3) | ((with_reducible refine gate_dst (N := 44) rfl ?_); refine Kd.R_lit k23 _ 23 ?hg (N := 44) ?hd (xs := ([(⟨(⟨#[107]⟩ : ByteArray), wrap64 ((wrap64 (x6_1 + (wrap64 (Int.tmod (rd l0 x7_1) 9)))) + 1), ((Int.tmod (rd l0 x7_1) 4) == 0), (⟨#[]⟩ : ByteArray)⟩ : S23)] : List (S23))) (inner := [.string (⟨#[107]⟩ : ByteArray), .int .i64 (wrap64 ((wrap64 (x6_1 + (wrap64 (Int.tmod (rd l0 x7_1) 9)))) + 1)), .bool ((Int.tmod (rd l0 x7_1) 4) == 0), .string (⟨#[]⟩ : ByteArray)]) (ok := fun _ => True) (okp := fun _ => True) ?hr ?hp (fun _ hk => hk) trivial (Below.refl _ _) (Nat.le_refl _) (by simp) ?_; (case hd => rfl); (case hg => rfl); (case hr => first | (go_simp; done) | (go_simp; rfl)); (case hp => exact (Reps.c4 (show Kd.M k23 _ _ _ (⟨(⟨#[107]⟩ : ByteArray), wrap64 ((wrap64 (x6_1 + (wrap64 (Int.tmod (rd l0 x7_1) 9)))) + 1), ((Int.tmod (rd l0 x7_1) 4) == 0), (⟨#[]⟩ : ByteArray)⟩ : S23) [.string (⟨#[107]⟩ : ByteArray), .int .i64 (wrap64 ((wrap64 (x6_1 + (wrap64 (Int.tmod (rd l0 x7_1) 9)))) + 1)), .bool ((Int.tmod (rd l0 x7_1) 4) == 0), .string (⟨#[]⟩ : ByteArray)] from (k23_mkM _ _ _ (⟨(⟨#[107]⟩ : ByteArray), wrap64 ((wrap64 (x6_1 + (wrap64 (Int.tmod (rd l0 x7_1) 9)))) + 1), ((Int.tmod (rd l0 x7_1) 4) == 0), (⟨#[]⟩ : ByteArray)⟩ : S23) )) (Reps.none _ _))); intro v380 w13 ho14 hb hg_ hnew_; clear hg_ hnew_; (first | rw [← Ny379.out] at ho14 | (simp only [Int.reduceToNat] at ho14; rw [← Ny379.out] at ho14)); have n0_ := Aside0.mk (Kd.R_elder' (by (with_reducible repeat (first | apply Kd.R_alloc | apply Kd.R_drewN | apply Kd.R_drew)); exact (Kd.R_mono (Kd.R_far (p := ⟨gb378, 3, none⟩) (Kd.R_far (p := ⟨gb378, 2, none⟩) (Kd.R_far (p := ⟨gb378, 1, none⟩) (Kd.R_far (p := ⟨gb378, 0, none⟩) (Kd.R_mono HO_5.out (fun k_ hk => (⟨hk, hk.2⟩ : _ ∧ k_ ≠ gb378))) (fun _ hk => hk.2) (.string (⟨#[107]⟩ : ByteArray))) (fun _ hk => hk.2) (.int .i64 (wrap64 ((wrap64 (x6_1 + (wrap64 (Int.tmod (rd l0 x7_1) 9)))) + 1)))) (fun _ hk => hk.2) (.bool ((Int.tmod (rd l0 x7_1) 4) == 0))) (fun _ hk => hk.2) (.string (⟨#[]⟩ : ByteArray))) (fun _ h_ => h_.1))) (Kd.R_base ho14) hb); have n1_ := Aside0.mk (Kd.R_lower (Kd.R_newB (Kd.R_new' ho14 (Kd.R_lt (by (with_reducible repeat (first | apply Kd.R_alloc | apply Kd.R_drewN | apply Kd.R_drew)); exact (Kd.R_mono (Kd.R_far (p := ⟨gb378, 3, none⟩) (Kd.R_far (p := ⟨gb378, 2, none⟩) (Kd.R_far (p := ⟨gb378, 1, none⟩) (Kd.R_far (p := ⟨gb378, 0, none⟩) (Kd.R_mono HO_5.out (fun k_ hk => (⟨hk, hk.2⟩ : _ ∧ k_ ≠ gb378))) (fun _ hk => hk.2) (.string (⟨#[107]⟩ : ByteArray))) (fun _ hk => hk.2) (.int .i64 (wrap64 ((wrap64 (x6_1 + (wrap64 (Int.tmod (rd l0 x7_1) 9)))) + 1)))) (fun _ hk => hk.2) (.bool ((Int.tmod (rd l0 x7_1) 4) == 0))) (fun _ hk => hk.2) (.string (⟨#[]⟩ : ByteArray))) (fun _ h_ => h_.1))))) (g := gb378) (o := .cells #[.string (⟨#[107]⟩ : ByteArray), .int .i64 (wrap64 ((wrap64 (x6_1 + (wrap64 (Int.tmod (rd l0 x7_1) 9)))) + 1)), .bool ((Int.tmod (rd l0 x7_1) 4) == 0), .string (⟨#[]⟩ : ByteArray)] 23 (0, 0)) (by (with_reducible repeat (first | refine blk_drewN ?_ _ | refine blk_drew ?_ | refine blk_alloc ?_ _)); refine blk_put (cs := #[.string (⟨#[107]⟩ : ByteArray), .int .i64 (wrap64 ((wrap64 (x6_1 + (wrap64 (Int.tmod (rd l0 x7_1) 9)))) + 1)), .bool ((Int.tmod (rd l0 x7_1) 4) == 0), .string (⟨#[]⟩ : ByteArray)]) ?_ 3 _ rfl; (with_reducible repeat (first | refine blk_drewN ?_ _ | refine blk_drew ?_ | refine blk_alloc ?_ _)); refine blk_put (cs := #[.string (⟨#[107]⟩ : ByteArray), .int .i64 (wrap64 ((wrap64 (x6_1 + (wrap64 (Int.tmod (rd l0 x7_1) 9)))) + 1)), .bool false, .string (⟨#[]⟩ : ByteArray)]) ?_ 2 _ rfl; (with_reducible repeat (first | refine blk_drewN ?_ _ | refine blk_drew ?_ | refine blk_alloc ?_ _)); refine blk_put (cs := #[.string (⟨#[107]⟩ : ByteArray), .int .i64 0, .bool false, .string (⟨#[]⟩ : ByteArray)]) ?_ 1 _ rfl; (with_reducible repeat (first | refine blk_drewN ?_ _ | refine blk_drew ?_ | refine blk_alloc ?_ _)); refine blk_put (cs := #[.string (⟨#[]⟩ : ByteArray), .int .i64 0, .bool false, .string (⟨#[]⟩ : ByteArray)]) ?_ 0 _ rfl; (with_reducible repeat (first | refine blk_drewN ?_ _ | refine blk_drew ?_ | refine blk_alloc ?_ _)); exact BK378.out)) (below_size (by repeat (first | (with_reducible first | exact HB.out | apply below_alloc | apply pw_below_drewN | apply below_drew1 | refine below_set ?_ GE378.out) | exact HB.out)))); have n2_ := Aside0.mk (blk_below (g := gb378) (o := .cells #[.string (⟨#[107]⟩ : ByteArray), .int .i64 (wrap64 ((wrap64 (x6_1 + (wrap64 (Int.tmod (rd l0 x7_1) 9)))) + 1)), .bool ((Int.tmod (rd l0 x7_1) 4) == 0), .string (⟨#[]⟩ : ByteArray)] 23 (0, 0)) (by (with_reducible repeat (first | refine blk_drewN ?_ _ | refine blk_drew ?_ | refine blk_alloc ?_ _)); refine blk_put (cs := #[.string (⟨#[107]⟩ : ByteArray), .int .i64 (wrap64 ((wrap64 (x6_1 + (wrap64 (Int.tmod (rd l0 x7_1) 9)))) + 1)), .bool ((Int.tmod (rd l0 x7_1) 4) == 0), .string (⟨#[]⟩ : ByteArray)]) ?_ 3 _ rfl; (with_reducible repeat (first | refine blk_drewN ?_ _ | refine blk_drew ?_ | refine blk_alloc ?_ _)); refine blk_put (cs := #[.string (⟨#[107]⟩ : ByteArray), .int .i64 (wrap64 ((wrap64 (x6_1 + (wrap64 (Int.tmod (rd l0 x7_1) 9)))) + 1)), .bool false, .string (⟨#[]⟩ : ByteArray)]) ?_ 2 _ rfl; (with_reducible repeat (first | refine blk_drewN ?_ _ | refine blk_drew ?_ | refine blk_alloc ?_ _)); refine blk_put (cs := #[.string (⟨#[107]⟩ : ByteArray), .int .i64 0, .bool false, .string (⟨#[]⟩ : ByteArray)]) ?_ 1 _ rfl; (with_reducible repeat (first | refine blk_drewN ?_ _ | refine blk_drew ?_ | refine blk_alloc ?_ _)); refine blk_put (cs := #[.string (⟨#[]⟩ : ByteArray), .int .i64 0, .bool false, .string (⟨#[]⟩ : ByteArray)]) ?_ 0 _ rfl; (with_reducible repeat (first | refine blk_drewN ?_ _ | refine blk_drew ?_ | refine blk_alloc ?_ _)); exact BK378.out) hb); have n3_ := Aside0.mk (below_step (by repeat (first | (with_reducible first | exact HB.out | apply below_alloc | apply pw_below_drewN | apply below_drew1 | refine below_set ?_ GE378.out) | exact HB.out)) hb); clear HO_5; clear BK378; clear HB; have HO_5 := n0_; have HO381 := n1_; have BK378 := n2_; have HB := n3_; clear n0_ n1_ n2_ n3_; clear hb ho14; obtain ⟨Ao16, co16, eo16⟩ := Kd.R_slice HO_5.out; subst eo16) | ((with_reducible refine gate_builtin (b := .append) (xs := #[.tmp 44, .tmp 45]) rfl ?_); at_builtin; refine Kd.R_append_rows k23 (w0 := w) w.heap.size rfl (.tmp 44) (.tmp 45) 24 23 (.agg #[(.string ⟨#[]⟩), (.int .i64 0), (.bool false), (.string ⟨#[]⟩)]) 48 rfl Try.underlying24 info23 rfl (by decide) (by omega) v380 y379 x5_1 _ _ _ (fun k_ => some k_ ≠ (.slice Ao16 x5_1.length co16 : Value).ownBlock ∧ k_ ≠ gb378) (fun _ => False) rfl rfl ?aO ?aR (fun _ _ h => h) (fun _ h => h.elim) ?aF ?aB ?aS ?aL ?_; (case aR => repeat (first | exact (Kd.R_reads' HO_5.out).2.2 | (with_reducible refine Kd.C_alloc ?_ _) | (with_reducible refine Kd.C_drewN ?_ _) | (with_reducible refine Kd.C_drew ?_))); (case aB => exact (by repeat (first | (with_reducible first | exact HB.out | apply below_alloc | apply pw_below_drewN | apply below_drew1 | refine below_set ?_ GE378.out) | exact HB.out))); (case aF => exact (fun k_ hk => ⟨Kd.fresh' (Kd.R_lt (by (with_reducible repeat (first | apply Kd.R_alloc | apply Kd.R_drewN | apply Kd.R_drew)); exact HO_5.out)) k_ hk, Kd.freshB (g := gb378) (o := .cells #[.string (⟨#[107]⟩ : ByteArray), .int .i64 (wrap64 ((wrap64 (x6_1 + (wrap64 (Int.tmod (rd l0 x7_1) 9)))) + 1)), .bool ((Int.tmod (rd l0 x7_1) 4) == 0), .string (⟨#[]⟩ : ByteArray)] 23 (0, 0)) (by (with_reducible repeat (first | refine blk_drewN ?_ _ | refine blk_drew ?_ | refine blk_alloc ?_ _)); exact BK378.out) k_ hk⟩)); (case aO => exact (by (with_reducible repeat (first | apply Kd.R_alloc | apply Kd.R_drewN | apply Kd.R_drew)); exact Kd.R_mono HO381.out (fun _ hk => ⟨hk.1.2, hk.2⟩))); (case aS => exact (below_size (by repeat (first | (with_reducible first | exact HB.out | apply below_alloc | apply pw_below_drewN | apply below_drew1 | refine below_set ?_ GE378.out) | exact HB.out)))); (case aL => have := LMc10.out; omega); intro v383 w15 ho hb hg hat; rw [← Ny382.out] at ho; have n0_ := Aside0.mk (Kd.R_after (ok := (fun k_ => k_ ≠ gb378)) (by (with_reducible repeat (first | apply Kd.R_alloc | apply Kd.R_drewN | apply Kd.R_drew)); exact Kd.R_mono HO_5.out (fun _ hk => ⟨hk.1.2, hk.2⟩)) hg hat); have n1_ := Aside0.mk (blk_grown (g := gb378) (o := .cells #[.string (⟨#[107]⟩ : ByteArray), .int .i64 (wrap64 ((wrap64 (x6_1 + (wrap64 (Int.tmod (rd l0 x7_1) 9)))) + 1)), .bool ((Int.tmod (rd l0 x7_1) 4) == 0), .string (⟨#[]⟩ : ByteArray)] 23 (0, 0)) (by (with_reducible repeat (first | refine blk_drewN ?_ _ | refine blk_drew ?_ | refine blk_alloc ?_ _)); exact BK378.out) hg (Kd.R_away HO381.out (fun _ hk => hk.2))); have n2_ := Aside0.mk (hb); have n3_ := Aside0.mk (ho); clear HO_5; clear BK378; clear HB; clear HO381; have HO_5 := n0_; have BK378 := n1_; have HB := n2_; have HO384 := n3_; clear n0_ n1_ n2_ n3_; clear ho hb hg hat))
                  go_roundg k1
                  case measure => have := HK1.out; omega
                  case rel => exact ⟨(y382), (wrap64 ((wrap64 (x6_1 + (wrap64 (Int.tmod (rd l0 x7_1) 9)))) + 1)), (wrap64 (x7_1 + 1)), (by first | rfl | (simp; done) | (simp [*]; done)), (by first | rfl | (simp; done) | (simp [*]; done)), H', ⟨by have := HK1.out; omega⟩, ⟨by (with_reducible repeat (first | apply Kd.R_alloc | apply Kd.R_drewN | apply Kd.R_drew)); exact Kd.R_mono HO384.out (fun _ hk => trivial)⟩, ⟨by repeat (first | (with_reducible first | exact HB.out | apply below_alloc | apply pw_below_drewN | apply below_drew1 | refine below_set ?_ GE378.out) | exact HB.out)⟩⟩
                · rw [if_neg c10] at H
                  exact absurd H (by simp)
              · rw [if_neg c9] at H
                exact absurd H (by simp)
            · rw [if_neg c8] at H
              have c8b0 : decide (x7_1 < 20) = false := decide_eq_false c8
              clear c8
              have H' := Aside0.mk H
              clear H
              go_wp2
              go_meet
              case rel => exact ⟨_, (x5_1), H', ⟨by have := HK1.out; first | omega | exact Nat.le_refl _⟩, ⟨by (with_reducible repeat (first | apply Kd.R_alloc | apply Kd.R_drewN | apply Kd.R_drew)); exact HO_5.out⟩, ⟨by repeat (first | (with_reducible first | exact HB.out | apply below_alloc | apply pw_below_drewN | apply below_drew1) | exact HB.out)⟩⟩
          · rw [if_neg c7] at H
            have c7b0 : decide (x7_1 < (l0.length : Int)) = false := decide_eq_false c7
            clear c7
            (first | rw [c7b0] | (simp only [i64_w, i32_w]; rw [c7b0]) | skip)
            have H' := Aside0.mk H
            clear H
            go_wp2
            go_meet
            case rel => exact ⟨_, (x5_1), H', ⟨by have := HK1.out; first | omega | exact Nat.le_refl _⟩, ⟨by (with_reducible repeat (first | apply Kd.R_alloc | apply Kd.R_drewN | apply Kd.R_drew)); exact HO_5.out⟩, ⟨by repeat (first | (with_reducible first | exact HB.out | apply below_alloc | apply pw_below_drewN | apply below_drew1) | exact HB.out)⟩⟩
    case rest =>
      clear HC5
      try clear c1
      try clear p2
      try clear p3
      try clear q3
      try clear hx3
      try clear c4
      try clear c6
      try clear p6
      try clear c7
      try clear c7b0
      try clear c8
      try clear c8b0
      try clear c9
      try clear c9b0
      try clear c10
      try clear hcz12_0
      try clear hcz12_1
      try clear hcz12_2
      try clear hcz12_3
      try clear hfz12_0
      try clear hfz12_1
      try clear hfz12_2
      try clear hfz12_3
      try clear hx376_0
      try clear hx377_0
      try clear p2
      try clear p376
      try clear p377
      try clear q376
      try clear q377
      obtain ⟨kq, x5_4, HA, HJ4, HO_5, HB⟩ := hcut
      cases kq with
      | zero => exact absurd HA.out (by simp [ravelinlaw6_EntryNewest.j1])
      | succ kj4 =>
        have H := HA.out
        clear HA
        simp only [ravelinlaw6_EntryNewest.j1] at H
        obtain ⟨y385, hy385⟩ : ∃ y_ : List (S23), y_ = (([(⟨(⟨#[106]⟩ : ByteArray), 5, false, (⟨#[]⟩ : ByteArray)⟩ : S23)] : List (S23))) := ⟨_, rfl⟩
        replace H : (if y385.length + x5_4.length < 2932031007402 then ((some (y385 ++ x5_4 : List (S23))).bind fun y388 => (if y388.length < 2932031007402 then ((some (y388 ++ [(⟨(⟨#[108]⟩ : ByteArray), 1, false, (⟨#[]⟩ : ByteArray)⟩ : S23)] : List (S23))).bind fun y391 => ((entry_Newest.f kj4 y391 (⟨#[107]⟩ : ByteArray) a1).bind fun bt394 => (ravelinlaw6_EntryNewest.l1 kj4 a1 y391 bt394.2.2.2.2 false (wrap64 ((y391.length : Int) - 1)) bt394.1 bt394.2.1 bt394.2.2.1 bt394.2.2.2.1 (⟨#[]⟩ : ByteArray) 0 false (⟨#[]⟩ : ByteArray)))) else (none))) else (none)) = some r := by first | (rw [hy385]; with_reducible exact H) | (have H2_ := (Option.bind_some _ _).symm.trans H; rw [hy385]; with_reducible exact H2_) | (have H2_ := (Option.bind_some _ _).symm.trans H; with_reducible exact H2_) | with_reducible exact H | (rw [hy385]; exact H) | exact H
        have Ny385 := Aside0.mk hy385
        clear hy385
        by_cases c17 : y385.length + x5_4.length < 2932031007402
        · rw [if_pos c17] at H
          have LMc17 := Aside0.mk c17
          clear c17
          obtain ⟨y388, hy388⟩ : ∃ y_ : List (S23), y_ = (y385 ++ x5_4) := ⟨_, rfl⟩
          replace H : (if y388.length < 2932031007402 then ((some (y388 ++ [(⟨(⟨#[108]⟩ : ByteArray), 1, false, (⟨#[]⟩ : ByteArray)⟩ : S23)] : List (S23))).bind fun y391 => ((entry_Newest.f kj4 y391 (⟨#[107]⟩ : ByteArray) a1).bind fun bt394 => (ravelinlaw6_EntryNewest.l1 kj4 a1 y391 bt394.2.2.2.2 false (wrap64 ((y391.length : Int) - 1)) bt394.1 bt394.2.1 bt394.2.2.1 bt394.2.2.2.1 (⟨#[]⟩ : ByteArray) 0 false (⟨#[]⟩ : ByteArray)))) else (none)) = some r := by first | (rw [hy388]; with_reducible exact H) | (have H2_ := (Option.bind_some _ _).symm.trans H; rw [hy388]; with_reducible exact H2_) | (have H2_ := (Option.bind_some _ _).symm.trans H; with_reducible exact H2_) | with_reducible exact H | (rw [hy388]; exact H) | exact H
          have Ny388 := Aside0.mk hy388
          clear hy388
          by_cases c18 : y388.length < 2932031007402
          · rw [if_pos c18] at H
            have LMc18 := Aside0.mk c18
            clear c18
            obtain ⟨y391, hy391⟩ : ∃ y_ : List (S23), y_ = (y388 ++ [(⟨(⟨#[108]⟩ : ByteArray), 1, false, (⟨#[]⟩ : ByteArray)⟩ : S23)]) := ⟨_, rfl⟩
            replace H : ((entry_Newest.f kj4 y391 (⟨#[107]⟩ : ByteArray) a1).bind fun bt394 => (ravelinlaw6_EntryNewest.l1 kj4 a1 y391 bt394.2.2.2.2 false (wrap64 ((y391.length : Int) - 1)) bt394.1 bt394.2.1 bt394.2.2.1 bt394.2.2.2.1 (⟨#[]⟩ : ByteArray) 0 false (⟨#[]⟩ : ByteArray))) = some r := by first | (rw [hy391]; with_reducible exact H) | (have H2_ := (Option.bind_some _ _).symm.trans H; rw [hy391]; with_reducible exact H2_) | (have H2_ := (Option.bind_some _ _).symm.trans H; with_reducible exact H2_) | with_reducible exact H | (rw [hy391]; exact H) | exact H
            have Ny391 := Aside0.mk hy391
            clear hy391
            replace H := Option.bind_eq_some_iff.mp H
            obtain ⟨⟨t394, t395, t396, t397, t398⟩, A190, H⟩ := H
            replace H : (ravelinlaw6_EntryNewest.l1 kj4 a1 y391 t398 false (wrap64 ((y391.length : Int) - 1)) t394 t395 t396 t397 (⟨#[]⟩ : ByteArray) 0 false (⟨#[]⟩ : ByteArray)) = some r := H
            have A19 := Aside0.mk A190
            clear A190
            have H' := Aside0.mk H
            clear H
            go_wp2_with (first | ((with_reducible refine gate_dst (N := 48) rfl ?_); refine Kd.R_lit k23 _ 23 ?hg (N := 48) ?hd (xs := ([(⟨(⟨#[106]⟩ : ByteArray), 5, false, (⟨#[]⟩ : ByteArray)⟩ : S23)] : List (S23))) (inner := [.string (⟨#[106]⟩ : ByteArray), .int .i64 5, .bool false, .string (⟨#[]⟩ : ByteArray)]) (ok := fun _ => True) (okp := fun _ => True) ?hr ?hp (fun _ hk => hk) trivial (Below.refl _ _) (Nat.le_refl _) (by simp) ?_; (case hd => rfl); (case hg => rfl); (case hr => first | (go_simp; done) | (go_simp; rfl)); (case hp => exact (Reps.c4 (show Kd.M k23 _ _ _ (⟨(⟨#[106]⟩ : ByteArray), 5, false, (⟨#[]⟩ : ByteArray)⟩ : S23) [.string (⟨#[106]⟩ : ByteArray), .int .i64 5, .bool false, .string (⟨#[]⟩ : ByteArray)] from (k23_mkM _ _ _ (⟨(⟨#[106]⟩ : ByteArray), 5, false, (⟨#[]⟩ : ByteArray)⟩ : S23) )) (Reps.none _ _))); intro v386 w20 ho21 hb hg_ hnew_; clear hg_ hnew_; (first | rw [← Ny385.out] at ho21 | (simp only [Int.reduceToNat] at ho21; rw [← Ny385.out] at ho21)); have n0_ := Aside0.mk (Kd.R_elder' (by (with_reducible repeat (first | apply Kd.R_alloc | apply Kd.R_drewN | apply Kd.R_drew)); exact HO_5.out) (Kd.R_base ho21) hb); have n1_ := Aside0.mk (Kd.R_lower (Kd.R_new' ho21 (Kd.R_lt (by (with_reducible repeat (first | apply Kd.R_alloc | apply Kd.R_drewN | apply Kd.R_drew)); exact HO_5.out))) (below_size (by repeat (first | (with_reducible first | exact HB.out | apply below_alloc | apply pw_below_drewN | apply below_drew1) | exact HB.out)))); have n2_ := Aside0.mk (below_step (by repeat (first | (with_reducible first | exact HB.out | apply below_alloc | apply pw_below_drewN | apply below_drew1) | exact HB.out)) hb); clear HO_5; clear HB; have HO_5 := n0_; have HO387 := n1_; have HB := n2_; clear n0_ n1_ n2_; clear hb ho21; obtain ⟨Ao23, co23, eo23⟩ := Kd.R_slice HO_5.out; subst eo23) | ((with_reducible refine gate_builtin (b := .append) (xs := #[.tmp 48, .tmp 49]) rfl ?_); at_builtin; refine Kd.R_append_rows k23 (w0 := w) w.heap.size rfl (.tmp 48) (.tmp 49) 24 23 (.agg #[(.string ⟨#[]⟩), (.int .i64 0), (.bool false), (.string ⟨#[]⟩)]) 48 rfl Try.underlying24 info23 rfl (by decide) (by omega) v386 y385 x5_4 _ _ _ (fun k_ => some k_ ≠ (.slice Ao23 x5_4.length co23 : Value).ownBlock) (fun _ => False) rfl rfl ?aO ?aR (fun _ _ h => h) (fun _ h => h.elim) ?aF ?aB ?aS ?aL ?_; (case aR => repeat (first | exact (Kd.R_reads' HO_5.out).2.2 | (with_reducible refine Kd.C_alloc ?_ _) | (with_reducible refine Kd.C_drewN ?_ _) | (with_reducible refine Kd.C_drew ?_))); (case aB => exact (by repeat (first | (with_reducible first | exact HB.out | apply below_alloc | apply pw_below_drewN | apply below_drew1) | exact HB.out))); (case aF => exact (fun k_ hk => Kd.fresh' (Kd.R_lt (by (with_reducible repeat (first | apply Kd.R_alloc | apply Kd.R_drewN | apply Kd.R_drew)); exact HO_5.out)) k_ hk)); (case aO => exact (by (with_reducible repeat (first | apply Kd.R_alloc | apply Kd.R_drewN | apply Kd.R_drew)); exact Kd.R_mono HO387.out (fun _ hk => hk.2))); (case aS => exact (below_size (by repeat (first | (with_reducible first | exact HB.out | apply below_alloc | apply pw_below_drewN | apply below_drew1) | exact HB.out)))); (case aL => have := LMc17.out; omega); intro v389 w22 ho hb hg hat; rw [← Ny388.out] at ho; have n0_ := Aside0.mk (Kd.R_after (ok := (fun _ => True)) (by (with_reducible repeat (first | apply Kd.R_alloc | apply Kd.R_drewN | apply Kd.R_drew)); exact HO_5.out) hg hat); have n1_ := Aside0.mk (hb); have n2_ := Aside0.mk (ho); clear HO_5; clear HB; clear HO387; have HO_5 := n0_; have HB := n1_; have HO390 := n2_; clear n0_ n1_ n2_; clear ho hb hg hat) | ((with_reducible refine gate_builtin (b := .append) (xs := #[.tmp 50, .tmp 52]) rfl ?_); at_builtin; refine Kd.R_append k23 (w0 := w) w.heap.size rfl (.tmp 50) (.tmp 52) 24 23 (.agg #[(.string ⟨#[]⟩), (.int .i64 0), (.bool false), (.string ⟨#[]⟩)]) 48 rfl Try.underlying24 info23 rfl (by decide) (by omega) v389 y388 (⟨(⟨#[108]⟩ : ByteArray), 1, false, (⟨#[]⟩ : ByteArray)⟩ : S23) [.string (⟨#[108]⟩ : ByteArray), .int .i64 1, .bool false, .string (⟨#[]⟩ : ByteArray)] (fun k_ => some k_ ≠ (.slice Ao23 x5_4.length co23 : Value).ownBlock) (fun _ => False) rfl rfl ?aP (fun _ hk => hk.elim) ?aF ?aO ?aB ?aS ?aL ?_; (case aP => exact k23_mkM _ _ _ (⟨(⟨#[108]⟩ : ByteArray), 1, false, (⟨#[]⟩ : ByteArray)⟩ : S23)); (case aB => exact (by repeat (first | (with_reducible first | exact HB.out | apply below_alloc | apply pw_below_drewN | apply below_drew1) | exact HB.out))); (case aF => exact (fun k_ hk => Kd.fresh' (Kd.R_lt (by (with_reducible repeat (first | apply Kd.R_alloc | apply Kd.R_drewN | apply Kd.R_drew)); exact HO_5.out)) k_ hk)); (case aO => exact (by (with_reducible repeat (first | apply Kd.R_alloc | apply Kd.R_drewN | apply Kd.R_drew)); exact HO390.out)); (case aS => exact (below_size (by repeat (first | (with_reducible first | exact HB.out | apply below_alloc | apply pw_below_drewN | apply below_drew1) | exact HB.out)))); (case aL => have := LMc18.out; omega); intro v392 w24 ho hb hg hat; rw [← Ny391.out] at ho; have n0_ := Aside0.mk (Kd.R_after (ok := (fun _ => True)) (by (with_reducible repeat (first | apply Kd.R_alloc | apply Kd.R_drewN | apply Kd.R_drew)); exact HO_5.out) hg hat); have n1_ := Aside0.mk (hb); have n2_ := Aside0.mk (ho); clear HO_5; clear HB; clear HO390; have HO_5 := n0_; have HB := n1_; have HO393 := n2_; clear n0_ n1_ n2_; clear ho hb hg hat; obtain ⟨Ao25, co25, eo25⟩ := Kd.R_slice HO393.out; subst eo25) | ((with_reducible refine gate_callee (f := 13) rfl ?_); refine goesL_ (some 57) rfl rfl Try.func13 (by kernel_rfl) rfl #[.slice Ao25 y391.length co25, .string (⟨#[107]⟩ : ByteArray), .int .i64 a1] rfl (by (try simp only [List.map_toArray, List.map_cons, List.map_nil]); first | done | rfl | (simp only [List.length_drop, List.length_take]; rfl)) ?_; (with_reducible refine (entry_Newest.calls kj4 _ _ y391 (⟨#[107]⟩ : ByteArray) a1 t394 t395 t396 t397 t398 _ ?side1 ?side2 A19.out).mono ?_); (case side1 => repeat (first | exact (Kd.R_reads' HO393.out).2.2 | (with_reducible refine Kd.C_alloc ?_ _) | (with_reducible refine Kd.C_drewN ?_ _) | (with_reducible refine Kd.C_drew ?_))); (case side2 => exact (Kd.R_reads' HO393.out).2.1); rintro e w26 ⟨rfl, hb⟩; refine ⟨_, rfl, ?_⟩; have n0_ := Aside0.mk (Kd.R_below (by (with_reducible repeat (first | apply Kd.R_alloc | apply Kd.R_drewN | apply Kd.R_drew)); exact HO_5.out) hb); have n1_ := Aside0.mk (Kd.R_below (by (with_reducible repeat (first | apply Kd.R_alloc | apply Kd.R_drewN | apply Kd.R_drew)); exact HO393.out) hb); have n2_ := Aside0.mk (below_step (by repeat (first | (with_reducible first | exact HB.out | apply below_alloc | apply pw_below_drewN | apply below_drew1) | exact HB.out)) hb); clear HO_5; clear HO393; clear HB; have HO_5 := n0_; have HO393 := n1_; have HB := n2_; clear n0_ n1_ n2_; (try clear hb); (try clear hb2); (try clear hk); (try clear hi)) | ((with_reducible refine gate_dst (N := 9) rfl ?_); refine box_event ?hg (N := 9) ?hd (cs := #[.string (⟨#[]⟩ : ByteArray), .int .i64 0, .bool false, .string (⟨#[]⟩ : ByteArray)]) (t := 23) ?hr ?_; (case hd => rfl); (case hg => rfl); (case hr => first | (go_simp; done) | (go_simp; rfl)); intro gb399 hg w27 hbox hb; have n0_ := Aside0.mk (Kd.R_below (Kd.R_elderB (by (with_reducible repeat (first | apply Kd.R_alloc | apply Kd.R_drewN | apply Kd.R_drew)); exact HO_5.out) gb399 (Nat.le_of_eq hg.symm)) hb); have n1_ := Aside0.mk (Kd.R_below (Kd.R_elderB (by (with_reducible repeat (first | apply Kd.R_alloc | apply Kd.R_drewN | apply Kd.R_drew)); exact HO393.out) gb399 (Nat.le_of_eq hg.symm)) hb); have n2_ := Aside0.mk (below_step (by repeat (first | (with_reducible first | exact HB.out | apply below_alloc | apply pw_below_drewN | apply below_drew1) | exact HB.out)) hb); have n3_ := Aside0.mk (hbox); have n4_ := Aside0.mk ((by rw [hg]; exact (below_size (by repeat (first | (with_reducible first | exact HB.out | apply below_alloc | apply pw_below_drewN | apply below_drew1) | exact HB.out))) : w.heap.size ≤ gb399)); have n5_ := Aside0.mk ((by rw [hg]; exact (below_size (by repeat (first | (with_reducible first | exact HB.out | apply below_alloc | apply pw_below_drewN | apply below_drew1) | exact HB.out))) : w.heap.size ≤ gb399)); clear HO_5; clear HO393; clear HB; have HO_5 := n0_; have HO393 := n1_; have HB := n2_; have BK399 := n3_; have GW399 := n4_; have GE399 := n5_; clear n0_ n1_ n2_ n3_ n4_ n5_; clear hb hbox hg; have hcz28_0 : w27.cell? ⟨gb399, 0, none⟩ = some (.string (⟨#[]⟩ : ByteArray)) := (blk_cell BK399.out 0).trans rfl; have hcz28_1 : w27.cell? ⟨gb399, 1, none⟩ = some (.int .i64 0) := (blk_cell BK399.out 1).trans rfl; have hcz28_2 : w27.cell? ⟨gb399, 2, none⟩ = some (.bool false) := (blk_cell BK399.out 2).trans rfl; have hcz28_3 : w27.cell? ⟨gb399, 3, none⟩ = some (.string (⟨#[]⟩ : ByteArray)) := (blk_cell BK399.out 3).trans rfl; have hfz28_0 := blk_frozen BK399.out 0; have hfz28_1 := blk_frozen BK399.out 1; have hfz28_2 := blk_frozen BK399.out 2; have hfz28_3 := blk_frozen BK399.out 3) | ((with_reducible refine gate_dst (N := 11) rfl ?_); refine box_event ?hg (N := 11) ?hd (cs := #[.string (⟨#[]⟩ : ByteArray), .int .i64 0, .bool false, .string (⟨#[]⟩ : ByteArray)]) (t := 23) ?hr ?_; (case hd => rfl); (case hg => rfl); (case hr => first | (go_simp; done) | (go_simp; rfl)); intro gb400 hg w29 hbox hb; have n0_ := Aside0.mk (Kd.R_below (Kd.R_elderB (by (with_reducible repeat (first | apply Kd.R_alloc | apply Kd.R_drewN | apply Kd.R_drew)); exact (Kd.R_mono (Kd.R_far (p := ⟨gb399, 3, none⟩) (Kd.R_far (p := ⟨gb399, 2, none⟩) (Kd.R_far (p := ⟨gb399, 1, none⟩) (Kd.R_far (p := ⟨gb399, 0, none⟩) (Kd.R_mono HO_5.out (fun k_ hk => (⟨hk, hk.2⟩ : _ ∧ k_ ≠ gb399))) (fun _ hk => hk.2) (.string t394)) (fun _ hk => hk.2) (.int .i64 t395)) (fun _ hk => hk.2) (.bool t396)) (fun _ hk => hk.2) (.string t397)) (fun _ h_ => h_.1))) gb400 (Nat.le_of_eq hg.symm)) hb); have n1_ := Aside0.mk (Kd.R_below (Kd.R_elderB (by (with_reducible repeat (first | apply Kd.R_alloc | apply Kd.R_drewN | apply Kd.R_drew)); exact (Kd.R_mono (Kd.R_far (p := ⟨gb399, 3, none⟩) (Kd.R_far (p := ⟨gb399, 2, none⟩) (Kd.R_far (p := ⟨gb399, 1, none⟩) (Kd.R_far (p := ⟨gb399, 0, none⟩) (Kd.R_mono HO393.out (fun k_ hk => (⟨hk, hk.2⟩ : _ ∧ k_ ≠ gb399))) (fun _ hk => hk.2) (.string t394)) (fun _ hk => hk.2) (.int .i64 t395)) (fun _ hk => hk.2) (.bool t396)) (fun _ hk => hk.2) (.string t397)) (fun _ h_ => h_.1))) gb400 (Nat.le_of_eq hg.symm)) hb); have n2_ := Aside0.mk (blk_below (g := gb399) (o := .cells #[.string t394, .int .i64 t395, .bool t396, .string t397] 23 (0, 0)) (by (with_reducible repeat (first | refine blk_drewN ?_ _ | refine blk_drew ?_ | refine blk_alloc ?_ _)); refine blk_put (cs := #[.string t394, .int .i64 t395, .bool t396, .string (⟨#[]⟩ : ByteArray)]) ?_ 3 _ rfl; (with_reducible repeat (first | refine blk_drewN ?_ _ | refine blk_drew ?_ | refine blk_alloc ?_ _)); refine blk_put (cs := #[.string t394, .int .i64 t395, .bool false, .string (⟨#[]⟩ : ByteArray)]) ?_ 2 _ rfl; (with_reducible repeat (first | refine blk_drewN ?_ _ | refine blk_drew ?_ | refine blk_alloc ?_ _)); refine blk_put (cs := #[.string t394, .int .i64 0, .bool false, .string (⟨#[]⟩ : ByteArray)]) ?_ 1 _ rfl; (with_reducible repeat (first | refine blk_drewN ?_ _ | refine blk_drew ?_ | refine blk_alloc ?_ _)); refine blk_put (cs := #[.string (⟨#[]⟩ : ByteArray), .int .i64 0, .bool false, .string (⟨#[]⟩ : ByteArray)]) ?_ 0 _ rfl; (with_reducible repeat (first | refine blk_drewN ?_ _ | refine blk_drew ?_ | refine blk_alloc ?_ _)); exact BK399.out) hb); have n3_ := Aside0.mk (below_step (by repeat (first | (with_reducible first | exact HB.out | apply below_alloc | apply pw_below_drewN | apply below_drew1 | refine below_set ?_ GE399.out) | exact HB.out)) hb); have n4_ := Aside0.mk (hbox); have n5_ := Aside0.mk ((by rw [hg]; exact (below_size (by repeat (first | (with_reducible first | exact HB.out | apply below_alloc | apply pw_below_drewN | apply below_drew1 | refine below_set ?_ GE399.out) | exact HB.out))) : w.heap.size ≤ gb400)); have n6_ := Aside0.mk ((by rw [hg]; exact (below_size (by repeat (first | (with_reducible first | exact HB.out | apply below_alloc | apply pw_below_drewN | apply below_drew1 | refine below_set ?_ GE399.out) | exact HB.out))) : w.heap.size ≤ gb400)); have n7_ := Aside0.mk ((by rw [hg]; exact Nat.ne_of_lt (blk_lt (g := gb399) (o := .cells #[.string t394, .int .i64 t395, .bool t396, .string t397] 23 (0, 0)) (by (with_reducible repeat (first | refine blk_drewN ?_ _ | refine blk_drew ?_ | refine blk_alloc ?_ _)); refine blk_put (cs := #[.string t394, .int .i64 t395, .bool t396, .string (⟨#[]⟩ : ByteArray)]) ?_ 3 _ rfl; (with_reducible repeat (first | refine blk_drewN ?_ _ | refine blk_drew ?_ | refine blk_alloc ?_ _)); refine blk_put (cs := #[.string t394, .int .i64 t395, .bool false, .string (⟨#[]⟩ : ByteArray)]) ?_ 2 _ rfl; (with_reducible repeat (first | refine blk_drewN ?_ _ | refine blk_drew ?_ | refine blk_alloc ?_ _)); refine blk_put (cs := #[.string t394, .int .i64 0, .bool false, .string (⟨#[]⟩ : ByteArray)]) ?_ 1 _ rfl; (with_reducible repeat (first | refine blk_drewN ?_ _ | refine blk_drew ?_ | refine blk_alloc ?_ _)); refine blk_put (cs := #[.string (⟨#[]⟩ : ByteArray), .int .i64 0, .bool false, .string (⟨#[]⟩ : ByteArray)]) ?_ 0 _ rfl; (with_reducible repeat (first | refine blk_drewN ?_ _ | refine blk_drew ?_ | refine blk_alloc ?_ _)); exact BK399.out)) : gb399 ≠ gb400)); have n8_ := Aside0.mk ((by rw [hg]; exact Nat.ne_of_gt (blk_lt (g := gb399) (o := .cells #[.string t394, .int .i64 t395, .bool t396, .string t397] 23 (0, 0)) (by (with_reducible repeat (first | refine blk_drewN ?_ _ | refine blk_drew ?_ | refine blk_alloc ?_ _)); refine blk_put (cs := #[.string t394, .int .i64 t395, .bool t396, .string (⟨#[]⟩ : ByteArray)]) ?_ 3 _ rfl; (with_reducible repeat (first | refine blk_drewN ?_ _ | refine blk_drew ?_ | refine blk_alloc ?_ _)); refine blk_put (cs := #[.string t394, .int .i64 t395, .bool false, .string (⟨#[]⟩ : ByteArray)]) ?_ 2 _ rfl; (with_reducible repeat (first | refine blk_drewN ?_ _ | refine blk_drew ?_ | refine blk_alloc ?_ _)); refine blk_put (cs := #[.string t394, .int .i64 0, .bool false, .string (⟨#[]⟩ : ByteArray)]) ?_ 1 _ rfl; (with_reducible repeat (first | refine blk_drewN ?_ _ | refine blk_drew ?_ | refine blk_alloc ?_ _)); refine blk_put (cs := #[.string (⟨#[]⟩ : ByteArray), .int .i64 0, .bool false, .string (⟨#[]⟩ : ByteArray)]) ?_ 0 _ rfl; (with_reducible repeat (first | refine blk_drewN ?_ _ | refine blk_drew ?_ | refine blk_alloc ?_ _)); exact BK399.out)) : gb400 ≠ gb399)); clear HO_5; clear HO393; clear BK399; clear HB; have HO_5 := n0_; have HO393 := n1_; have BK399 := n2_; have HB := n3_; have BK400 := n4_; have GW400 := n5_; have GE400 := n6_; have NB399_400 := n7_; have NB400_399 := n8_; clear n0_ n1_ n2_ n3_ n4_ n5_ n6_ n7_ n8_; clear hb hbox hg; have hnb30 := NB400_399.out; have hnc30 := NB399_400.out; have hcz31_0 : w29.cell? ⟨gb400, 0, none⟩ = some (.string (⟨#[]⟩ : ByteArray)) := (blk_cell BK400.out 0).trans rfl; have hcz31_1 : w29.cell? ⟨gb400, 1, none⟩ = some (.int .i64 0) := (blk_cell BK400.out 1).trans rfl; have hcz31_2 : w29.cell? ⟨gb400, 2, none⟩ = some (.bool false) := (blk_cell BK400.out 2).trans rfl; have hcz31_3 : w29.cell? ⟨gb400, 3, none⟩ = some (.string (⟨#[]⟩ : ByteArray)) := (blk_cell BK400.out 3).trans rfl; have hfz31_0 := blk_frozen BK400.out 0; have hfz31_1 := blk_frozen BK400.out 1; have hfz31_2 := blk_frozen BK400.out 2; have hfz31_3 := blk_frozen BK400.out 3))
            go_loopg [12, 13] kj4 (fun kq v12 v13 w' => ∃ (x12_2 : Bool) (x13_2 : Int) (x401000_2 : ByteArray) (x401001_2 : Int) (x401002_2 : Bool) (x401003_2 : ByteArray), v12 = .bool x12_2 ∧ v13 = .int .i64 x13_2 ∧ Aside0 (ravelinlaw6_EntryNewest.l1 kq a1 y391 t398 x12_2 x13_2 t394 t395 t396 t397 x401000_2 x401001_2 x401002_2 x401003_2 = some r) ∧ Aside0 (kq ≤ kj4) ∧ Aside0 (Kd.R k23 23 w' w.heap.size (fun k_ => k_ ≠ gb399 ∧ k_ ≠ gb400) (.slice Ao25 y391.length co25) y391) ∧ Aside0 (w'.heap[gb399]? = some (.cells #[.string t394, .int .i64 t395, .bool t396, .string t397] 23 (0, 0))) ∧ Aside0 (w'.heap[gb400]? = some (.cells #[.string x401000_2, .int .i64 x401001_2, .bool x401002_2, .string x401003_2] 23 (0, 0))) ∧ Aside0 (Below w.heap.size w w'))
            case atStart => exact ⟨(false), (wrap64 ((y391.length : Int) - 1)), ((⟨#[]⟩ : ByteArray)), (0), (false), ((⟨#[]⟩ : ByteArray)), (by first | rfl | (simp; done) | (simp [*]; done)), (by first | rfl | (simp; done) | (simp [*]; done)), H', ⟨Nat.le_refl _⟩, ⟨by (with_reducible repeat (first | apply Kd.R_alloc | apply Kd.R_drewN | apply Kd.R_drew)); exact Kd.R_mono (Kd.R_far (p := ⟨gb400, 3, none⟩) (Kd.R_far (p := ⟨gb400, 2, none⟩) (Kd.R_far (p := ⟨gb400, 1, none⟩) (Kd.R_far (p := ⟨gb400, 0, none⟩) (Kd.R_mono HO393.out (fun k_ hk => (⟨hk, hk.2⟩ : _ ∧ k_ ≠ gb400))) (fun _ hk => hk.2) (.string (⟨#[]⟩ : ByteArray))) (fun _ hk => hk.2) (.int .i64 0)) (fun _ hk => hk.2) (.bool false)) (fun _ hk => hk.2) (.string (⟨#[]⟩ : ByteArray))) (fun _ hk => ⟨hk.1.1.2, hk.1.2⟩)⟩, ⟨by (with_reducible repeat (first | refine blk_drewN ?_ _ | refine blk_drew ?_ | refine blk_alloc ?_ _)); refine blk_far ?_ NB399_400.out _; (with_reducible repeat (first | refine blk_drewN ?_ _ | refine blk_drew ?_ | refine blk_alloc ?_ _)); refine blk_far ?_ NB399_400.out _; (with_reducible repeat (first | refine blk_drewN ?_ _ | refine blk_drew ?_ | refine blk_alloc ?_ _)); refine blk_far ?_ NB399_400.out _; (with_reducible repeat (first | refine blk_drewN ?_ _ | refine blk_drew ?_ | refine blk_alloc ?_ _)); refine blk_far ?_ NB399_400.out _; (with_reducible repeat (first | refine blk_drewN ?_ _ | refine blk_drew ?_ | refine blk_alloc ?_ _)); exact BK399.out⟩, ⟨by (with_reducible repeat (first | refine blk_drewN ?_ _ | refine blk_drew ?_ | refine blk_alloc ?_ _)); refine blk_put (cs := #[.string (⟨#[]⟩ : ByteArray), .int .i64 0, .bool false, .string (⟨#[]⟩ : ByteArray)]) ?_ 3 _ rfl; (with_reducible repeat (first | refine blk_drewN ?_ _ | refine blk_drew ?_ | refine blk_alloc ?_ _)); refine blk_put (cs := #[.string (⟨#[]⟩ : ByteArray), .int .i64 0, .bool false, .string (⟨#[]⟩ : ByteArray)]) ?_ 2 _ rfl; (with_reducible repeat (first | refine blk_drewN ?_ _ | refine blk_drew ?_ | refine blk_alloc ?_ _)); refine blk_put (cs := #[.string (⟨#[]⟩ : ByteArray), .int .i64 0, .bool false, .string (⟨#[]⟩ : ByteArray)]) ?_ 1 _ rfl; (with_reducible repeat (first | refine blk_drewN ?_ _ | refine blk_drew ?_ | refine blk_alloc ?_ _)); refine blk_put (cs := #[.string (⟨#[]⟩ : ByteArray), .int .i64 0, .bool false, .string (⟨#[]⟩ : ByteArray)]) ?_ 0 _ rfl; (with_reducible repeat (first | refine blk_drewN ?_ _ | refine blk_drew ?_ | refine blk_alloc ?_ _)); exact BK400.out⟩, ⟨by repeat (first | (with_reducible first | exact HB.out | apply below_alloc | apply pw_below_drewN | apply below_drew1 | refine below_set ?_ GE399.out | refine below_set ?_ GE400.out) | exact HB.out)⟩⟩
            case round =>
              clear H'
              try clear c1
              try clear p2
              try clear c3
              try clear p3
              try clear q3
              try clear hx3
              try clear c4
              try clear c6
              try clear p6
              try clear c7
              try clear c7b0
              try clear c8
              try clear c8b0
              try clear c9
              try clear c9b0
              try clear c10
              try clear c13
              try clear c17
              try clear c18
              try clear c30
              try clear hcz12_0
              try clear hcz12_1
              try clear hcz12_2
              try clear hcz12_3
              try clear hcz28_0
              try clear hcz28_1
              try clear hcz28_2
              try clear hcz28_3
              try clear hcz31_0
              try clear hcz31_1
              try clear hcz31_2
              try clear hcz31_3
              try clear hfz12_0
              try clear hfz12_1
              try clear hfz12_2
              try clear hfz12_3
              try clear hfz28_0
              try clear hfz28_1
              try clear hfz28_2
              try clear hfz28_3
              try clear hfz31_0
              try clear hfz31_1
              try clear hfz31_2
              try clear hfz31_3
              try clear hx376_0
              try clear hx377_0
              try clear p2
              try clear p3
              try clear p376
              try clear p377
              try clear p6
              try clear q3
              try clear q376
              try clear q377
              obtain ⟨x12_2, x13_2, x401000_2, x401001_2, x401002_2, x401003_2, rfl, rfl, HA, HK2, HO_5, BK399, BK400, HB⟩ := hrel
              cases gk with
              | zero => exact absurd HA.out (by simp [ravelinlaw6_EntryNewest.l1])
              | succ k2 =>
                have H := HA.out
                clear HA
                simp only [ravelinlaw6_EntryNewest.l1] at H
                by_cases c32 : x13_2 ≥ 0
                · rw [if_pos c32] at H
                  have c32b0 : decide (0 ≤ x13_2) = true := decide_eq_true c32
                  clear c32
                  by_cases c33 : 0 ≤ x13_2
                  · rw [if_pos c33] at H
                    have c33b0 : decide (0 ≤ x13_2) = true := decide_eq_true c33
                    clear c33
                    by_cases c34 : x13_2 < (y391.length : Int)
                    · rw [if_pos c34] at H
                      have c34b0 : decide (x13_2 < (y391.length : Int)) = true := decide_eq_true c34
                      clear c34
                      by_cases c35 : ((rd_T23 y391 x13_2).f0).toList = ([107] : List UInt8)
                      · rw [if_pos c35] at H
                        have c35b0 : (((rd_T23 y391 x13_2).f0).toList == ([107] : List UInt8)) = true := beq_iff_eq.mpr c35
                        have c35b1 : (((rd_T23 y391 x13_2).f0).toList != ([107] : List UInt8)) = false := bne_eq_false_iff_eq.mpr c35
                        clear c35
                        by_cases c36 : ((rd_T23 y391 x13_2).f1) ≤ a1
                        · rw [if_pos c36] at H
                          have c36b0 : decide (((rd_T23 y391 x13_2).f1) ≤ a1) = true := decide_eq_true c36
                          clear c36
                          have H' := Aside0.mk H
                          clear H
                          have p401 : 0 ≤ (x13_2 : Int) := of_decide_eq_true (by first | (with_reducible assumption) | assumption)
                          have q401 : x13_2 < (y391.length : Int) := of_decide_eq_true (by first | (with_reducible assumption) | assumption)
                          obtain ⟨ad401, e401, hx401_0, hx401_1, hx401_2, hx401_3⟩ := at_T23 (Kd.R_reads' HO_5.out).2.2 x13_2 p401 q401
                          cases e401
                          replace p401 := eq_true p401
                          replace q401 := eq_true q401
                          have p402 : 0 ≤ (x13_2 : Int) := of_decide_eq_true (by first | (with_reducible assumption) | assumption)
                          have q402 : x13_2 < (y391.length : Int) := of_decide_eq_true (by first | (with_reducible assumption) | assumption)
                          obtain ⟨ad402, e402, hx402_0, hx402_1, hx402_2, hx402_3⟩ := at_T23 (Kd.R_reads' HO_5.out).2.2 x13_2 p402 q402
                          obtain rfl : ad401 = ad402 := (by injection e402)
                          replace p402 := eq_true p402
                          replace q402 := eq_true q402
                          have p403 : 0 ≤ (x13_2 : Int) := of_decide_eq_true (by first | (with_reducible assumption) | assumption)
                          have q403 : x13_2 < (y391.length : Int) := of_decide_eq_true (by first | (with_reducible assumption) | assumption)
                          obtain ⟨ad403, e403, hx403_0, hx403_1, hx403_2, hx403_3⟩ := at_T23 (Kd.R_reads' HO_5.out).2.2 x13_2 p403 q403
                          obtain rfl : ad401 = ad403 := (by injection e403)
                          replace p403 := eq_true p403
                          replace q403 := eq_true q403
                          have hnb37 := NB400_399.out
                          have hnc37 := NB399_400.out
                          have hcz38_0 : wr.cell? ⟨gb400, 0, none⟩ = some (.string x401000_2) := (blk_cell BK400.out 0).trans rfl
                          have hcz38_1 : wr.cell? ⟨gb400, 1, none⟩ = some (.int .i64 x401001_2) := (blk_cell BK400.out 1).trans rfl
                          have hcz38_2 : wr.cell? ⟨gb400, 2, none⟩ = some (.bool x401002_2) := (blk_cell BK400.out 2).trans rfl
                          have hcz38_3 : wr.cell? ⟨gb400, 3, none⟩ = some (.string x401003_2) := (blk_cell BK400.out 3).trans rfl
                          have hfz38_0 := blk_frozen BK400.out 0
                          have hfz38_1 := blk_frozen BK400.out 1
                          have hfz38_2 := blk_frozen BK400.out 2
                          have hfz38_3 := blk_frozen BK400.out 3
                          go_wp2
                          go_roundg k2
                          case measure => have := HJ4.out; have := HK2.out; omega
                          case rel => exact ⟨(true), (wrap64 (x13_2 - 1)), ((rd_T23 y391 x13_2).f0), ((rd_T23 y391 x13_2).f1), ((rd_T23 y391 x13_2).f2), ((rd_T23 y391 x13_2).f3), (by first | rfl | (simp; done) | (simp [*]; done)), (by first | rfl | (simp; done) | (simp [*]; done)), H', ⟨by have := HJ4.out; have := HK2.out; omega⟩, ⟨by (with_reducible repeat (first | apply Kd.R_alloc | apply Kd.R_drewN | apply Kd.R_drew)); exact Kd.R_mono (Kd.R_far (p := ⟨gb400, 3, none⟩) (Kd.R_far (p := ⟨gb400, 2, none⟩) (Kd.R_far (p := ⟨gb400, 1, none⟩) (Kd.R_far (p := ⟨gb400, 0, none⟩) (Kd.R_mono HO_5.out (fun k_ hk => (⟨hk, hk.2⟩ : _ ∧ k_ ≠ gb400))) (fun _ hk => hk.2) (.string ((rd_T23 y391 x13_2).f0))) (fun _ hk => hk.2) (.int .i64 ((rd_T23 y391 x13_2).f1))) (fun _ hk => hk.2) (.bool ((rd_T23 y391 x13_2).f2))) (fun _ hk => hk.2) (.string ((rd_T23 y391 x13_2).f3))) (fun _ hk => ⟨hk.1.1, hk.1.2⟩)⟩, ⟨by (with_reducible repeat (first | refine blk_drewN ?_ _ | refine blk_drew ?_ | refine blk_alloc ?_ _)); refine blk_far ?_ NB399_400.out _; (with_reducible repeat (first | refine blk_drewN ?_ _ | refine blk_drew ?_ | refine blk_alloc ?_ _)); refine blk_far ?_ NB399_400.out _; (with_reducible repeat (first | refine blk_drewN ?_ _ | refine blk_drew ?_ | refine blk_alloc ?_ _)); refine blk_far ?_ NB399_400.out _; (with_reducible repeat (first | refine blk_drewN ?_ _ | refine blk_drew ?_ | refine blk_alloc ?_ _)); refine blk_far ?_ NB399_400.out _; (with_reducible repeat (first | refine blk_drewN ?_ _ | refine blk_drew ?_ | refine blk_alloc ?_ _)); exact BK399.out⟩, ⟨by (with_reducible repeat (first | refine blk_drewN ?_ _ | refine blk_drew ?_ | refine blk_alloc ?_ _)); refine blk_put (cs := #[.string ((rd_T23 y391 x13_2).f0), .int .i64 ((rd_T23 y391 x13_2).f1), .bool ((rd_T23 y391 x13_2).f2), .string x401003_2]) ?_ 3 _ rfl; (with_reducible repeat (first | refine blk_drewN ?_ _ | refine blk_drew ?_ | refine blk_alloc ?_ _)); refine blk_put (cs := #[.string ((rd_T23 y391 x13_2).f0), .int .i64 ((rd_T23 y391 x13_2).f1), .bool x401002_2, .string x401003_2]) ?_ 2 _ rfl; (with_reducible repeat (first | refine blk_drewN ?_ _ | refine blk_drew ?_ | refine blk_alloc ?_ _)); refine blk_put (cs := #[.string ((rd_T23 y391 x13_2).f0), .int .i64 x401001_2, .bool x401002_2, .string x401003_2]) ?_ 1 _ rfl; (with_reducible repeat (first | refine blk_drewN ?_ _ | refine blk_drew ?_ | refine blk_alloc ?_ _)); refine blk_put (cs := #[.string x401000_2, .int .i64 x401001_2, .bool x401002_2, .string x401003_2]) ?_ 0 _ rfl; (with_reducible repeat (first | refine blk_drewN ?_ _ | refine blk_drew ?_ | refine blk_alloc ?_ _)); exact BK400.out⟩, ⟨by repeat (first | (with_reducible first | exact HB.out | apply below_alloc | apply pw_below_drewN | apply below_drew1 | refine below_set ?_ GE399.out | refine below_set ?_ GE400.out) | exact HB.out)⟩⟩
                        · rw [if_neg c36] at H
                          have c36b0 : decide (((rd_T23 y391 x13_2).f1) ≤ a1) = false := decide_eq_false c36
                          clear c36
                          have H' := Aside0.mk H
                          clear H
                          have p401 : 0 ≤ (x13_2 : Int) := of_decide_eq_true (by first | (with_reducible assumption) | assumption)
                          have q401 : x13_2 < (y391.length : Int) := of_decide_eq_true (by first | (with_reducible assumption) | assumption)
                          obtain ⟨ad401, e401, hx401_0, hx401_1, hx401_2, hx401_3⟩ := at_T23 (Kd.R_reads' HO_5.out).2.2 x13_2 p401 q401
                          cases e401
                          replace p401 := eq_true p401
                          replace q401 := eq_true q401
                          have p402 : 0 ≤ (x13_2 : Int) := of_decide_eq_true (by first | (with_reducible assumption) | assumption)
                          have q402 : x13_2 < (y391.length : Int) := of_decide_eq_true (by first | (with_reducible assumption) | assumption)
                          obtain ⟨ad402, e402, hx402_0, hx402_1, hx402_2, hx402_3⟩ := at_T23 (Kd.R_reads' HO_5.out).2.2 x13_2 p402 q402
                          obtain rfl : ad401 = ad402 := (by injection e402)
                          replace p402 := eq_true p402
                          replace q402 := eq_true q402
                          go_wp2
                          go_roundg k2
                          case measure => have := HJ4.out; have := HK2.out; omega
                          case rel => exact ⟨(x12_2), (wrap64 (x13_2 - 1)), (x401000_2), (x401001_2), (x401002_2), (x401003_2), (by first | rfl | (simp; done) | (simp [*]; done)), (by first | rfl | (simp; done) | (simp [*]; done)), H', ⟨by have := HJ4.out; have := HK2.out; omega⟩, ⟨by (with_reducible repeat (first | apply Kd.R_alloc | apply Kd.R_drewN | apply Kd.R_drew)); exact HO_5.out⟩, ⟨by (with_reducible repeat (first | refine blk_drewN ?_ _ | refine blk_drew ?_ | refine blk_alloc ?_ _)); exact BK399.out⟩, ⟨by (with_reducible repeat (first | refine blk_drewN ?_ _ | refine blk_drew ?_ | refine blk_alloc ?_ _)); exact BK400.out⟩, ⟨by repeat (first | (with_reducible first | exact HB.out | apply below_alloc | apply pw_below_drewN | apply below_drew1 | refine below_set ?_ GE399.out | refine below_set ?_ GE400.out) | exact HB.out)⟩⟩
                      · rw [if_neg c35] at H
                        have c35b0 : (((rd_T23 y391 x13_2).f0).toList == ([107] : List UInt8)) = false := beq_eq_false_iff_ne.mpr c35
                        have c35b1 : (((rd_T23 y391 x13_2).f0).toList != ([107] : List UInt8)) = true := bne_iff_ne.mpr c35
                        have H' := Aside0.mk H
                        clear H
                        have p401 : 0 ≤ (x13_2 : Int) := of_decide_eq_true (by first | (with_reducible assumption) | assumption)
                        have q401 : x13_2 < (y391.length : Int) := of_decide_eq_true (by first | (with_reducible assumption) | assumption)
                        obtain ⟨ad401, e401, hx401_0, hx401_1, hx401_2, hx401_3⟩ := at_T23 (Kd.R_reads' HO_5.out).2.2 x13_2 p401 q401
                        cases e401
                        replace p401 := eq_true p401
                        replace q401 := eq_true q401
                        go_wp2
                        go_roundg k2
                        case measure => have := HJ4.out; have := HK2.out; omega
                        case rel => exact ⟨(x12_2), (wrap64 (x13_2 - 1)), (x401000_2), (x401001_2), (x401002_2), (x401003_2), (by first | rfl | (simp; done) | (simp [*]; done)), (by first | rfl | (simp; done) | (simp [*]; done)), H', ⟨by have := HJ4.out; have := HK2.out; omega⟩, ⟨by (with_reducible repeat (first | apply Kd.R_alloc | apply Kd.R_drewN | apply Kd.R_drew)); exact HO_5.out⟩, ⟨by (with_reducible repeat (first | refine blk_drewN ?_ _ | refine blk_drew ?_ | refine blk_alloc ?_ _)); exact BK399.out⟩, ⟨by (with_reducible repeat (first | refine blk_drewN ?_ _ | refine blk_drew ?_ | refine blk_alloc ?_ _)); exact BK400.out⟩, ⟨by repeat (first | (with_reducible first | exact HB.out | apply below_alloc | apply pw_below_drewN | apply below_drew1 | refine below_set ?_ GE399.out | refine below_set ?_ GE400.out) | exact HB.out)⟩⟩
                    · rw [if_neg c34] at H
                      exact absurd H (by simp)
                  · rw [if_neg c33] at H
                    exact absurd H (by simp)
                · rw [if_neg c32] at H
                  have c32b0 : decide (0 ≤ x13_2) = false := decide_eq_false c32
                  clear c32
                  replace H := Option.bind_eq_some_iff.mp H
                  obtain ⟨t404, A390, H⟩ := H
                  replace H : (if t404 = true then (if (t398 == x12_2) = true then (some (t394.toList == x401000_2.toList && (t395 == x401001_2 && (t396 == x401002_2 && (t397.toList == x401003_2.toList))))) else (some false)) else (some false)) = some r := H
                  have A39 := Aside0.mk A390
                  clear A390
                  by_cases c40 : t404 = true
                  · subst c40
                    have H1 : (if (t398 == x12_2) = true then (some (t394.toList == x401000_2.toList && (t395 == x401001_2 && (t396 == x401002_2 && (t397.toList == x401003_2.toList))))) else (some false)) = some r := by rw [if_pos rfl] at H; exact H
                    clear H
                    have H := H1
                    clear H1
                    by_cases c41 : (t398 == x12_2) = true
                    · rw [if_pos c41] at H
                      have c41b0 : (t398 == x12_2) = true := c41
                      (try (have c41b1 : decide (t398 = x12_2) = true := by simpa using c41))
                      (try (have c41b2 : (t398 == x12_2) = true := by simpa using c41))
                      clear c41
                      obtain rfl := Option.some.inj H
                      go_wp2_with (first | ((with_reducible refine gate_callee (f := 21) rfl ?_); refine goesL_ (some 88) rfl rfl Try.func21 (by kernel_rfl) rfl #[.slice Ao25 y391.length co25] rfl (by (try simp only [List.map_toArray, List.map_cons, List.map_nil]); first | done | rfl | (simp only [List.length_drop, List.length_take]; rfl)) ?_; (with_reducible refine (entry_Sorted.calls k2 _ _ y391 true _ ?side1 ?side2 A39.out).mono ?_); (case side1 => repeat (first | exact (Kd.R_reads' HO_5.out).2.2 | (with_reducible refine Kd.C_alloc ?_ _) | (with_reducible refine Kd.C_drewN ?_ _) | (with_reducible refine Kd.C_drew ?_))); (case side2 => exact (Kd.R_reads' HO_5.out).2.1); rintro e w42 ⟨rfl, hb⟩; refine ⟨_, rfl, ?_⟩; have n0_ := Aside0.mk (Kd.R_below (by (with_reducible repeat (first | apply Kd.R_alloc | apply Kd.R_drewN | apply Kd.R_drew)); exact HO_5.out) hb); have n1_ := Aside0.mk (blk_below (g := gb399) (o := .cells #[.string t394, .int .i64 t395, .bool t396, .string t397] 23 (0, 0)) (by (with_reducible repeat (first | refine blk_drewN ?_ _ | refine blk_drew ?_ | refine blk_alloc ?_ _)); exact BK399.out) hb); have n2_ := Aside0.mk (blk_below (g := gb400) (o := .cells #[.string x401000_2, .int .i64 x401001_2, .bool x401002_2, .string x401003_2] 23 (0, 0)) (by (with_reducible repeat (first | refine blk_drewN ?_ _ | refine blk_drew ?_ | refine blk_alloc ?_ _)); exact BK400.out) hb); have n3_ := Aside0.mk (below_step (by repeat (first | (with_reducible first | exact HB.out | apply below_alloc | apply pw_below_drewN | apply below_drew1 | refine below_set ?_ GE399.out | refine below_set ?_ GE400.out) | exact HB.out)) hb); clear HO_5; clear BK399; clear BK400; clear HB; have HO_5 := n0_; have BK399 := n1_; have BK400 := n2_; have HB := n3_; clear n0_ n1_ n2_ n3_; (try clear hb); (try clear hb2); (try clear hk); (try clear hi); have hnb43 := NB399_400.out; have hnc43 := NB400_399.out; have hcz44_0 : w42.cell? ⟨gb399, 0, none⟩ = some (.string t394) := (blk_cell BK399.out 0).trans rfl; have hcz44_1 : w42.cell? ⟨gb399, 1, none⟩ = some (.int .i64 t395) := (blk_cell BK399.out 1).trans rfl; have hcz44_2 : w42.cell? ⟨gb399, 2, none⟩ = some (.bool t396) := (blk_cell BK399.out 2).trans rfl; have hcz44_3 : w42.cell? ⟨gb399, 3, none⟩ = some (.string t397) := (blk_cell BK399.out 3).trans rfl; have hfz44_0 := blk_frozen BK399.out 0; have hfz44_1 := blk_frozen BK399.out 1; have hfz44_2 := blk_frozen BK399.out 2; have hfz44_3 := blk_frozen BK399.out 3; have hcz45_0 : w42.cell? ⟨gb400, 0, none⟩ = some (.string x401000_2) := (blk_cell BK400.out 0).trans rfl; have hcz45_1 : w42.cell? ⟨gb400, 1, none⟩ = some (.int .i64 x401001_2) := (blk_cell BK400.out 1).trans rfl; have hcz45_2 : w42.cell? ⟨gb400, 2, none⟩ = some (.bool x401002_2) := (blk_cell BK400.out 2).trans rfl; have hcz45_3 : w42.cell? ⟨gb400, 3, none⟩ = some (.string x401003_2) := (blk_cell BK400.out 3).trans rfl; have hfz45_0 := blk_frozen BK400.out 0; have hfz45_1 := blk_frozen BK400.out 1; have hfz45_2 := blk_frozen BK400.out 2; have hfz45_3 := blk_frozen BK400.out 3))
                      go_ret
                      exact ⟨by first | rfl | (simp [errW_none, errW_some] <;> rfl) | (simp [*, errW_none, errW_some] <;> rfl), by repeat (first | (with_reducible first | exact HB.out | apply below_alloc | apply pw_below_drewN | apply below_drew1 | refine below_set ?_ GE399.out | refine below_set ?_ GE400.out) | exact HB.out)⟩
                    · rw [if_neg c41] at H
                      have c41b0 : (t398 == x12_2) = false := by simpa using c41
                      (try (have c41b1 : decide (t398 = x12_2) = false := by simpa using c41))
                      (try (have c41b2 : (t398 == x12_2) = false := by simpa using c41))
                      (try (have c41b3 : ¬ (t398 = x12_2) := by simpa using c41))
                      clear c41
                      exact absurd ((Option.some.inj H).trans HR_.out) (by decide)
                  · replace c40 := Bool.eq_false_iff.mpr c40
                    subst c40
                    have H1 : (some false) = some r := by rw [if_neg (show ¬ (false = true) by decide)] at H; exact H
                    clear H
                    have H := H1
                    clear H1
                    exact absurd ((Option.some.inj H).trans HR_.out) (by decide)
          · rw [if_neg c18] at H
            exact absurd H (by simp)
        · rw [if_neg c17] at H
          exact absurd H (by simp)
  · replace c4 := Bool.eq_false_iff.mpr c4
    subst c4
    have H1 : (some false) = some r := by rw [if_neg (show ¬ (false = true) by decide)] at H; exact H
    clear H
    have H := H1
    clear H1
    exact absurd ((Option.some.inj H).trans HR_.out) (by decide)

/-- THE ONE PURE STATEMENT of ravelinlaw6_EntryNewest: yours. -/
def ravelinlaw6_EntryNewest.Pure : Prop := ∀ (l0 : List Int) (a1 : Int), l0.length ≤ maxLen → l0.length * 1 ≤ 140737488351232 → (∀ x ∈ l0, (Lit.int .u8 x).wf = true) → (Lit.int .i64 a1).wf = true → ∃ k, ravelinlaw6_EntryNewest.f k l0 a1 = some true
theorem ravelinlaw6_EntryNewest.walk (P : ravelinlaw6_EntryNewest.Pure) (a0 : Option Addr) (len0 cap0 : Nat) (z0 : List Int) (a1 : Int) (w : World) (w0 : (a0 = none ∧ len0 = 0 ∧ cap0 = 0 ∧ z0 = []) ∨ ∃ x, a0 = some x ∧ len0 ≤ cap0 ∧ cap0 ≤ maxLen ∧ z0.length = cap0 ∧ (∀ i, i < z0.length → w.cell? (x.add i) = some (.int .u8 (z0.getD i 0))) ∧ ∀ n ∈ z0, (Lit.int .u8 n).wf = true) (y0 : len0 * 1 ≤ 140737488351232) (w1 : (Lit.int .i64 a1).wf = true) :
    Calls Try.prog 6 #[.slice a0 len0 cap0, .int .i64 a1] w fun e w' => e = .returned (.bool true) ∧ Below w.heap.size w w' := by
  obtain ⟨l0, rfl, hr0, hm0, hw0, hc0⟩ := ReadsInt.ofRowC w0
  obtain ⟨k, h⟩ := P l0 a1 hm0 y0 hw0 w1
  refine (ravelinlaw6_EntryNewest.calls k _ _ l0 a1 true w (Kd.C_of_reads (d := (0 : Int)) (h1 := fun _ => rfl) hr0) hc0 h rfl).mono ?_
  rintro e w' ⟨rfl, hd⟩
  exact ⟨rfl, hd⟩

end Go.Proofs.Ytggmgenofmfdpaa.P
