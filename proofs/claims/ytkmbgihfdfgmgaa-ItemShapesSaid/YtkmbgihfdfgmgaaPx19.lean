-- Printed by a changed copy of the kit's printer (wip/tools/ext.py); labels and more
import Derived.Test.YtkmbgihfdfgmgaaM0
import Derived.Test.YtkmbgihfdfgmgaaM1
import Derived.Test.YtkmbgihfdfgmgaaM3
import Derived.Test.YtkmbgihfdfgmgaaM8
namespace Go.Proofs.Ytkmbgihfdfgmgaa.P
open Go.RowKit Go.Proofs.YtkmbgihfdfgmgaaW.PrintWords Go.Proofs.YtkmbgihfdfgmgaaW.PrintLast Go.Proofs.YtkmbgihfdfgmgaaW.PrintMore
attribute [local go_sem] max2_int min2_int max_two min_two max_three min_three max_four min_four   -- for this text's walks alone
attribute [local go_sem high] string_leq string_geq string_gtr
set_option linter.unusedVariables false
set_option linter.unusedSimpArgs false

/-! ### ravelinlaw18_ItemShapes: function 5 -/
mutual
def ravelinlaw18_ItemShapes.l0 : Nat → Int → Int → Int → Bool → Int → Int → Int → Int → Int → Int → Bool → List (S39) → Option (Bool)
  | 0, _, _, _, _, _, _, _, _, _, _, _, _ => none
  | k + 1, x0, x1, x2, x3, x5, x14, x15, x449000, x449001, x449002, x449003, x449004 => if x15 < x14 then (if x449004.length < 3518437208883 then (ravelinlaw18_ItemShapes.l0 k x0 x1 x2 x3 x5 x14 (wrap64 (x15 + 1)) x449000 x449001 x449002 x449003 (x449004 ++ [(⟨strOfNums (([(wrap64 (97 + x15)) % 256] : List Int)), false, (⟨#[118]⟩ : ByteArray)⟩ : S39)])) else (none)) else (if x0 ≥ 0 then (if x0 < 6 then (if x1 ≥ 1 then (if x1 ≤ 1000000 then (if x2 ≥ 0 then (if x2 ≤ 1000000 then (if x3 = true then (if x14 = 0 then (ravelinlaw18_ItemShapes.j1 k x0 x1 x2 x5 true x449000 x449001 x449002 x449003 x449004) else (ravelinlaw18_ItemShapes.j1 k x0 x1 x2 x5 false x449000 x449001 x449002 x449003 x449004)) else (if x14 ≥ 1 then (ravelinlaw18_ItemShapes.j1 k x0 x1 x2 x5 (decide (x14 ≤ 8)) x449000 x449001 x449002 x449003 x449004) else (ravelinlaw18_ItemShapes.j1 k x0 x1 x2 x5 false x449000 x449001 x449002 x449003 x449004))) else (ravelinlaw18_ItemShapes.j1 k x0 x1 x2 x5 false x449000 x449001 x449002 x449003 x449004)) else (ravelinlaw18_ItemShapes.j1 k x0 x1 x2 x5 false x449000 x449001 x449002 x449003 x449004)) else (ravelinlaw18_ItemShapes.j1 k x0 x1 x2 x5 false x449000 x449001 x449002 x449003 x449004)) else (ravelinlaw18_ItemShapes.j1 k x0 x1 x2 x5 false x449000 x449001 x449002 x449003 x449004)) else (ravelinlaw18_ItemShapes.j1 k x0 x1 x2 x5 false x449000 x449001 x449002 x449003 x449004)) else (ravelinlaw18_ItemShapes.j1 k x0 x1 x2 x5 false x449000 x449001 x449002 x449003 x449004))
def ravelinlaw18_ItemShapes.j1 : Nat → Int → Int → Int → Int → Bool → Int → Int → Int → Bool → List (S39) → Option (Bool)
  | 0, _, _, _, _, _, _, _, _, _, _ => none
  | k + 1, x0, x1, x2, x5, x16, x449000, x449001, x449002, x449003, x449004 => if 0 ≤ (wrap64 (Int.tmod x5 16)) then (if (wrap64 (Int.tmod x5 16) : Int).toNat ≤ 281474976710656 then ((some (([(⟨strOfNums (List.replicate (wrap64 (Int.tmod x5 16) : Int).toNat 0), false, (⟨#[]⟩ : ByteArray)⟩ : S39)] : List (S39)) : List (S39))).bind fun y459 => (if x0 ≥ 0 then (if x0 < 6 then (if x1 ≥ 1 then (if x1 ≤ 1000000 then (if x2 ≥ 0 then (if x2 ≤ 1000000 then (if (wrap64 (Int.tmod x5 16)) ≥ 1 then (ravelinlaw18_ItemShapes.j2 k x16 (decide ((wrap64 (Int.tmod x5 16)) ≤ 12)) x449000 x449001 x449002 x449003 x449004 x449000 x449001 x449002 false y459) else (ravelinlaw18_ItemShapes.j2 k x16 false x449000 x449001 x449002 x449003 x449004 x449000 x449001 x449002 false y459)) else (ravelinlaw18_ItemShapes.j2 k x16 false x449000 x449001 x449002 x449003 x449004 x449000 x449001 x449002 false y459)) else (ravelinlaw18_ItemShapes.j2 k x16 false x449000 x449001 x449002 x449003 x449004 x449000 x449001 x449002 false y459)) else (ravelinlaw18_ItemShapes.j2 k x16 false x449000 x449001 x449002 x449003 x449004 x449000 x449001 x449002 false y459)) else (ravelinlaw18_ItemShapes.j2 k x16 false x449000 x449001 x449002 x449003 x449004 x449000 x449001 x449002 false y459)) else (ravelinlaw18_ItemShapes.j2 k x16 false x449000 x449001 x449002 x449003 x449004 x449000 x449001 x449002 false y459)) else (ravelinlaw18_ItemShapes.j2 k x16 false x449000 x449001 x449002 x449003 x449004 x449000 x449001 x449002 false y459))) else (none)) else (none)
def ravelinlaw18_ItemShapes.j2 : Nat → Bool → Bool → Int → Int → Int → Bool → List (S39) → Int → Int → Int → Bool → List (S39) → Option (Bool)
  | 0, _, _, _, _, _, _, _, _, _, _, _, _ => none
  | k + 1, x16, x19, x449000, x449001, x449002, x449003, x449004, x456000, x456001, x456002, x456003, x456004 => (item_Bytes.f k x449000 x449001 x449002 x449003 x449004).bind fun bt462 => ((item_Is.f k x449000 x449001 x449002 x449003 x449004).bind fun t464 => (if (t464 == x16) = true then (if ((bt462.2 == 0) == x16) = true then ((item_Is.f k x456000 x456001 x456002 x456003 x456004).bind fun t465 => (some (t465 == x19))) else (some false)) else (some false)))
end
def ravelinlaw18_ItemShapes.f (k : Nat) (a0 : Int) (a1 : Int) (a2 : Int) (a3 : Bool) (a4 : Int) (a5 : Int) : Option (Bool) := (ravelinlaw18_known.f k).bind fun t447 => (if t447 = true then (ravelinlaw18_ItemShapes.l0 k a0 a1 a2 a3 a5 (wrap64 (Int.tmod a4 11)) 0 a0 a1 a2 a3 ([] : List (S39))) else (some false))
theorem ravelinlaw18_ItemShapes.mono_l : ∀ k, (∀ y0 y1 y2 y3 y4 y5 y6 y7 y8 y9 y10 y11, LeO (ravelinlaw18_ItemShapes.l0 k y0 y1 y2 y3 y4 y5 y6 y7 y8 y9 y10 y11) (ravelinlaw18_ItemShapes.l0 (k + 1) y0 y1 y2 y3 y4 y5 y6 y7 y8 y9 y10 y11)) ∧ (∀ y0 y1 y2 y3 y4 y5 y6 y7 y8 y9, LeO (ravelinlaw18_ItemShapes.j1 k y0 y1 y2 y3 y4 y5 y6 y7 y8 y9) (ravelinlaw18_ItemShapes.j1 (k + 1) y0 y1 y2 y3 y4 y5 y6 y7 y8 y9)) ∧ (∀ y0 y1 y2 y3 y4 y5 y6 y7 y8 y9 y10 y11, LeO (ravelinlaw18_ItemShapes.j2 k y0 y1 y2 y3 y4 y5 y6 y7 y8 y9 y10 y11) (ravelinlaw18_ItemShapes.j2 (k + 1) y0 y1 y2 y3 y4 y5 y6 y7 y8 y9 y10 y11))
  | 0 => ⟨fun _ _ _ _ _ _ _ _ _ _ _ _ r h => by simp [ravelinlaw18_ItemShapes.l0] at h, fun _ _ _ _ _ _ _ _ _ _ r h => by simp [ravelinlaw18_ItemShapes.j1] at h, fun _ _ _ _ _ _ _ _ _ _ _ _ r h => by simp [ravelinlaw18_ItemShapes.j2] at h⟩
  | k + 1 => by
    obtain ⟨ih0, ih1, ih2⟩ := ravelinlaw18_ItemShapes.mono_l k
    refine ⟨?_, ?_, ?_⟩
    · intro y0 y1 y2 y3 y4 y5 y6 y7 y8 y9 y10 y11
      unfold ravelinlaw18_ItemShapes.l0
      repeat' first
      | (with_reducible exact ih0 _ _ _ _ _ _ _ _ _ _ _ _)
      | (with_reducible exact ih1 _ _ _ _ _ _ _ _ _ _)
      | (with_reducible exact ih2 _ _ _ _ _ _ _ _ _ _ _ _)
      | (with_reducible exact item_Bytes.mono _ _ _ _ _ _)
      | (with_reducible exact item_Is.mono _ _ _ _ _ _)
      | (with_reducible exact ravelinlaw18_known.mono _)
      | (with_reducible exact LeO.refl _)
      | (with_reducible exact LeO.none _)
      | (with_reducible refine LeO.ite ?_ ?_)
      | (with_reducible refine LeO.bind ?_ (fun _ => ?_))
      | exact ih0 _ _ _ _ _ _ _ _ _ _ _ _
      | exact ih1 _ _ _ _ _ _ _ _ _ _
      | exact ih2 _ _ _ _ _ _ _ _ _ _ _ _
      | exact item_Bytes.mono _ _ _ _ _ _
      | exact item_Is.mono _ _ _ _ _ _
      | exact ravelinlaw18_known.mono _
      | exact LeO.none _
      | refine LeO.ite ?_ ?_
      | refine LeO.bind ?_ (fun _ => ?_)
    · intro y0 y1 y2 y3 y4 y5 y6 y7 y8 y9
      unfold ravelinlaw18_ItemShapes.j1
      repeat' first
      | (with_reducible exact ih0 _ _ _ _ _ _ _ _ _ _ _ _)
      | (with_reducible exact ih1 _ _ _ _ _ _ _ _ _ _)
      | (with_reducible exact ih2 _ _ _ _ _ _ _ _ _ _ _ _)
      | (with_reducible exact item_Bytes.mono _ _ _ _ _ _)
      | (with_reducible exact item_Is.mono _ _ _ _ _ _)
      | (with_reducible exact ravelinlaw18_known.mono _)
      | (with_reducible exact LeO.refl _)
      | (with_reducible exact LeO.none _)
      | (with_reducible refine LeO.ite ?_ ?_)
      | (with_reducible refine LeO.bind ?_ (fun _ => ?_))
      | exact ih0 _ _ _ _ _ _ _ _ _ _ _ _
      | exact ih1 _ _ _ _ _ _ _ _ _ _
      | exact ih2 _ _ _ _ _ _ _ _ _ _ _ _
      | exact item_Bytes.mono _ _ _ _ _ _
      | exact item_Is.mono _ _ _ _ _ _
      | exact ravelinlaw18_known.mono _
      | exact LeO.none _
      | refine LeO.ite ?_ ?_
      | refine LeO.bind ?_ (fun _ => ?_)
    · intro y0 y1 y2 y3 y4 y5 y6 y7 y8 y9 y10 y11
      unfold ravelinlaw18_ItemShapes.j2
      repeat' first
      | (with_reducible exact ih0 _ _ _ _ _ _ _ _ _ _ _ _)
      | (with_reducible exact ih1 _ _ _ _ _ _ _ _ _ _)
      | (with_reducible exact ih2 _ _ _ _ _ _ _ _ _ _ _ _)
      | (with_reducible exact item_Bytes.mono _ _ _ _ _ _)
      | (with_reducible exact item_Is.mono _ _ _ _ _ _)
      | (with_reducible exact ravelinlaw18_known.mono _)
      | (with_reducible exact LeO.refl _)
      | (with_reducible exact LeO.none _)
      | (with_reducible refine LeO.ite ?_ ?_)
      | (with_reducible refine LeO.bind ?_ (fun _ => ?_))
      | exact ih0 _ _ _ _ _ _ _ _ _ _ _ _
      | exact ih1 _ _ _ _ _ _ _ _ _ _
      | exact ih2 _ _ _ _ _ _ _ _ _ _ _ _
      | exact item_Bytes.mono _ _ _ _ _ _
      | exact item_Is.mono _ _ _ _ _ _
      | exact ravelinlaw18_known.mono _
      | exact LeO.none _
      | refine LeO.ite ?_ ?_
      | refine LeO.bind ?_ (fun _ => ?_)
theorem ravelinlaw18_ItemShapes.mono : ∀ a0 a1 a2 a3 a4 a5 k, LeO (ravelinlaw18_ItemShapes.f k a0 a1 a2 a3 a4 a5) (ravelinlaw18_ItemShapes.f (k + 1) a0 a1 a2 a3 a4 a5) := by
  intro a0 a1 a2 a3 a4 a5 k
  obtain ⟨ih0, ih1, ih2⟩ := ravelinlaw18_ItemShapes.mono_l k
  unfold ravelinlaw18_ItemShapes.f
  repeat' first
      | (with_reducible exact ih0 _ _ _ _ _ _ _ _ _ _ _ _)
      | (with_reducible exact ih1 _ _ _ _ _ _ _ _ _ _)
      | (with_reducible exact ih2 _ _ _ _ _ _ _ _ _ _ _ _)
      | (with_reducible exact item_Bytes.mono _ _ _ _ _ _)
      | (with_reducible exact item_Is.mono _ _ _ _ _ _)
      | (with_reducible exact ravelinlaw18_known.mono _)
      | (with_reducible exact LeO.refl _)
      | (with_reducible exact LeO.none _)
      | (with_reducible refine LeO.ite ?_ ?_)
      | (with_reducible refine LeO.bind ?_ (fun _ => ?_))
      | exact ih0 _ _ _ _ _ _ _ _ _ _ _ _
      | exact ih1 _ _ _ _ _ _ _ _ _ _
      | exact ih2 _ _ _ _ _ _ _ _ _ _ _ _
      | exact item_Bytes.mono _ _ _ _ _ _
      | exact item_Is.mono _ _ _ _ _ _
      | exact ravelinlaw18_known.mono _
      | exact LeO.none _
      | refine LeO.ite ?_ ?_
      | refine LeO.bind ?_ (fun _ => ?_)
set_option maxHeartbeats 8000000 in
set_option maxRecDepth 100000 in
theorem ravelinlaw18_ItemShapes.calls (k : Nat) (a0 : Int) (a1 : Int) (a2 : Int) (a3 : Bool) (a4 : Int) (a5 : Int) (r : Bool) (w : World) (h : ravelinlaw18_ItemShapes.f k a0 a1 a2 a3 a4 a5 = some r) (hr_ : r = true) :
    Calls Try.prog 5 #[.int .i64 a0, .int .i64 a1, .int .i64 a2, .bool a3, .int .u8 a4, .int .u8 a5] w fun e w' => e = .returned (.bool r) ∧ Below w.heap.size w w' := by
  have hu24 := Try.underlying24
  have hu39 := Try.underlying39
  have HB := Aside0.mk (Below.refl w.heap.size w)
  have H : ((ravelinlaw18_known.f k).bind fun t447 => (if t447 = true then (ravelinlaw18_ItemShapes.l0 k a0 a1 a2 a3 a5 (wrap64 (Int.tmod a4 11)) 0 a0 a1 a2 a3 ([] : List (S39))) else (some false))) = some r := h
  clear h
  have HR_ := Aside0.mk hr_
  clear hr_
  replace H := Option.bind_eq_some_iff.mp H
  obtain ⟨t447, A70, H⟩ := H
  replace H : (if t447 = true then (ravelinlaw18_ItemShapes.l0 k a0 a1 a2 a3 a5 (wrap64 (Int.tmod a4 11)) 0 a0 a1 a2 a3 ([] : List (S39))) else (some false)) = some r := H
  have A7 := Aside0.mk A70
  clear A70
  by_cases c8 : t447 = true
  · subst c8
    have H1 : (ravelinlaw18_ItemShapes.l0 k a0 a1 a2 a3 a5 (wrap64 (Int.tmod a4 11)) 0 a0 a1 a2 a3 ([] : List (S39))) = some r := by rw [if_pos rfl] at H; exact H
    clear H
    have H := H1
    clear H1
    have H' := Aside0.mk H
    clear H
    go_enter Try.func5, Try.ntmps5
    go_wp2_with (first | ((with_reducible refine gate_callee (f := 7) rfl ?_); refine goesL_ (some 22) rfl rfl Try.func7 (by kernel_rfl) rfl #[] rfl (by (try simp only [List.map_toArray, List.map_cons, List.map_nil]); first | done | rfl | (simp only [List.length_drop, List.length_take]; rfl)) ?_; (with_reducible refine (ravelinlaw18_known.calls k  true _ A7.out (by first | rfl | assumption | exact of_decide_eq_true (by assumption))).mono ?_); rintro e w9 ⟨rfl, hb⟩; refine ⟨_, rfl, ?_⟩; have n0_ := Aside0.mk (below_step (by repeat (first | (with_reducible first | exact HB.out | apply below_alloc | apply pw_below_drewN | apply below_drew1) | exact HB.out)) hb); clear HB; have HB := n0_; clear n0_; (try clear hb); (try clear hb2); (try clear hk); (try clear hi)) | ((with_reducible refine gate_dst (N := 13) rfl ?_); refine box_event ?hg (N := 13) ?hd (cs := #[.int .i64 0, .int .i64 0, .int .i64 0, .bool false, .slice none 0 0]) (t := 24) ?hr ?_; (case hd => rfl); (case hg => rfl); (case hr => first | (go_simp; done) | (go_simp; rfl)); intro gb448 hg w10 hbox hb; have n0_ := Aside0.mk (below_step (by repeat (first | (with_reducible first | exact HB.out | apply below_alloc | apply pw_below_drewN | apply below_drew1) | exact HB.out)) hb); have n1_ := Aside0.mk (hbox); have n2_ := Aside0.mk ((by rw [hg]; exact (below_size (by repeat (first | (with_reducible first | exact HB.out | apply below_alloc | apply pw_below_drewN | apply below_drew1) | exact HB.out))) : w.heap.size ≤ gb448)); have n3_ := Aside0.mk ((by rw [hg]; exact (below_size (by repeat (first | (with_reducible first | exact HB.out | apply below_alloc | apply pw_below_drewN | apply below_drew1) | exact HB.out))) : w.heap.size ≤ gb448)); clear HB; have HB := n0_; have BK448 := n1_; have GW448 := n2_; have GE448 := n3_; clear n0_ n1_ n2_ n3_; clear hb hbox hg; have hcz11_0 : w10.cell? ⟨gb448, 0, none⟩ = some (.int .i64 0) := (blk_cell BK448.out 0).trans rfl; have hcz11_1 : w10.cell? ⟨gb448, 1, none⟩ = some (.int .i64 0) := (blk_cell BK448.out 1).trans rfl; have hcz11_2 : w10.cell? ⟨gb448, 2, none⟩ = some (.int .i64 0) := (blk_cell BK448.out 2).trans rfl; have hcz11_3 : w10.cell? ⟨gb448, 3, none⟩ = some (.bool false) := (blk_cell BK448.out 3).trans rfl; have hcz11_4 : w10.cell? ⟨gb448, 4, none⟩ = some (.slice none 0 0) := (blk_cell BK448.out 4).trans rfl; have hfz11_0 := blk_frozen BK448.out 0; have hfz11_1 := blk_frozen BK448.out 1; have hfz11_2 := blk_frozen BK448.out 2; have hfz11_3 := blk_frozen BK448.out 3; have hfz11_4 := blk_frozen BK448.out 4))
    go_loopg [15] k (fun kq v15 w' => ∃ (x15_1 : Int) (x449004_1 : List (S39)) (u449004 : Value), v15 = .int .i64 x15_1 ∧ Aside0 (ravelinlaw18_ItemShapes.l0 kq a0 a1 a2 a3 a5 (wrap64 (Int.tmod a4 11)) x15_1 a0 a1 a2 a3 x449004_1 = some r) ∧ Aside0 (kq ≤ k) ∧ Aside0 (Kd.R k39 39 w' w.heap.size (fun _ => True) u449004 x449004_1) ∧ Aside0 (w'.heap[gb448]? = some (.cells #[.int .i64 a0, .int .i64 a1, .int .i64 a2, .bool a3, u449004] 24 (0, 0))) ∧ Aside0 (Below w.heap.size w w'))
    case atStart => exact ⟨(0), (([] : List (S39))), (.slice none 0 0), (by first | rfl | (simp; done) | (simp [*]; done)), H', ⟨Nat.le_refl _⟩, ⟨by first | exact Kd.R_nil _ _ _ _ _ | exact Kd.N_nil _ _ _ _ _ | exact Kd.V_nil _ _ _ _ _ | exact Kd.Q_nil _ _ _ _ _ | exact Kd.S_nil _ _ _ _ _⟩, ⟨by (with_reducible repeat (first | refine blk_drewN ?_ _ | refine blk_drew ?_ | refine blk_alloc ?_ _)); refine blk_put (cs := #[.int .i64 a0, .int .i64 a1, .int .i64 a2, .bool a3, .slice none 0 0]) ?_ 4 _ rfl; (with_reducible repeat (first | refine blk_drewN ?_ _ | refine blk_drew ?_ | refine blk_alloc ?_ _)); refine blk_put (cs := #[.int .i64 a0, .int .i64 a1, .int .i64 a2, .bool false, .slice none 0 0]) ?_ 3 _ rfl; (with_reducible repeat (first | refine blk_drewN ?_ _ | refine blk_drew ?_ | refine blk_alloc ?_ _)); refine blk_put (cs := #[.int .i64 a0, .int .i64 a1, .int .i64 0, .bool false, .slice none 0 0]) ?_ 2 _ rfl; (with_reducible repeat (first | refine blk_drewN ?_ _ | refine blk_drew ?_ | refine blk_alloc ?_ _)); refine blk_put (cs := #[.int .i64 a0, .int .i64 0, .int .i64 0, .bool false, .slice none 0 0]) ?_ 1 _ rfl; (with_reducible repeat (first | refine blk_drewN ?_ _ | refine blk_drew ?_ | refine blk_alloc ?_ _)); refine blk_put (cs := #[.int .i64 0, .int .i64 0, .int .i64 0, .bool false, .slice none 0 0]) ?_ 0 _ rfl; (with_reducible repeat (first | refine blk_drewN ?_ _ | refine blk_drew ?_ | refine blk_alloc ?_ _)); exact BK448.out⟩, ⟨by repeat (first | (with_reducible first | exact HB.out | apply below_alloc | apply pw_below_drewN | apply below_drew1 | refine below_set ?_ GE448.out) | exact HB.out)⟩⟩
    case round =>
      clear H'
      try clear p2
      try clear c5
      try clear p6
      try clear c7
      try clear c8
      try clear hcz11_0
      try clear hcz11_1
      try clear hcz11_2
      try clear hcz11_3
      try clear hcz11_4
      try clear hfz11_0
      try clear hfz11_1
      try clear hfz11_2
      try clear hfz11_3
      try clear hfz11_4
      obtain ⟨x15_1, x449004_1, u449004, rfl, HA, HK1, HO_449004, BK448, HB⟩ := hrel
      cases gk with
      | zero => exact absurd HA.out (by simp [ravelinlaw18_ItemShapes.l0])
      | succ k1 =>
        have H := HA.out
        clear HA
        simp only [ravelinlaw18_ItemShapes.l0] at H
        by_cases c12 : x15_1 < (wrap64 (Int.tmod a4 11))
        · rw [if_pos c12] at H
          have c12b0 : decide (x15_1 < (wrap64 (Int.tmod a4 11))) = true := decide_eq_true c12
          clear c12
          obtain ⟨y449, hy449⟩ : ∃ y_ : List Int, y_ = (([(wrap64 (97 + x15_1)) % 256] : List Int)) := ⟨_, rfl⟩
          replace H : (if x449004_1.length < 3518437208883 then (ravelinlaw18_ItemShapes.l0 k1 a0 a1 a2 a3 a5 (wrap64 (Int.tmod a4 11)) (wrap64 (x15_1 + 1)) a0 a1 a2 a3 (x449004_1 ++ [(⟨strOfNums y449, false, (⟨#[118]⟩ : ByteArray)⟩ : S39)])) else (none)) = some r := by first | (rw [hy449]; with_reducible exact H) | (have H2_ := (Option.bind_some _ _).symm.trans H; rw [hy449]; with_reducible exact H2_) | (have H2_ := (Option.bind_some _ _).symm.trans H; with_reducible exact H2_) | with_reducible exact H | (rw [hy449]; exact H) | exact H
          have Ny449 := Aside0.mk hy449
          clear hy449
          by_cases c13 : x449004_1.length < 3518437208883
          · rw [if_pos c13] at H
            have LMc13 := Aside0.mk c13
            clear c13
            obtain ⟨y452, hy452⟩ : ∃ y_ : List (S39), y_ = (x449004_1 ++ [(⟨strOfNums y449, false, (⟨#[118]⟩ : ByteArray)⟩ : S39)]) := ⟨_, rfl⟩
            replace H : (ravelinlaw18_ItemShapes.l0 k1 a0 a1 a2 a3 a5 (wrap64 (Int.tmod a4 11)) (wrap64 (x15_1 + 1)) a0 a1 a2 a3 y452) = some r := by first | (rw [hy452]; with_reducible exact H) | (have H2_ := (Option.bind_some _ _).symm.trans H; rw [hy452]; with_reducible exact H2_) | (have H2_ := (Option.bind_some _ _).symm.trans H; with_reducible exact H2_) | with_reducible exact H | (rw [hy452]; exact H) | exact H
            have Ny452 := Aside0.mk hy452
            clear hy452
            have H' := Aside0.mk H
            clear H
            have hcz14_0 : wr.cell? ⟨gb448, 0, none⟩ = some (.int .i64 a0) := (blk_cell BK448.out 0).trans rfl
            have hcz14_1 : wr.cell? ⟨gb448, 1, none⟩ = some (.int .i64 a1) := (blk_cell BK448.out 1).trans rfl
            have hcz14_2 : wr.cell? ⟨gb448, 2, none⟩ = some (.int .i64 a2) := (blk_cell BK448.out 2).trans rfl
            have hcz14_3 : wr.cell? ⟨gb448, 3, none⟩ = some (.bool a3) := (blk_cell BK448.out 3).trans rfl
            have hcz14_4 : wr.cell? ⟨gb448, 4, none⟩ = some (u449004) := (blk_cell BK448.out 4).trans rfl
            have hfz14_0 := blk_frozen BK448.out 0
            have hfz14_1 := blk_frozen BK448.out 1
            have hfz14_2 := blk_frozen BK448.out 2
            have hfz14_3 := blk_frozen BK448.out 3
            have hfz14_4 := blk_frozen BK448.out 4
            go_wp2_with (first | ((with_reducible refine gate_dst (N := 42) rfl ?_); refine Kd.R_lit (Kd.int .u8) _ 5 ?hg (N := 42) ?hd (xs := ([(wrap64 (97 + x15_1)) % 256] : List Int)) (inner := [.int .u8 ((wrap64 (97 + x15_1)) % 256)]) (ok := fun _ => True) (okp := fun _ => True) ?hr ?hp (fun _ hk => hk) trivial (Below.refl _ _) (Nat.le_refl _) (by simp) ?_; (case hd => rfl); (case hg => rfl); (case hr => first | (go_simp; done) | (go_simp; rfl)); (case hp => exact (Reps.one (show Kd.M (Kd.int .u8) _ _ _ ((wrap64 (97 + x15_1)) % 256) [.int .u8 ((wrap64 (97 + x15_1)) % 256)] from rfl) (Reps.none _ _))); intro v450 w15 ho16 hb hg_ hnew_; clear hg_ hnew_; (first | rw [← Ny449.out] at ho16 | (simp only [Int.reduceToNat] at ho16; rw [← Ny449.out] at ho16)); have n0_ := Aside0.mk (Kd.R_below (by (with_reducible repeat (first | apply Kd.R_alloc | apply Kd.R_drewN | apply Kd.R_drew)); exact HO_449004.out) hb); have n1_ := Aside0.mk (Kd.R_lower ho16 (below_size (by repeat (first | (with_reducible first | exact HB.out | apply below_alloc | apply pw_below_drewN | apply below_drew1 | refine below_set ?_ GE448.out) | exact HB.out)))); have n2_ := Aside0.mk (blk_below (g := gb448) (o := .cells #[.int .i64 a0, .int .i64 a1, .int .i64 a2, .bool a3, u449004] 24 (0, 0)) (by (with_reducible repeat (first | refine blk_drewN ?_ _ | refine blk_drew ?_ | refine blk_alloc ?_ _)); exact BK448.out) hb); have n3_ := Aside0.mk (below_step (by repeat (first | (with_reducible first | exact HB.out | apply below_alloc | apply pw_below_drewN | apply below_drew1 | refine below_set ?_ GE448.out) | exact HB.out)) hb); clear HO_449004; clear BK448; clear HB; have HO_449004 := n0_; have HO451 := n1_; have BK448 := n2_; have HB := n3_; clear n0_ n1_ n2_ n3_; clear hb ho16; have hcv17 := own_string (P := Try.prog) Try.underlying42 Try.underlying5 Try.underlying9 (Kd.own_of_R HO451.out)) | ((with_reducible refine gate_builtin (b := .append) (xs := #[.tmp 38, .tmp 45]) rfl ?_); at_builtin; refine Kd.R_append k39 (w0 := w) w.heap.size rfl (.tmp 38) (.tmp 45) 22 39 (.agg #[(.string ⟨#[]⟩), (.bool false), (.string ⟨#[]⟩)]) 40 rfl Try.underlying22 info39 rfl (by decide) (by omega) u449004 x449004_1 (⟨strOfNums y449, false, (⟨#[118]⟩ : ByteArray)⟩ : S39) [.string (strOfNums y449), .bool false, .string (⟨#[118]⟩ : ByteArray)] (fun _ => True) (fun _ => False) rfl rfl ?aP (fun _ hk => hk.elim) ?aF ?aO ?aB ?aS ?aL ?_; (case aP => exact k39_mkM _ _ _ (⟨strOfNums y449, false, (⟨#[118]⟩ : ByteArray)⟩ : S39)); (case aB => exact (by repeat (first | (with_reducible first | exact HB.out | apply below_alloc | apply pw_below_drewN | apply below_drew1 | refine below_set ?_ GE448.out) | exact HB.out))); (case aF => exact (fun _ _ => trivial)); (case aO => exact (by (with_reducible repeat (first | apply Kd.R_alloc | apply Kd.R_drewN | apply Kd.R_drew)); exact HO_449004.out)); (case aS => exact (below_size (by repeat (first | (with_reducible first | exact HB.out | apply below_alloc | apply pw_below_drewN | apply below_drew1 | refine below_set ?_ GE448.out) | exact HB.out)))); (case aL => have := LMc13.out; omega); intro v453 w18 ho hb hg hat; rw [← Ny452.out] at ho; have n0_ := Aside0.mk (blk_grown (g := gb448) (o := .cells #[.int .i64 a0, .int .i64 a1, .int .i64 a2, .bool a3, u449004] 24 (0, 0)) (by (with_reducible repeat (first | refine blk_drewN ?_ _ | refine blk_drew ?_ | refine blk_alloc ?_ _)); exact BK448.out) hg (Kd.R_ne HO_449004.out BK448.out (by decide))); have n1_ := Aside0.mk (Kd.R_over' (by (with_reducible repeat (first | apply Kd.R_alloc | apply Kd.R_drewN | apply Kd.R_drew)); exact HO451.out) (Kd.R_typed (by (with_reducible repeat (first | apply Kd.R_alloc | apply Kd.R_drewN | apply Kd.R_drew)); exact HO_449004.out)) (by decide) hg); have n2_ := Aside0.mk (hb); have n3_ := Aside0.mk (ho); clear BK448; clear HO451; clear HB; clear HO_449004; have BK448 := n0_; have HO451 := n1_; have HB := n2_; have HO454 := n3_; clear n0_ n1_ n2_ n3_; clear ho hb hg hat; obtain ⟨Ao19, co19, eo19⟩ := Kd.R_slice HO454.out; subst eo19; have hcz20_0 : w18.cell? ⟨gb448, 0, none⟩ = some (.int .i64 a0) := (blk_cell BK448.out 0).trans rfl; have hcz20_1 : w18.cell? ⟨gb448, 1, none⟩ = some (.int .i64 a1) := (blk_cell BK448.out 1).trans rfl; have hcz20_2 : w18.cell? ⟨gb448, 2, none⟩ = some (.int .i64 a2) := (blk_cell BK448.out 2).trans rfl; have hcz20_3 : w18.cell? ⟨gb448, 3, none⟩ = some (.bool a3) := (blk_cell BK448.out 3).trans rfl; have hcz20_4 : w18.cell? ⟨gb448, 4, none⟩ = some (u449004) := (blk_cell BK448.out 4).trans rfl; have hfz20_0 := blk_frozen BK448.out 0; have hfz20_1 := blk_frozen BK448.out 1; have hfz20_2 := blk_frozen BK448.out 2; have hfz20_3 := blk_frozen BK448.out 3; have hfz20_4 := blk_frozen BK448.out 4))
            go_roundg k1
            case measure => have := HK1.out; omega
            case rel => exact ⟨(wrap64 (x15_1 + 1)), (y452), (.slice Ao19 y452.length co19), (by first | rfl | (simp; done) | (simp [*]; done)), H', ⟨by have := HK1.out; omega⟩, ⟨by (with_reducible repeat (first | apply Kd.R_alloc | apply Kd.R_drewN | apply Kd.R_drew)); exact Kd.R_mono (Kd.R_far (p := ⟨gb448, 4, none⟩) (Kd.R_types HO454.out BK448.out (by decide)) (fun _ hk => hk.2) (.slice Ao19 y452.length co19)) (fun _ hk => trivial)⟩, ⟨by (with_reducible repeat (first | refine blk_drewN ?_ _ | refine blk_drew ?_ | refine blk_alloc ?_ _)); refine blk_put (cs := #[.int .i64 a0, .int .i64 a1, .int .i64 a2, .bool a3, u449004]) ?_ 4 _ rfl; (with_reducible repeat (first | refine blk_drewN ?_ _ | refine blk_drew ?_ | refine blk_alloc ?_ _)); exact BK448.out⟩, ⟨by repeat (first | (with_reducible first | exact HB.out | apply below_alloc | apply pw_below_drewN | apply below_drew1 | refine below_set ?_ GE448.out) | exact HB.out)⟩⟩
          · rw [if_neg c13] at H
            exact absurd H (by simp)
        · rw [if_neg c12] at H
          have c12b0 : decide (x15_1 < (wrap64 (Int.tmod a4 11))) = false := decide_eq_false c12
          clear c12
          have HC21 := Aside0.mk H
          clear H
          go_upto_region 9 with (fail)
          go_cut [16] (fun v16 wc => ∃ (kq : Nat) (x16_20 : Bool), v16 = .bool x16_20 ∧ Aside0 (ravelinlaw18_ItemShapes.j1 kq a0 a1 a2 a5 x16_20 a0 a1 a2 a3 x449004_1 = some r) ∧ Aside0 (kq ≤ k1) ∧ Aside0 (Kd.R k39 39 wc w.heap.size (fun _ => True) u449004 x449004_1) ∧ Aside0 (wc.heap[gb448]? = some (.cells #[.int .i64 a0, .int .i64 a1, .int .i64 a2, .bool a3, u449004] 24 (0, 0))) ∧ Aside0 (Below w.heap.size w wc))
          case first =>
            have H := HC21.out
            clear HC21
            by_cases c22 : a0 ≥ 0
            · rw [if_pos c22] at H
              have c22b0 : decide (0 ≤ a0) = true := decide_eq_true c22
              clear c22
              (first | rw [c22b0] | (simp only [i64_w, i32_w]; rw [c22b0]) | skip)
              by_cases c23 : a0 < 6
              · rw [if_pos c23] at H
                have c23b0 : decide (a0 < 6) = true := decide_eq_true c23
                clear c23
                by_cases c24 : a1 ≥ 1
                · rw [if_pos c24] at H
                  have c24b0 : decide (1 ≤ a1) = true := decide_eq_true c24
                  clear c24
                  by_cases c25 : a1 ≤ 1000000
                  · rw [if_pos c25] at H
                    have c25b0 : decide (a1 ≤ 1000000) = true := decide_eq_true c25
                    clear c25
                    by_cases c26 : a2 ≥ 0
                    · rw [if_pos c26] at H
                      have c26b0 : decide (0 ≤ a2) = true := decide_eq_true c26
                      clear c26
                      by_cases c27 : a2 ≤ 1000000
                      · rw [if_pos c27] at H
                        have c27b0 : decide (a2 ≤ 1000000) = true := decide_eq_true c27
                        clear c27
                        by_cases c28 : a3 = true
                        · subst c28
                          have H1 : (if (wrap64 (Int.tmod a4 11)) = 0 then (ravelinlaw18_ItemShapes.j1 k1 a0 a1 a2 a5 true a0 a1 a2 true x449004_1) else (ravelinlaw18_ItemShapes.j1 k1 a0 a1 a2 a5 false a0 a1 a2 true x449004_1)) = some r := by rw [if_pos rfl] at H; exact H
                          clear H
                          have H := H1
                          clear H1
                          by_cases c29 : (wrap64 (Int.tmod a4 11)) = 0
                          · rw [if_pos c29] at H
                            have c29b0 : ((wrap64 (Int.tmod a4 11)) == 0) = true := beq_iff_eq.mpr c29
                            have c29b1 : ((wrap64 (Int.tmod a4 11)) != 0) = false := bne_eq_false_iff_eq.mpr c29
                            clear c29
                            have H' := Aside0.mk H
                            clear H
                            go_wp2
                            go_meet
                            case rel => exact ⟨_, (true), (by first | rfl | (simp; done) | (simp [*]; done)), H', ⟨by have := HK1.out; first | omega | exact Nat.le_refl _⟩, ⟨by (with_reducible repeat (first | apply Kd.R_alloc | apply Kd.R_drewN | apply Kd.R_drew)); exact HO_449004.out⟩, ⟨by (with_reducible repeat (first | refine blk_drewN ?_ _ | refine blk_drew ?_ | refine blk_alloc ?_ _)); exact BK448.out⟩, ⟨by repeat (first | (with_reducible first | exact HB.out | apply below_alloc | apply pw_below_drewN | apply below_drew1 | refine below_set ?_ GE448.out) | exact HB.out)⟩⟩
                          · rw [if_neg c29] at H
                            have c29b0 : ((wrap64 (Int.tmod a4 11)) == 0) = false := beq_eq_false_iff_ne.mpr c29
                            have c29b1 : ((wrap64 (Int.tmod a4 11)) != 0) = true := bne_iff_ne.mpr c29
                            have H' := Aside0.mk H
                            clear H
                            go_wp2
                            go_meet
                            case rel => exact ⟨_, (false), (by first | rfl | (simp; done) | (simp [*]; done)), H', ⟨by have := HK1.out; first | omega | exact Nat.le_refl _⟩, ⟨by (with_reducible repeat (first | apply Kd.R_alloc | apply Kd.R_drewN | apply Kd.R_drew)); exact HO_449004.out⟩, ⟨by (with_reducible repeat (first | refine blk_drewN ?_ _ | refine blk_drew ?_ | refine blk_alloc ?_ _)); exact BK448.out⟩, ⟨by repeat (first | (with_reducible first | exact HB.out | apply below_alloc | apply pw_below_drewN | apply below_drew1 | refine below_set ?_ GE448.out) | exact HB.out)⟩⟩
                        · replace c28 := Bool.eq_false_iff.mpr c28
                          subst c28
                          have H1 : (if (wrap64 (Int.tmod a4 11)) ≥ 1 then (ravelinlaw18_ItemShapes.j1 k1 a0 a1 a2 a5 (decide ((wrap64 (Int.tmod a4 11)) ≤ 8)) a0 a1 a2 false x449004_1) else (ravelinlaw18_ItemShapes.j1 k1 a0 a1 a2 a5 false a0 a1 a2 false x449004_1)) = some r := by rw [if_neg (show ¬ (false = true) by decide)] at H; exact H
                          clear H
                          have H := H1
                          clear H1
                          by_cases c30 : (wrap64 (Int.tmod a4 11)) ≥ 1
                          · rw [if_pos c30] at H
                            have c30b0 : decide (1 ≤ (wrap64 (Int.tmod a4 11))) = true := decide_eq_true c30
                            clear c30
                            have H' := Aside0.mk H
                            clear H
                            go_wp2
                            go_meet
                            case rel => exact ⟨_, (decide ((wrap64 (Int.tmod a4 11)) ≤ 8)), (by first | rfl | (simp; done) | (simp [*]; done)), H', ⟨by have := HK1.out; first | omega | exact Nat.le_refl _⟩, ⟨by (with_reducible repeat (first | apply Kd.R_alloc | apply Kd.R_drewN | apply Kd.R_drew)); exact HO_449004.out⟩, ⟨by (with_reducible repeat (first | refine blk_drewN ?_ _ | refine blk_drew ?_ | refine blk_alloc ?_ _)); exact BK448.out⟩, ⟨by repeat (first | (with_reducible first | exact HB.out | apply below_alloc | apply pw_below_drewN | apply below_drew1 | refine below_set ?_ GE448.out) | exact HB.out)⟩⟩
                          · rw [if_neg c30] at H
                            have c30b0 : decide (1 ≤ (wrap64 (Int.tmod a4 11))) = false := decide_eq_false c30
                            clear c30
                            have H' := Aside0.mk H
                            clear H
                            go_wp2
                            go_meet
                            case rel => exact ⟨_, (false), (by first | rfl | (simp; done) | (simp [*]; done)), H', ⟨by have := HK1.out; first | omega | exact Nat.le_refl _⟩, ⟨by (with_reducible repeat (first | apply Kd.R_alloc | apply Kd.R_drewN | apply Kd.R_drew)); exact HO_449004.out⟩, ⟨by (with_reducible repeat (first | refine blk_drewN ?_ _ | refine blk_drew ?_ | refine blk_alloc ?_ _)); exact BK448.out⟩, ⟨by repeat (first | (with_reducible first | exact HB.out | apply below_alloc | apply pw_below_drewN | apply below_drew1 | refine below_set ?_ GE448.out) | exact HB.out)⟩⟩
                      · rw [if_neg c27] at H
                        have c27b0 : decide (a2 ≤ 1000000) = false := decide_eq_false c27
                        clear c27
                        have H' := Aside0.mk H
                        clear H
                        go_wp2
                        go_meet
                        case rel => exact ⟨_, (false), (by first | rfl | (simp; done) | (simp [*]; done)), H', ⟨by have := HK1.out; first | omega | exact Nat.le_refl _⟩, ⟨by (with_reducible repeat (first | apply Kd.R_alloc | apply Kd.R_drewN | apply Kd.R_drew)); exact HO_449004.out⟩, ⟨by (with_reducible repeat (first | refine blk_drewN ?_ _ | refine blk_drew ?_ | refine blk_alloc ?_ _)); exact BK448.out⟩, ⟨by repeat (first | (with_reducible first | exact HB.out | apply below_alloc | apply pw_below_drewN | apply below_drew1 | refine below_set ?_ GE448.out) | exact HB.out)⟩⟩
                    · rw [if_neg c26] at H
                      have c26b0 : decide (0 ≤ a2) = false := decide_eq_false c26
                      clear c26
                      have H' := Aside0.mk H
                      clear H
                      go_wp2
                      go_meet
                      case rel => exact ⟨_, (false), (by first | rfl | (simp; done) | (simp [*]; done)), H', ⟨by have := HK1.out; first | omega | exact Nat.le_refl _⟩, ⟨by (with_reducible repeat (first | apply Kd.R_alloc | apply Kd.R_drewN | apply Kd.R_drew)); exact HO_449004.out⟩, ⟨by (with_reducible repeat (first | refine blk_drewN ?_ _ | refine blk_drew ?_ | refine blk_alloc ?_ _)); exact BK448.out⟩, ⟨by repeat (first | (with_reducible first | exact HB.out | apply below_alloc | apply pw_below_drewN | apply below_drew1 | refine below_set ?_ GE448.out) | exact HB.out)⟩⟩
                  · rw [if_neg c25] at H
                    have c25b0 : decide (a1 ≤ 1000000) = false := decide_eq_false c25
                    clear c25
                    have H' := Aside0.mk H
                    clear H
                    go_wp2
                    go_meet
                    case rel => exact ⟨_, (false), (by first | rfl | (simp; done) | (simp [*]; done)), H', ⟨by have := HK1.out; first | omega | exact Nat.le_refl _⟩, ⟨by (with_reducible repeat (first | apply Kd.R_alloc | apply Kd.R_drewN | apply Kd.R_drew)); exact HO_449004.out⟩, ⟨by (with_reducible repeat (first | refine blk_drewN ?_ _ | refine blk_drew ?_ | refine blk_alloc ?_ _)); exact BK448.out⟩, ⟨by repeat (first | (with_reducible first | exact HB.out | apply below_alloc | apply pw_below_drewN | apply below_drew1 | refine below_set ?_ GE448.out) | exact HB.out)⟩⟩
                · rw [if_neg c24] at H
                  have c24b0 : decide (1 ≤ a1) = false := decide_eq_false c24
                  clear c24
                  have H' := Aside0.mk H
                  clear H
                  go_wp2
                  go_meet
                  case rel => exact ⟨_, (false), (by first | rfl | (simp; done) | (simp [*]; done)), H', ⟨by have := HK1.out; first | omega | exact Nat.le_refl _⟩, ⟨by (with_reducible repeat (first | apply Kd.R_alloc | apply Kd.R_drewN | apply Kd.R_drew)); exact HO_449004.out⟩, ⟨by (with_reducible repeat (first | refine blk_drewN ?_ _ | refine blk_drew ?_ | refine blk_alloc ?_ _)); exact BK448.out⟩, ⟨by repeat (first | (with_reducible first | exact HB.out | apply below_alloc | apply pw_below_drewN | apply below_drew1 | refine below_set ?_ GE448.out) | exact HB.out)⟩⟩
              · rw [if_neg c23] at H
                have c23b0 : decide (a0 < 6) = false := decide_eq_false c23
                clear c23
                have H' := Aside0.mk H
                clear H
                go_wp2
                go_meet
                case rel => exact ⟨_, (false), (by first | rfl | (simp; done) | (simp [*]; done)), H', ⟨by have := HK1.out; first | omega | exact Nat.le_refl _⟩, ⟨by (with_reducible repeat (first | apply Kd.R_alloc | apply Kd.R_drewN | apply Kd.R_drew)); exact HO_449004.out⟩, ⟨by (with_reducible repeat (first | refine blk_drewN ?_ _ | refine blk_drew ?_ | refine blk_alloc ?_ _)); exact BK448.out⟩, ⟨by repeat (first | (with_reducible first | exact HB.out | apply below_alloc | apply pw_below_drewN | apply below_drew1 | refine below_set ?_ GE448.out) | exact HB.out)⟩⟩
            · rw [if_neg c22] at H
              have c22b0 : decide (0 ≤ a0) = false := decide_eq_false c22
              clear c22
              (first | rw [c22b0] | (simp only [i64_w, i32_w]; rw [c22b0]) | skip)
              have H' := Aside0.mk H
              clear H
              go_wp2
              go_meet
              case rel => exact ⟨_, (false), (by first | rfl | (simp; done) | (simp [*]; done)), H', ⟨by have := HK1.out; first | omega | exact Nat.le_refl _⟩, ⟨by (with_reducible repeat (first | apply Kd.R_alloc | apply Kd.R_drewN | apply Kd.R_drew)); exact HO_449004.out⟩, ⟨by (with_reducible repeat (first | refine blk_drewN ?_ _ | refine blk_drew ?_ | refine blk_alloc ?_ _)); exact BK448.out⟩, ⟨by repeat (first | (with_reducible first | exact HB.out | apply below_alloc | apply pw_below_drewN | apply below_drew1 | refine below_set ?_ GE448.out) | exact HB.out)⟩⟩
          case rest =>
            clear HC21
            try clear c1
            try clear hcv1
            try clear c2
            try clear p2
            try clear c3
            try clear c5
            try clear p6
            try clear c7
            try clear c8
            try clear c12
            try clear c12b0
            try clear c13
            try clear hcv17
            try clear c22
            try clear c22b0
            try clear c23
            try clear c23b0
            try clear c24
            try clear c24b0
            try clear c25
            try clear c25b0
            try clear c26
            try clear c26b0
            try clear c27
            try clear c27b0
            try clear c28
            try clear c29
            try clear c29b0
            try clear c29b1
            try clear c30
            try clear c30b0
            try clear hcz11_0
            try clear hcz11_1
            try clear hcz11_2
            try clear hcz11_3
            try clear hcz11_4
            try clear hcz14_0
            try clear hcz14_1
            try clear hcz14_2
            try clear hcz14_3
            try clear hcz14_4
            try clear hcz20_0
            try clear hcz20_1
            try clear hcz20_2
            try clear hcz20_3
            try clear hcz20_4
            try clear hfz11_0
            try clear hfz11_1
            try clear hfz11_2
            try clear hfz11_3
            try clear hfz11_4
            try clear hfz14_0
            try clear hfz14_1
            try clear hfz14_2
            try clear hfz14_3
            try clear hfz14_4
            try clear hfz20_0
            try clear hfz20_1
            try clear hfz20_2
            try clear hfz20_3
            try clear hfz20_4
            try clear p2
            try clear p6
            obtain ⟨kq, x16_20, rfl, HA, HJ20, HO_449004, BK448, HB⟩ := hcut
            cases kq with
            | zero => exact absurd HA.out (by simp [ravelinlaw18_ItemShapes.j1])
            | succ kj20 =>
              have H := HA.out
              clear HA
              simp only [ravelinlaw18_ItemShapes.j1] at H
              obtain ⟨ji31, hji31⟩ : ∃ j_ : Int, (wrap64 (Int.tmod a5 16)) = j_ := ⟨_, rfl⟩
              replace H : (if 0 ≤ (ji31) then (if (ji31 : Int).toNat ≤ 281474976710656 then ((some (([(⟨strOfNums (List.replicate (ji31 : Int).toNat 0), false, (⟨#[]⟩ : ByteArray)⟩ : S39)] : List (S39)) : List (S39))).bind fun y459 => (if a0 ≥ 0 then (if a0 < 6 then (if a1 ≥ 1 then (if a1 ≤ 1000000 then (if a2 ≥ 0 then (if a2 ≤ 1000000 then (if (ji31) ≥ 1 then (ravelinlaw18_ItemShapes.j2 kj20 x16_20 (decide ((ji31) ≤ 12)) a0 a1 a2 a3 x449004_1 a0 a1 a2 false y459) else (ravelinlaw18_ItemShapes.j2 kj20 x16_20 false a0 a1 a2 a3 x449004_1 a0 a1 a2 false y459)) else (ravelinlaw18_ItemShapes.j2 kj20 x16_20 false a0 a1 a2 a3 x449004_1 a0 a1 a2 false y459)) else (ravelinlaw18_ItemShapes.j2 kj20 x16_20 false a0 a1 a2 a3 x449004_1 a0 a1 a2 false y459)) else (ravelinlaw18_ItemShapes.j2 kj20 x16_20 false a0 a1 a2 a3 x449004_1 a0 a1 a2 false y459)) else (ravelinlaw18_ItemShapes.j2 kj20 x16_20 false a0 a1 a2 a3 x449004_1 a0 a1 a2 false y459)) else (ravelinlaw18_ItemShapes.j2 kj20 x16_20 false a0 a1 a2 a3 x449004_1 a0 a1 a2 false y459)) else (ravelinlaw18_ItemShapes.j2 kj20 x16_20 false a0 a1 a2 a3 x449004_1 a0 a1 a2 false y459))) else (none)) else (none)) = some r := by first | (rw [hji31] at H; exact H) | (simp only [hji31] at H ⊢; exact H)
              have hji31w : (IntKind.i64.wrap (Int.tmod a5 16)) = ji31 := (i64_w _).trans hji31
              by_cases c32 : 0 ≤ (ji31)
              · rw [if_pos c32] at H
                have c32b0 := eq_true c32
                have c32b1 : decide (0 ≤ (ji31)) = true := decide_eq_true c32
                clear c32
                by_cases c33 : (ji31 : Int).toNat ≤ 281474976710656
                · rw [if_pos c33] at H
                  have c33b0 := eq_true c33
                  have c33b1 : decide ((ji31 : Int).toNat ≤ 281474976710656) = true := decide_eq_true c33
                  clear c33
                  obtain ⟨y456, hy456⟩ : ∃ y_ : List Int, y_ = (List.replicate (ji31 : Int).toNat 0) := ⟨_, rfl⟩
                  replace H : ((some (([(⟨strOfNums y456, false, (⟨#[]⟩ : ByteArray)⟩ : S39)] : List (S39)) : List (S39))).bind fun y459 => (if a0 ≥ 0 then (if a0 < 6 then (if a1 ≥ 1 then (if a1 ≤ 1000000 then (if a2 ≥ 0 then (if a2 ≤ 1000000 then (if (ji31) ≥ 1 then (ravelinlaw18_ItemShapes.j2 kj20 x16_20 (decide ((ji31) ≤ 12)) a0 a1 a2 a3 x449004_1 a0 a1 a2 false y459) else (ravelinlaw18_ItemShapes.j2 kj20 x16_20 false a0 a1 a2 a3 x449004_1 a0 a1 a2 false y459)) else (ravelinlaw18_ItemShapes.j2 kj20 x16_20 false a0 a1 a2 a3 x449004_1 a0 a1 a2 false y459)) else (ravelinlaw18_ItemShapes.j2 kj20 x16_20 false a0 a1 a2 a3 x449004_1 a0 a1 a2 false y459)) else (ravelinlaw18_ItemShapes.j2 kj20 x16_20 false a0 a1 a2 a3 x449004_1 a0 a1 a2 false y459)) else (ravelinlaw18_ItemShapes.j2 kj20 x16_20 false a0 a1 a2 a3 x449004_1 a0 a1 a2 false y459)) else (ravelinlaw18_ItemShapes.j2 kj20 x16_20 false a0 a1 a2 a3 x449004_1 a0 a1 a2 false y459)) else (ravelinlaw18_ItemShapes.j2 kj20 x16_20 false a0 a1 a2 a3 x449004_1 a0 a1 a2 false y459))) = some r := by first | (rw [hy456]; with_reducible exact H) | (have H2_ := (Option.bind_some _ _).symm.trans H; rw [hy456]; with_reducible exact H2_) | (have H2_ := (Option.bind_some _ _).symm.trans H; with_reducible exact H2_) | with_reducible exact H | (rw [hy456]; exact H) | exact H
                  have Ny456 := Aside0.mk hy456
                  clear hy456
                  obtain ⟨y459, hy459⟩ : ∃ y_ : List (S39), y_ = (([(⟨strOfNums y456, false, (⟨#[]⟩ : ByteArray)⟩ : S39)] : List (S39))) := ⟨_, rfl⟩
                  replace H : (if a0 ≥ 0 then (if a0 < 6 then (if a1 ≥ 1 then (if a1 ≤ 1000000 then (if a2 ≥ 0 then (if a2 ≤ 1000000 then (if (ji31) ≥ 1 then (ravelinlaw18_ItemShapes.j2 kj20 x16_20 (decide ((ji31) ≤ 12)) a0 a1 a2 a3 x449004_1 a0 a1 a2 false y459) else (ravelinlaw18_ItemShapes.j2 kj20 x16_20 false a0 a1 a2 a3 x449004_1 a0 a1 a2 false y459)) else (ravelinlaw18_ItemShapes.j2 kj20 x16_20 false a0 a1 a2 a3 x449004_1 a0 a1 a2 false y459)) else (ravelinlaw18_ItemShapes.j2 kj20 x16_20 false a0 a1 a2 a3 x449004_1 a0 a1 a2 false y459)) else (ravelinlaw18_ItemShapes.j2 kj20 x16_20 false a0 a1 a2 a3 x449004_1 a0 a1 a2 false y459)) else (ravelinlaw18_ItemShapes.j2 kj20 x16_20 false a0 a1 a2 a3 x449004_1 a0 a1 a2 false y459)) else (ravelinlaw18_ItemShapes.j2 kj20 x16_20 false a0 a1 a2 a3 x449004_1 a0 a1 a2 false y459)) else (ravelinlaw18_ItemShapes.j2 kj20 x16_20 false a0 a1 a2 a3 x449004_1 a0 a1 a2 false y459)) = some r := by first | (rw [hy459]; with_reducible exact H) | (have H2_ := (Option.bind_some _ _).symm.trans H; rw [hy459]; with_reducible exact H2_) | (have H2_ := (Option.bind_some _ _).symm.trans H; with_reducible exact H2_) | with_reducible exact H | (rw [hy459]; exact H) | exact H
                  have Ny459 := Aside0.mk hy459
                  clear hy459
                  have HC34 := Aside0.mk H
                  clear H
                  have hcz35_0 : wc.cell? ⟨gb448, 0, none⟩ = some (.int .i64 a0) := (blk_cell BK448.out 0).trans rfl
                  have hcz35_1 : wc.cell? ⟨gb448, 1, none⟩ = some (.int .i64 a1) := (blk_cell BK448.out 1).trans rfl
                  have hcz35_2 : wc.cell? ⟨gb448, 2, none⟩ = some (.int .i64 a2) := (blk_cell BK448.out 2).trans rfl
                  have hcz35_3 : wc.cell? ⟨gb448, 3, none⟩ = some (.bool a3) := (blk_cell BK448.out 3).trans rfl
                  have hcz35_4 : wc.cell? ⟨gb448, 4, none⟩ = some (u449004) := (blk_cell BK448.out 4).trans rfl
                  have hfz35_0 := blk_frozen BK448.out 0
                  have hfz35_1 := blk_frozen BK448.out 1
                  have hfz35_2 := blk_frozen BK448.out 2
                  have hfz35_3 := blk_frozen BK448.out 3
                  have hfz35_4 := blk_frozen BK448.out 4
                  go_upto_region 14 with (first | ((with_reducible refine gate_dst (N := 17) rfl ?_); refine box_event ?hg (N := 17) ?hd (cs := #[.int .i64 0, .int .i64 0, .int .i64 0, .bool false, .slice none 0 0]) (t := 24) ?hr ?_; (case hd => rfl); (case hg => rfl); (case hr => first | (go_simp; done) | (go_simp; rfl)); intro gb455 hg w36 hbox hb; have n0_ := Aside0.mk (Kd.R_below (by (with_reducible repeat (first | apply Kd.R_alloc | apply Kd.R_drewN | apply Kd.R_drew)); exact HO_449004.out) hb); have n1_ := Aside0.mk (blk_below (g := gb448) (o := .cells #[.int .i64 a0, .int .i64 a1, .int .i64 a2, .bool a3, u449004] 24 (0, 0)) (by (with_reducible repeat (first | refine blk_drewN ?_ _ | refine blk_drew ?_ | refine blk_alloc ?_ _)); exact BK448.out) hb); have n2_ := Aside0.mk (below_step (by repeat (first | (with_reducible first | exact HB.out | apply below_alloc | apply pw_below_drewN | apply below_drew1 | refine below_set ?_ GE448.out) | exact HB.out)) hb); have n3_ := Aside0.mk (hbox); have n4_ := Aside0.mk ((by rw [hg]; exact (below_size (by repeat (first | (with_reducible first | exact HB.out | apply below_alloc | apply pw_below_drewN | apply below_drew1 | refine below_set ?_ GE448.out) | exact HB.out))) : w.heap.size ≤ gb455)); have n5_ := Aside0.mk ((by rw [hg]; exact (below_size (by repeat (first | (with_reducible first | exact HB.out | apply below_alloc | apply pw_below_drewN | apply below_drew1 | refine below_set ?_ GE448.out) | exact HB.out))) : w.heap.size ≤ gb455)); have n6_ := Aside0.mk ((by rw [hg]; exact Nat.ne_of_lt (blk_lt (g := gb448) (o := .cells #[.int .i64 a0, .int .i64 a1, .int .i64 a2, .bool a3, u449004] 24 (0, 0)) (by (with_reducible repeat (first | refine blk_drewN ?_ _ | refine blk_drew ?_ | refine blk_alloc ?_ _)); exact BK448.out)) : gb448 ≠ gb455)); have n7_ := Aside0.mk ((by rw [hg]; exact Nat.ne_of_gt (blk_lt (g := gb448) (o := .cells #[.int .i64 a0, .int .i64 a1, .int .i64 a2, .bool a3, u449004] 24 (0, 0)) (by (with_reducible repeat (first | refine blk_drewN ?_ _ | refine blk_drew ?_ | refine blk_alloc ?_ _)); exact BK448.out)) : gb455 ≠ gb448)); clear HO_449004; clear BK448; clear HB; have HO_449004 := n0_; have BK448 := n1_; have HB := n2_; have BK455 := n3_; have GW455 := n4_; have GE455 := n5_; have NB448_455 := n6_; have NB455_448 := n7_; clear n0_ n1_ n2_ n3_ n4_ n5_ n6_ n7_; clear hb hbox hg; have hnb37 := NB455_448.out; have hnc37 := NB448_455.out; have hcz38_0 : w36.cell? ⟨gb455, 0, none⟩ = some (.int .i64 0) := (blk_cell BK455.out 0).trans rfl; have hcz38_1 : w36.cell? ⟨gb455, 1, none⟩ = some (.int .i64 0) := (blk_cell BK455.out 1).trans rfl; have hcz38_2 : w36.cell? ⟨gb455, 2, none⟩ = some (.int .i64 0) := (blk_cell BK455.out 2).trans rfl; have hcz38_3 : w36.cell? ⟨gb455, 3, none⟩ = some (.bool false) := (blk_cell BK455.out 3).trans rfl; have hcz38_4 : w36.cell? ⟨gb455, 4, none⟩ = some (.slice none 0 0) := (blk_cell BK455.out 4).trans rfl; have hfz38_0 := blk_frozen BK455.out 0; have hfz38_1 := blk_frozen BK455.out 1; have hfz38_2 := blk_frozen BK455.out 2; have hfz38_3 := blk_frozen BK455.out 3; have hfz38_4 := blk_frozen BK455.out 4; obtain ⟨Ao39, co39, eo39⟩ := Kd.R_slice HO_449004.out; subst eo39) | ((with_reducible refine gate_dst (N := 93) rfl ?_); refine Kd.R_make (Kd.int .u8) _ 5 rfl (N := 93) rfl 42 _ _ rfl ji31 (by first | rfl | (simp only [hji31]; rfl)) (by first | rfl | (simp only [hji31]; rfl)) Try.underlying42 (.int .u8 0) 1 info5 rfl (by decide) (by omega) 0 (ok := fun _ => True) (okp := fun _ => True) rfl (fun _ hk => hk) trivial (of_decide_eq_true (by first | (with_reducible assumption) | assumption)) (Nat.le_trans (Nat.mul_le_mul_right _ (of_decide_eq_true (by first | (with_reducible assumption) | assumption) : ji31.toNat ≤ 281474976710656)) (by omega)) (Below.refl _ _) (Nat.le_refl _) ?_; intro v457 w40 ho41 hb hg_ hnew_; clear hg_ hnew_; (first | rw [← Ny456.out] at ho41 | (simp only [Int.reduceToNat] at ho41; rw [← Ny456.out] at ho41)); have n0_ := Aside0.mk (Kd.R_below (by (with_reducible repeat (first | apply Kd.R_alloc | apply Kd.R_drewN | apply Kd.R_drew)); exact (Kd.R_mono (Kd.R_far (p := ⟨gb455, 4, none⟩) (Kd.R_far (p := ⟨gb455, 3, none⟩) (Kd.R_far (p := ⟨gb455, 2, none⟩) (Kd.R_far (p := ⟨gb455, 1, none⟩) (Kd.R_far (p := ⟨gb455, 0, none⟩) (Kd.R_types HO_449004.out BK455.out (by decide)) (fun _ hk => hk.2) (.int .i64 a0)) (fun _ hk => hk.2) (.int .i64 a1)) (fun _ hk => hk.2) (.int .i64 a2)) (fun _ hk => hk.2) (.bool a3)) (fun _ hk => hk.2) (.slice Ao39 x449004_1.length co39)) (fun _ h_ => h_.1))) hb); have n1_ := Aside0.mk (Kd.R_lower ho41 (below_size (by repeat (first | (with_reducible first | exact HB.out | apply below_alloc | apply pw_below_drewN | apply below_drew1 | refine below_set ?_ GE448.out | refine below_set ?_ GE455.out) | exact HB.out)))); have n2_ := Aside0.mk (blk_below (g := gb448) (o := .cells #[.int .i64 a0, .int .i64 a1, .int .i64 a2, .bool a3, .slice Ao39 x449004_1.length co39] 24 (0, 0)) (by (with_reducible repeat (first | refine blk_drewN ?_ _ | refine blk_drew ?_ | refine blk_alloc ?_ _)); refine blk_far ?_ NB448_455.out _; (with_reducible repeat (first | refine blk_drewN ?_ _ | refine blk_drew ?_ | refine blk_alloc ?_ _)); refine blk_far ?_ NB448_455.out _; (with_reducible repeat (first | refine blk_drewN ?_ _ | refine blk_drew ?_ | refine blk_alloc ?_ _)); refine blk_far ?_ NB448_455.out _; (with_reducible repeat (first | refine blk_drewN ?_ _ | refine blk_drew ?_ | refine blk_alloc ?_ _)); refine blk_far ?_ NB448_455.out _; (with_reducible repeat (first | refine blk_drewN ?_ _ | refine blk_drew ?_ | refine blk_alloc ?_ _)); refine blk_far ?_ NB448_455.out _; (with_reducible repeat (first | refine blk_drewN ?_ _ | refine blk_drew ?_ | refine blk_alloc ?_ _)); exact BK448.out) hb); have n3_ := Aside0.mk (blk_below (g := gb455) (o := .cells #[.int .i64 a0, .int .i64 a1, .int .i64 a2, .bool a3, .slice Ao39 x449004_1.length co39] 24 (0, 0)) (by (with_reducible repeat (first | refine blk_drewN ?_ _ | refine blk_drew ?_ | refine blk_alloc ?_ _)); refine blk_put (cs := #[.int .i64 a0, .int .i64 a1, .int .i64 a2, .bool a3, .slice none 0 0]) ?_ 4 _ rfl; (with_reducible repeat (first | refine blk_drewN ?_ _ | refine blk_drew ?_ | refine blk_alloc ?_ _)); refine blk_put (cs := #[.int .i64 a0, .int .i64 a1, .int .i64 a2, .bool false, .slice none 0 0]) ?_ 3 _ rfl; (with_reducible repeat (first | refine blk_drewN ?_ _ | refine blk_drew ?_ | refine blk_alloc ?_ _)); refine blk_put (cs := #[.int .i64 a0, .int .i64 a1, .int .i64 0, .bool false, .slice none 0 0]) ?_ 2 _ rfl; (with_reducible repeat (first | refine blk_drewN ?_ _ | refine blk_drew ?_ | refine blk_alloc ?_ _)); refine blk_put (cs := #[.int .i64 a0, .int .i64 0, .int .i64 0, .bool false, .slice none 0 0]) ?_ 1 _ rfl; (with_reducible repeat (first | refine blk_drewN ?_ _ | refine blk_drew ?_ | refine blk_alloc ?_ _)); refine blk_put (cs := #[.int .i64 0, .int .i64 0, .int .i64 0, .bool false, .slice none 0 0]) ?_ 0 _ rfl; (with_reducible repeat (first | refine blk_drewN ?_ _ | refine blk_drew ?_ | refine blk_alloc ?_ _)); exact BK455.out) hb); have n4_ := Aside0.mk (below_step (by repeat (first | (with_reducible first | exact HB.out | apply below_alloc | apply pw_below_drewN | apply below_drew1 | refine below_set ?_ GE448.out | refine below_set ?_ GE455.out) | exact HB.out)) hb); clear HO_449004; clear BK448; clear BK455; clear HB; have HO_449004 := n0_; have HO458 := n1_; have BK448 := n2_; have BK455 := n3_; have HB := n4_; clear n0_ n1_ n2_ n3_ n4_; clear hb ho41; have hcv42 := own_string (P := Try.prog) Try.underlying42 Try.underlying5 Try.underlying9 (Kd.own_of_R HO458.out)) | ((with_reducible refine gate_dst (N := 96) rfl ?_); refine Kd.R_lit k39 _ 39 ?hg (N := 96) ?hd (xs := ([(⟨strOfNums y456, false, (⟨#[]⟩ : ByteArray)⟩ : S39)] : List (S39))) (inner := [.string (strOfNums y456), .bool false, .string (⟨#[]⟩ : ByteArray)]) (ok := fun _ => True) (okp := fun _ => True) ?hr ?hp (fun _ hk => hk) trivial (Below.refl _ _) (Nat.le_refl _) (by simp) ?_; (case hd => rfl); (case hg => rfl); (case hr => first | (go_simp; done) | (go_simp; rfl)); (case hp => exact (Reps.c3 (show Kd.M k39 _ _ _ (⟨strOfNums y456, false, (⟨#[]⟩ : ByteArray)⟩ : S39) [.string (strOfNums y456), .bool false, .string (⟨#[]⟩ : ByteArray)] from (k39_mkM _ _ _ (⟨strOfNums y456, false, (⟨#[]⟩ : ByteArray)⟩ : S39) )) (Reps.none _ _))); intro v460 w43 ho44 hb hg_ hnew_; clear hg_ hnew_; (first | rw [← Ny459.out] at ho44 | (simp only [Int.reduceToNat] at ho44; rw [← Ny459.out] at ho44)); have n0_ := Aside0.mk (Kd.R_elder' (by (with_reducible repeat (first | apply Kd.R_alloc | apply Kd.R_drewN | apply Kd.R_drew)); exact HO_449004.out) (Kd.R_base ho44) hb); have n1_ := Aside0.mk (Kd.R_below (by (with_reducible repeat (first | apply Kd.R_alloc | apply Kd.R_drewN | apply Kd.R_drew)); exact HO458.out) hb); have n2_ := Aside0.mk (Kd.R_lower (Kd.R_new' ho44 (Kd.R_lt (by (with_reducible repeat (first | apply Kd.R_alloc | apply Kd.R_drewN | apply Kd.R_drew)); exact HO_449004.out))) (below_size (by repeat (first | (with_reducible first | exact HB.out | apply below_alloc | apply pw_below_drewN | apply below_drew1 | refine below_set ?_ GE448.out | refine below_set ?_ GE455.out) | exact HB.out)))); have n3_ := Aside0.mk (blk_below (g := gb448) (o := .cells #[.int .i64 a0, .int .i64 a1, .int .i64 a2, .bool a3, .slice Ao39 x449004_1.length co39] 24 (0, 0)) (by (with_reducible repeat (first | refine blk_drewN ?_ _ | refine blk_drew ?_ | refine blk_alloc ?_ _)); exact BK448.out) hb); have n4_ := Aside0.mk (blk_below (g := gb455) (o := .cells #[.int .i64 a0, .int .i64 a1, .int .i64 a2, .bool a3, .slice Ao39 x449004_1.length co39] 24 (0, 0)) (by (with_reducible repeat (first | refine blk_drewN ?_ _ | refine blk_drew ?_ | refine blk_alloc ?_ _)); exact BK455.out) hb); have n5_ := Aside0.mk (below_step (by repeat (first | (with_reducible first | exact HB.out | apply below_alloc | apply pw_below_drewN | apply below_drew1 | refine below_set ?_ GE448.out | refine below_set ?_ GE455.out) | exact HB.out)) hb); clear HO_449004; clear HO458; clear BK448; clear BK455; clear HB; have HO_449004 := n0_; have HO458 := n1_; have HO461 := n2_; have BK448 := n3_; have BK455 := n4_; have HB := n5_; clear n0_ n1_ n2_ n3_ n4_ n5_; clear hb ho44; obtain ⟨Ao45, co45, eo45⟩ := Kd.R_slice HO461.out; subst eo45; have hcz46_0 : w43.cell? ⟨gb455, 0, none⟩ = some (.int .i64 a0) := (blk_cell BK455.out 0).trans rfl; have hcz46_1 : w43.cell? ⟨gb455, 1, none⟩ = some (.int .i64 a1) := (blk_cell BK455.out 1).trans rfl; have hcz46_2 : w43.cell? ⟨gb455, 2, none⟩ = some (.int .i64 a2) := (blk_cell BK455.out 2).trans rfl; have hcz46_3 : w43.cell? ⟨gb455, 3, none⟩ = some (.bool a3) := (blk_cell BK455.out 3).trans rfl; have hcz46_4 : w43.cell? ⟨gb455, 4, none⟩ = some (.slice Ao39 x449004_1.length co39) := (blk_cell BK455.out 4).trans rfl; have hfz46_0 := blk_frozen BK455.out 0; have hfz46_1 := blk_frozen BK455.out 1; have hfz46_2 := blk_frozen BK455.out 2; have hfz46_3 := blk_frozen BK455.out 3; have hfz46_4 := blk_frozen BK455.out 4))
                  (try simp only [Act.put, List.setIfInBounds_toArray, List.set_cons_zero, List.set_cons_succ])
                  go_cut [19] (fun v19 wc => ∃ (kq : Nat) (x19_33 : Bool), v19 = .bool x19_33 ∧ Aside0 (ravelinlaw18_ItemShapes.j2 kq x16_20 x19_33 a0 a1 a2 a3 x449004_1 a0 a1 a2 false y459 = some r) ∧ Aside0 (kq ≤ kj20) ∧ Aside0 (Kd.R k39 39 wc w.heap.size (fun k_ => some k_ ≠ ((.slice Ao45 y459.length co45) : Value).ownBlock) (.slice Ao39 x449004_1.length co39) x449004_1) ∧ Aside0 (Kd.R k39 39 wc w.heap.size (fun k_ => some k_ ≠ ((.slice Ao39 x449004_1.length co39) : Value).ownBlock) (.slice Ao45 y459.length co45) y459) ∧ Aside0 (wc.heap[gb448]? = some (.cells #[.int .i64 a0, .int .i64 a1, .int .i64 a2, .bool a3, (.slice Ao39 x449004_1.length co39)] 24 (0, 0))) ∧ Aside0 (wc.heap[gb455]? = some (.cells #[.int .i64 a0, .int .i64 a1, .int .i64 a2, .bool false, (.slice Ao45 y459.length co45)] 24 (0, 0))) ∧ Aside0 (Below w.heap.size w wc))
                  case first =>
                    have H := HC34.out
                    clear HC34
                    by_cases c47 : a0 ≥ 0
                    · rw [if_pos c47] at H
                      have c47b0 : decide (0 ≤ a0) = true := decide_eq_true c47
                      clear c47
                      (first | rw [c47b0] | (simp only [i64_w, i32_w]; rw [c47b0]) | skip)
                      by_cases c48 : a0 < 6
                      · rw [if_pos c48] at H
                        have c48b0 : decide (a0 < 6) = true := decide_eq_true c48
                        clear c48
                        by_cases c49 : a1 ≥ 1
                        · rw [if_pos c49] at H
                          have c49b0 : decide (1 ≤ a1) = true := decide_eq_true c49
                          clear c49
                          by_cases c50 : a1 ≤ 1000000
                          · rw [if_pos c50] at H
                            have c50b0 : decide (a1 ≤ 1000000) = true := decide_eq_true c50
                            clear c50
                            by_cases c51 : a2 ≥ 0
                            · rw [if_pos c51] at H
                              have c51b0 : decide (0 ≤ a2) = true := decide_eq_true c51
                              clear c51
                              by_cases c52 : a2 ≤ 1000000
                              · rw [if_pos c52] at H
                                have c52b0 : decide (a2 ≤ 1000000) = true := decide_eq_true c52
                                clear c52
                                by_cases c53 : (ji31) ≥ 1
                                · rw [if_pos c53] at H
                                  have c53b0 : decide (1 ≤ (ji31)) = true := decide_eq_true c53
                                  clear c53
                                  have H' := Aside0.mk H
                                  clear H
                                  go_wp2
                                  go_meet
                                  case rel => exact ⟨_, (decide ((ji31) ≤ 12)), (by first | rfl | (simp; done) | (simp only [← hji31] <;> (first | rfl | simp)) | (simp [*]; done)), H', ⟨by have := HK1.out; have := HJ20.out; first | omega | exact Nat.le_refl _⟩, ⟨by (with_reducible repeat (first | apply Kd.R_alloc | apply Kd.R_drewN | apply Kd.R_drew)); exact Kd.R_mono (Kd.R_far (p := ⟨gb455, 3, none⟩) (Kd.R_far (p := ⟨gb455, 4, none⟩) (Kd.R_types HO_449004.out BK455.out (by decide)) (fun _ hk => hk.2) (.slice Ao45 y459.length co45)) (fun _ hk => hk.2) (.bool false)) (fun _ hk => hk.1.2)⟩, ⟨by (with_reducible repeat (first | apply Kd.R_alloc | apply Kd.R_drewN | apply Kd.R_drew)); exact Kd.R_mono (Kd.R_far (p := ⟨gb455, 3, none⟩) (Kd.R_far (p := ⟨gb455, 4, none⟩) (Kd.R_types HO461.out BK455.out (by decide)) (fun _ hk => hk.2) (.slice Ao45 y459.length co45)) (fun _ hk => hk.2) (.bool false)) (fun _ hk => hk.1.2)⟩, ⟨by (with_reducible repeat (first | refine blk_drewN ?_ _ | refine blk_drew ?_ | refine blk_alloc ?_ _)); refine blk_far ?_ NB448_455.out _; (with_reducible repeat (first | refine blk_drewN ?_ _ | refine blk_drew ?_ | refine blk_alloc ?_ _)); refine blk_far ?_ NB448_455.out _; (with_reducible repeat (first | refine blk_drewN ?_ _ | refine blk_drew ?_ | refine blk_alloc ?_ _)); exact BK448.out⟩, ⟨by (with_reducible repeat (first | refine blk_drewN ?_ _ | refine blk_drew ?_ | refine blk_alloc ?_ _)); refine blk_put (cs := #[.int .i64 a0, .int .i64 a1, .int .i64 a2, .bool a3, .slice Ao45 y459.length co45]) ?_ 3 _ rfl; (with_reducible repeat (first | refine blk_drewN ?_ _ | refine blk_drew ?_ | refine blk_alloc ?_ _)); refine blk_put (cs := #[.int .i64 a0, .int .i64 a1, .int .i64 a2, .bool a3, .slice Ao39 x449004_1.length co39]) ?_ 4 _ rfl; (with_reducible repeat (first | refine blk_drewN ?_ _ | refine blk_drew ?_ | refine blk_alloc ?_ _)); exact BK455.out⟩, ⟨by repeat (first | (with_reducible first | exact HB.out | apply below_alloc | apply pw_below_drewN | apply below_drew1 | refine below_set ?_ GE448.out | refine below_set ?_ GE455.out) | exact HB.out)⟩⟩
                                · rw [if_neg c53] at H
                                  have c53b0 : decide (1 ≤ (ji31)) = false := decide_eq_false c53
                                  clear c53
                                  have H' := Aside0.mk H
                                  clear H
                                  go_wp2
                                  go_meet
                                  case rel => exact ⟨_, (false), (by first | rfl | (simp; done) | (simp [*]; done)), H', ⟨by have := HK1.out; have := HJ20.out; first | omega | exact Nat.le_refl _⟩, ⟨by (with_reducible repeat (first | apply Kd.R_alloc | apply Kd.R_drewN | apply Kd.R_drew)); exact Kd.R_mono (Kd.R_far (p := ⟨gb455, 3, none⟩) (Kd.R_far (p := ⟨gb455, 4, none⟩) (Kd.R_types HO_449004.out BK455.out (by decide)) (fun _ hk => hk.2) (.slice Ao45 y459.length co45)) (fun _ hk => hk.2) (.bool false)) (fun _ hk => hk.1.2)⟩, ⟨by (with_reducible repeat (first | apply Kd.R_alloc | apply Kd.R_drewN | apply Kd.R_drew)); exact Kd.R_mono (Kd.R_far (p := ⟨gb455, 3, none⟩) (Kd.R_far (p := ⟨gb455, 4, none⟩) (Kd.R_types HO461.out BK455.out (by decide)) (fun _ hk => hk.2) (.slice Ao45 y459.length co45)) (fun _ hk => hk.2) (.bool false)) (fun _ hk => hk.1.2)⟩, ⟨by (with_reducible repeat (first | refine blk_drewN ?_ _ | refine blk_drew ?_ | refine blk_alloc ?_ _)); refine blk_far ?_ NB448_455.out _; (with_reducible repeat (first | refine blk_drewN ?_ _ | refine blk_drew ?_ | refine blk_alloc ?_ _)); refine blk_far ?_ NB448_455.out _; (with_reducible repeat (first | refine blk_drewN ?_ _ | refine blk_drew ?_ | refine blk_alloc ?_ _)); exact BK448.out⟩, ⟨by (with_reducible repeat (first | refine blk_drewN ?_ _ | refine blk_drew ?_ | refine blk_alloc ?_ _)); refine blk_put (cs := #[.int .i64 a0, .int .i64 a1, .int .i64 a2, .bool a3, .slice Ao45 y459.length co45]) ?_ 3 _ rfl; (with_reducible repeat (first | refine blk_drewN ?_ _ | refine blk_drew ?_ | refine blk_alloc ?_ _)); refine blk_put (cs := #[.int .i64 a0, .int .i64 a1, .int .i64 a2, .bool a3, .slice Ao39 x449004_1.length co39]) ?_ 4 _ rfl; (with_reducible repeat (first | refine blk_drewN ?_ _ | refine blk_drew ?_ | refine blk_alloc ?_ _)); exact BK455.out⟩, ⟨by repeat (first | (with_reducible first | exact HB.out | apply below_alloc | apply pw_below_drewN | apply below_drew1 | refine below_set ?_ GE448.out | refine below_set ?_ GE455.out) | exact HB.out)⟩⟩
                              · rw [if_neg c52] at H
                                have c52b0 : decide (a2 ≤ 1000000) = false := decide_eq_false c52
                                clear c52
                                have H' := Aside0.mk H
                                clear H
                                go_wp2
                                go_meet
                                case rel => exact ⟨_, (false), (by first | rfl | (simp; done) | (simp [*]; done)), H', ⟨by have := HK1.out; have := HJ20.out; first | omega | exact Nat.le_refl _⟩, ⟨by (with_reducible repeat (first | apply Kd.R_alloc | apply Kd.R_drewN | apply Kd.R_drew)); exact Kd.R_mono (Kd.R_far (p := ⟨gb455, 3, none⟩) (Kd.R_far (p := ⟨gb455, 4, none⟩) (Kd.R_types HO_449004.out BK455.out (by decide)) (fun _ hk => hk.2) (.slice Ao45 y459.length co45)) (fun _ hk => hk.2) (.bool false)) (fun _ hk => hk.1.2)⟩, ⟨by (with_reducible repeat (first | apply Kd.R_alloc | apply Kd.R_drewN | apply Kd.R_drew)); exact Kd.R_mono (Kd.R_far (p := ⟨gb455, 3, none⟩) (Kd.R_far (p := ⟨gb455, 4, none⟩) (Kd.R_types HO461.out BK455.out (by decide)) (fun _ hk => hk.2) (.slice Ao45 y459.length co45)) (fun _ hk => hk.2) (.bool false)) (fun _ hk => hk.1.2)⟩, ⟨by (with_reducible repeat (first | refine blk_drewN ?_ _ | refine blk_drew ?_ | refine blk_alloc ?_ _)); refine blk_far ?_ NB448_455.out _; (with_reducible repeat (first | refine blk_drewN ?_ _ | refine blk_drew ?_ | refine blk_alloc ?_ _)); refine blk_far ?_ NB448_455.out _; (with_reducible repeat (first | refine blk_drewN ?_ _ | refine blk_drew ?_ | refine blk_alloc ?_ _)); exact BK448.out⟩, ⟨by (with_reducible repeat (first | refine blk_drewN ?_ _ | refine blk_drew ?_ | refine blk_alloc ?_ _)); refine blk_put (cs := #[.int .i64 a0, .int .i64 a1, .int .i64 a2, .bool a3, .slice Ao45 y459.length co45]) ?_ 3 _ rfl; (with_reducible repeat (first | refine blk_drewN ?_ _ | refine blk_drew ?_ | refine blk_alloc ?_ _)); refine blk_put (cs := #[.int .i64 a0, .int .i64 a1, .int .i64 a2, .bool a3, .slice Ao39 x449004_1.length co39]) ?_ 4 _ rfl; (with_reducible repeat (first | refine blk_drewN ?_ _ | refine blk_drew ?_ | refine blk_alloc ?_ _)); exact BK455.out⟩, ⟨by repeat (first | (with_reducible first | exact HB.out | apply below_alloc | apply pw_below_drewN | apply below_drew1 | refine below_set ?_ GE448.out | refine below_set ?_ GE455.out) | exact HB.out)⟩⟩
                            · rw [if_neg c51] at H
                              have c51b0 : decide (0 ≤ a2) = false := decide_eq_false c51
                              clear c51
                              have H' := Aside0.mk H
                              clear H
                              go_wp2
                              go_meet
                              case rel => exact ⟨_, (false), (by first | rfl | (simp; done) | (simp [*]; done)), H', ⟨by have := HK1.out; have := HJ20.out; first | omega | exact Nat.le_refl _⟩, ⟨by (with_reducible repeat (first | apply Kd.R_alloc | apply Kd.R_drewN | apply Kd.R_drew)); exact Kd.R_mono (Kd.R_far (p := ⟨gb455, 3, none⟩) (Kd.R_far (p := ⟨gb455, 4, none⟩) (Kd.R_types HO_449004.out BK455.out (by decide)) (fun _ hk => hk.2) (.slice Ao45 y459.length co45)) (fun _ hk => hk.2) (.bool false)) (fun _ hk => hk.1.2)⟩, ⟨by (with_reducible repeat (first | apply Kd.R_alloc | apply Kd.R_drewN | apply Kd.R_drew)); exact Kd.R_mono (Kd.R_far (p := ⟨gb455, 3, none⟩) (Kd.R_far (p := ⟨gb455, 4, none⟩) (Kd.R_types HO461.out BK455.out (by decide)) (fun _ hk => hk.2) (.slice Ao45 y459.length co45)) (fun _ hk => hk.2) (.bool false)) (fun _ hk => hk.1.2)⟩, ⟨by (with_reducible repeat (first | refine blk_drewN ?_ _ | refine blk_drew ?_ | refine blk_alloc ?_ _)); refine blk_far ?_ NB448_455.out _; (with_reducible repeat (first | refine blk_drewN ?_ _ | refine blk_drew ?_ | refine blk_alloc ?_ _)); refine blk_far ?_ NB448_455.out _; (with_reducible repeat (first | refine blk_drewN ?_ _ | refine blk_drew ?_ | refine blk_alloc ?_ _)); exact BK448.out⟩, ⟨by (with_reducible repeat (first | refine blk_drewN ?_ _ | refine blk_drew ?_ | refine blk_alloc ?_ _)); refine blk_put (cs := #[.int .i64 a0, .int .i64 a1, .int .i64 a2, .bool a3, .slice Ao45 y459.length co45]) ?_ 3 _ rfl; (with_reducible repeat (first | refine blk_drewN ?_ _ | refine blk_drew ?_ | refine blk_alloc ?_ _)); refine blk_put (cs := #[.int .i64 a0, .int .i64 a1, .int .i64 a2, .bool a3, .slice Ao39 x449004_1.length co39]) ?_ 4 _ rfl; (with_reducible repeat (first | refine blk_drewN ?_ _ | refine blk_drew ?_ | refine blk_alloc ?_ _)); exact BK455.out⟩, ⟨by repeat (first | (with_reducible first | exact HB.out | apply below_alloc | apply pw_below_drewN | apply below_drew1 | refine below_set ?_ GE448.out | refine below_set ?_ GE455.out) | exact HB.out)⟩⟩
                          · rw [if_neg c50] at H
                            have c50b0 : decide (a1 ≤ 1000000) = false := decide_eq_false c50
                            clear c50
                            have H' := Aside0.mk H
                            clear H
                            go_wp2
                            go_meet
                            case rel => exact ⟨_, (false), (by first | rfl | (simp; done) | (simp [*]; done)), H', ⟨by have := HK1.out; have := HJ20.out; first | omega | exact Nat.le_refl _⟩, ⟨by (with_reducible repeat (first | apply Kd.R_alloc | apply Kd.R_drewN | apply Kd.R_drew)); exact Kd.R_mono (Kd.R_far (p := ⟨gb455, 3, none⟩) (Kd.R_far (p := ⟨gb455, 4, none⟩) (Kd.R_types HO_449004.out BK455.out (by decide)) (fun _ hk => hk.2) (.slice Ao45 y459.length co45)) (fun _ hk => hk.2) (.bool false)) (fun _ hk => hk.1.2)⟩, ⟨by (with_reducible repeat (first | apply Kd.R_alloc | apply Kd.R_drewN | apply Kd.R_drew)); exact Kd.R_mono (Kd.R_far (p := ⟨gb455, 3, none⟩) (Kd.R_far (p := ⟨gb455, 4, none⟩) (Kd.R_types HO461.out BK455.out (by decide)) (fun _ hk => hk.2) (.slice Ao45 y459.length co45)) (fun _ hk => hk.2) (.bool false)) (fun _ hk => hk.1.2)⟩, ⟨by (with_reducible repeat (first | refine blk_drewN ?_ _ | refine blk_drew ?_ | refine blk_alloc ?_ _)); refine blk_far ?_ NB448_455.out _; (with_reducible repeat (first | refine blk_drewN ?_ _ | refine blk_drew ?_ | refine blk_alloc ?_ _)); refine blk_far ?_ NB448_455.out _; (with_reducible repeat (first | refine blk_drewN ?_ _ | refine blk_drew ?_ | refine blk_alloc ?_ _)); exact BK448.out⟩, ⟨by (with_reducible repeat (first | refine blk_drewN ?_ _ | refine blk_drew ?_ | refine blk_alloc ?_ _)); refine blk_put (cs := #[.int .i64 a0, .int .i64 a1, .int .i64 a2, .bool a3, .slice Ao45 y459.length co45]) ?_ 3 _ rfl; (with_reducible repeat (first | refine blk_drewN ?_ _ | refine blk_drew ?_ | refine blk_alloc ?_ _)); refine blk_put (cs := #[.int .i64 a0, .int .i64 a1, .int .i64 a2, .bool a3, .slice Ao39 x449004_1.length co39]) ?_ 4 _ rfl; (with_reducible repeat (first | refine blk_drewN ?_ _ | refine blk_drew ?_ | refine blk_alloc ?_ _)); exact BK455.out⟩, ⟨by repeat (first | (with_reducible first | exact HB.out | apply below_alloc | apply pw_below_drewN | apply below_drew1 | refine below_set ?_ GE448.out | refine below_set ?_ GE455.out) | exact HB.out)⟩⟩
                        · rw [if_neg c49] at H
                          have c49b0 : decide (1 ≤ a1) = false := decide_eq_false c49
                          clear c49
                          have H' := Aside0.mk H
                          clear H
                          go_wp2
                          go_meet
                          case rel => exact ⟨_, (false), (by first | rfl | (simp; done) | (simp [*]; done)), H', ⟨by have := HK1.out; have := HJ20.out; first | omega | exact Nat.le_refl _⟩, ⟨by (with_reducible repeat (first | apply Kd.R_alloc | apply Kd.R_drewN | apply Kd.R_drew)); exact Kd.R_mono (Kd.R_far (p := ⟨gb455, 3, none⟩) (Kd.R_far (p := ⟨gb455, 4, none⟩) (Kd.R_types HO_449004.out BK455.out (by decide)) (fun _ hk => hk.2) (.slice Ao45 y459.length co45)) (fun _ hk => hk.2) (.bool false)) (fun _ hk => hk.1.2)⟩, ⟨by (with_reducible repeat (first | apply Kd.R_alloc | apply Kd.R_drewN | apply Kd.R_drew)); exact Kd.R_mono (Kd.R_far (p := ⟨gb455, 3, none⟩) (Kd.R_far (p := ⟨gb455, 4, none⟩) (Kd.R_types HO461.out BK455.out (by decide)) (fun _ hk => hk.2) (.slice Ao45 y459.length co45)) (fun _ hk => hk.2) (.bool false)) (fun _ hk => hk.1.2)⟩, ⟨by (with_reducible repeat (first | refine blk_drewN ?_ _ | refine blk_drew ?_ | refine blk_alloc ?_ _)); refine blk_far ?_ NB448_455.out _; (with_reducible repeat (first | refine blk_drewN ?_ _ | refine blk_drew ?_ | refine blk_alloc ?_ _)); refine blk_far ?_ NB448_455.out _; (with_reducible repeat (first | refine blk_drewN ?_ _ | refine blk_drew ?_ | refine blk_alloc ?_ _)); exact BK448.out⟩, ⟨by (with_reducible repeat (first | refine blk_drewN ?_ _ | refine blk_drew ?_ | refine blk_alloc ?_ _)); refine blk_put (cs := #[.int .i64 a0, .int .i64 a1, .int .i64 a2, .bool a3, .slice Ao45 y459.length co45]) ?_ 3 _ rfl; (with_reducible repeat (first | refine blk_drewN ?_ _ | refine blk_drew ?_ | refine blk_alloc ?_ _)); refine blk_put (cs := #[.int .i64 a0, .int .i64 a1, .int .i64 a2, .bool a3, .slice Ao39 x449004_1.length co39]) ?_ 4 _ rfl; (with_reducible repeat (first | refine blk_drewN ?_ _ | refine blk_drew ?_ | refine blk_alloc ?_ _)); exact BK455.out⟩, ⟨by repeat (first | (with_reducible first | exact HB.out | apply below_alloc | apply pw_below_drewN | apply below_drew1 | refine below_set ?_ GE448.out | refine below_set ?_ GE455.out) | exact HB.out)⟩⟩
                      · rw [if_neg c48] at H
                        have c48b0 : decide (a0 < 6) = false := decide_eq_false c48
                        clear c48
                        have H' := Aside0.mk H
                        clear H
                        go_wp2
                        go_meet
                        case rel => exact ⟨_, (false), (by first | rfl | (simp; done) | (simp [*]; done)), H', ⟨by have := HK1.out; have := HJ20.out; first | omega | exact Nat.le_refl _⟩, ⟨by (with_reducible repeat (first | apply Kd.R_alloc | apply Kd.R_drewN | apply Kd.R_drew)); exact Kd.R_mono (Kd.R_far (p := ⟨gb455, 3, none⟩) (Kd.R_far (p := ⟨gb455, 4, none⟩) (Kd.R_types HO_449004.out BK455.out (by decide)) (fun _ hk => hk.2) (.slice Ao45 y459.length co45)) (fun _ hk => hk.2) (.bool false)) (fun _ hk => hk.1.2)⟩, ⟨by (with_reducible repeat (first | apply Kd.R_alloc | apply Kd.R_drewN | apply Kd.R_drew)); exact Kd.R_mono (Kd.R_far (p := ⟨gb455, 3, none⟩) (Kd.R_far (p := ⟨gb455, 4, none⟩) (Kd.R_types HO461.out BK455.out (by decide)) (fun _ hk => hk.2) (.slice Ao45 y459.length co45)) (fun _ hk => hk.2) (.bool false)) (fun _ hk => hk.1.2)⟩, ⟨by (with_reducible repeat (first | refine blk_drewN ?_ _ | refine blk_drew ?_ | refine blk_alloc ?_ _)); refine blk_far ?_ NB448_455.out _; (with_reducible repeat (first | refine blk_drewN ?_ _ | refine blk_drew ?_ | refine blk_alloc ?_ _)); refine blk_far ?_ NB448_455.out _; (with_reducible repeat (first | refine blk_drewN ?_ _ | refine blk_drew ?_ | refine blk_alloc ?_ _)); exact BK448.out⟩, ⟨by (with_reducible repeat (first | refine blk_drewN ?_ _ | refine blk_drew ?_ | refine blk_alloc ?_ _)); refine blk_put (cs := #[.int .i64 a0, .int .i64 a1, .int .i64 a2, .bool a3, .slice Ao45 y459.length co45]) ?_ 3 _ rfl; (with_reducible repeat (first | refine blk_drewN ?_ _ | refine blk_drew ?_ | refine blk_alloc ?_ _)); refine blk_put (cs := #[.int .i64 a0, .int .i64 a1, .int .i64 a2, .bool a3, .slice Ao39 x449004_1.length co39]) ?_ 4 _ rfl; (with_reducible repeat (first | refine blk_drewN ?_ _ | refine blk_drew ?_ | refine blk_alloc ?_ _)); exact BK455.out⟩, ⟨by repeat (first | (with_reducible first | exact HB.out | apply below_alloc | apply pw_below_drewN | apply below_drew1 | refine below_set ?_ GE448.out | refine below_set ?_ GE455.out) | exact HB.out)⟩⟩
                    · rw [if_neg c47] at H
                      have c47b0 : decide (0 ≤ a0) = false := decide_eq_false c47
                      clear c47
                      (first | rw [c47b0] | (simp only [i64_w, i32_w]; rw [c47b0]) | skip)
                      have H' := Aside0.mk H
                      clear H
                      go_wp2
                      go_meet
                      case rel => exact ⟨_, (false), (by first | rfl | (simp; done) | (simp [*]; done)), H', ⟨by have := HK1.out; have := HJ20.out; first | omega | exact Nat.le_refl _⟩, ⟨by (with_reducible repeat (first | apply Kd.R_alloc | apply Kd.R_drewN | apply Kd.R_drew)); exact Kd.R_mono (Kd.R_far (p := ⟨gb455, 3, none⟩) (Kd.R_far (p := ⟨gb455, 4, none⟩) (Kd.R_types HO_449004.out BK455.out (by decide)) (fun _ hk => hk.2) (.slice Ao45 y459.length co45)) (fun _ hk => hk.2) (.bool false)) (fun _ hk => hk.1.2)⟩, ⟨by (with_reducible repeat (first | apply Kd.R_alloc | apply Kd.R_drewN | apply Kd.R_drew)); exact Kd.R_mono (Kd.R_far (p := ⟨gb455, 3, none⟩) (Kd.R_far (p := ⟨gb455, 4, none⟩) (Kd.R_types HO461.out BK455.out (by decide)) (fun _ hk => hk.2) (.slice Ao45 y459.length co45)) (fun _ hk => hk.2) (.bool false)) (fun _ hk => hk.1.2)⟩, ⟨by (with_reducible repeat (first | refine blk_drewN ?_ _ | refine blk_drew ?_ | refine blk_alloc ?_ _)); refine blk_far ?_ NB448_455.out _; (with_reducible repeat (first | refine blk_drewN ?_ _ | refine blk_drew ?_ | refine blk_alloc ?_ _)); refine blk_far ?_ NB448_455.out _; (with_reducible repeat (first | refine blk_drewN ?_ _ | refine blk_drew ?_ | refine blk_alloc ?_ _)); exact BK448.out⟩, ⟨by (with_reducible repeat (first | refine blk_drewN ?_ _ | refine blk_drew ?_ | refine blk_alloc ?_ _)); refine blk_put (cs := #[.int .i64 a0, .int .i64 a1, .int .i64 a2, .bool a3, .slice Ao45 y459.length co45]) ?_ 3 _ rfl; (with_reducible repeat (first | refine blk_drewN ?_ _ | refine blk_drew ?_ | refine blk_alloc ?_ _)); refine blk_put (cs := #[.int .i64 a0, .int .i64 a1, .int .i64 a2, .bool a3, .slice Ao39 x449004_1.length co39]) ?_ 4 _ rfl; (with_reducible repeat (first | refine blk_drewN ?_ _ | refine blk_drew ?_ | refine blk_alloc ?_ _)); exact BK455.out⟩, ⟨by repeat (first | (with_reducible first | exact HB.out | apply below_alloc | apply pw_below_drewN | apply below_drew1 | refine below_set ?_ GE448.out | refine below_set ?_ GE455.out) | exact HB.out)⟩⟩
                  case rest =>
                    clear HC34
                    try clear c1
                    try clear hcv1
                    try clear c2
                    try clear p2
                    try clear c3
                    try clear c4
                    try clear hcv4
                    try clear c5
                    try clear p6
                    try clear c7
                    try clear c8
                    try clear c12
                    try clear c12b0
                    try clear c13
                    try clear hcv17
                    try clear c22
                    try clear c22b0
                    try clear c23
                    try clear c23b0
                    try clear c24
                    try clear c24b0
                    try clear c25
                    try clear c25b0
                    try clear c26
                    try clear c26b0
                    try clear c27
                    try clear c27b0
                    try clear c28
                    try clear c29
                    try clear c29b0
                    try clear c29b1
                    try clear c30
                    try clear c30b0
                    try clear c32
                    try clear c32b0
                    try clear c32b1
                    try clear c33
                    try clear c33b0
                    try clear c33b1
                    try clear c37
                    try clear hcv42
                    try clear c47
                    try clear c47b0
                    try clear c48
                    try clear c48b0
                    try clear c49
                    try clear c49b0
                    try clear c50
                    try clear c50b0
                    try clear c51
                    try clear c51b0
                    try clear c52
                    try clear c52b0
                    try clear c53
                    try clear c53b0
                    try clear hcz11_0
                    try clear hcz11_1
                    try clear hcz11_2
                    try clear hcz11_3
                    try clear hcz11_4
                    try clear hcz14_0
                    try clear hcz14_1
                    try clear hcz14_2
                    try clear hcz14_3
                    try clear hcz14_4
                    try clear hcz20_0
                    try clear hcz20_1
                    try clear hcz20_2
                    try clear hcz20_3
                    try clear hcz20_4
                    try clear hcz35_0
                    try clear hcz35_1
                    try clear hcz35_2
                    try clear hcz35_3
                    try clear hcz35_4
                    try clear hcz38_0
                    try clear hcz38_1
                    try clear hcz38_2
                    try clear hcz38_3
                    try clear hcz38_4
                    try clear hcz46_0
                    try clear hcz46_1
                    try clear hcz46_2
                    try clear hcz46_3
                    try clear hcz46_4
                    try clear hfz11_0
                    try clear hfz11_1
                    try clear hfz11_2
                    try clear hfz11_3
                    try clear hfz11_4
                    try clear hfz14_0
                    try clear hfz14_1
                    try clear hfz14_2
                    try clear hfz14_3
                    try clear hfz14_4
                    try clear hfz20_0
                    try clear hfz20_1
                    try clear hfz20_2
                    try clear hfz20_3
                    try clear hfz20_4
                    try clear hfz35_0
                    try clear hfz35_1
                    try clear hfz35_2
                    try clear hfz35_3
                    try clear hfz35_4
                    try clear hfz38_0
                    try clear hfz38_1
                    try clear hfz38_2
                    try clear hfz38_3
                    try clear hfz38_4
                    try clear hfz46_0
                    try clear hfz46_1
                    try clear hfz46_2
                    try clear hfz46_3
                    try clear hfz46_4
                    try clear p2
                    try clear p6
                    obtain ⟨kq, x19_33, rfl, HA, HJ33, HO_449004, HO_456004, BK448, BK455, HB⟩ := hcut
                    cases kq with
                    | zero => exact absurd HA.out (by simp [ravelinlaw18_ItemShapes.j2])
                    | succ kj33 =>
                      have H := HA.out
                      clear HA
                      simp only [ravelinlaw18_ItemShapes.j2] at H
                      replace H := Option.bind_eq_some_iff.mp H
                      obtain ⟨⟨t462, t463⟩, A540, H⟩ := H
                      replace H : ((item_Is.f kj33 a0 a1 a2 a3 x449004_1).bind fun t464 => (if (t464 == x16_20) = true then (if ((t463 == 0) == x16_20) = true then ((item_Is.f kj33 a0 a1 a2 false y459).bind fun t465 => (some (t465 == x19_33))) else (some false)) else (some false))) = some r := H
                      have A54 := Aside0.mk A540
                      clear A540
                      replace H := Option.bind_eq_some_iff.mp H
                      obtain ⟨t464, A550, H⟩ := H
                      replace H : (if (t464 == x16_20) = true then (if ((t463 == 0) == x16_20) = true then ((item_Is.f kj33 a0 a1 a2 false y459).bind fun t465 => (some (t465 == x19_33))) else (some false)) else (some false)) = some r := H
                      have A55 := Aside0.mk A550
                      clear A550
                      by_cases c56 : (t464 == x16_20) = true
                      · rw [if_pos c56] at H
                        have c56b0 : (t464 == x16_20) = true := c56
                        (try (have c56b1 : decide (t464 = x16_20) = true := by simpa using c56))
                        (try (have c56b2 : (t464 == x16_20) = true := by simpa using c56))
                        (try (have c56b3 : (x16_20) = t464 := by have h_ := c56; revert h_; generalize t464 = u_; generalize x16_20 = v_; cases u_ <;> cases v_ <;> simp))
                        clear c56
                        by_cases c57 : ((t463 == 0) == x16_20) = true
                        · rw [if_pos c57] at H
                          have c57b0 : ((t463 == 0) == x16_20) = true := c57
                          (try (have c57b0q := c57b0; rw [c56b3] at c57b0q))
                          (try (have c57b1 : decide ((t463 == 0) = x16_20) = true := by simpa using c57))
                          (try (have c57b1q := c57b1; rw [c56b3] at c57b1q))
                          (try (have c57b2 : ((t463 == 0) == x16_20) = true := by simpa using c57))
                          (try (have c57b2q := c57b2; rw [c56b3] at c57b2q))
                          (try (have c57b3 : (x16_20) = (t463 == 0) := by have h_ := c57; revert h_; generalize (t463 == 0) = u_; generalize x16_20 = v_; cases u_ <;> cases v_ <;> simp))
                          clear c57
                          replace H := Option.bind_eq_some_iff.mp H
                          obtain ⟨t465, A580, H⟩ := H
                          replace H : (some (t465 == x19_33)) = some r := H
                          have A58 := Aside0.mk A580
                          clear A580
                          obtain rfl := Option.some.inj H
                          have hnb59 := NB448_455.out
                          have hnc59 := NB455_448.out
                          have hcz60_0 : wc.cell? ⟨gb448, 0, none⟩ = some (.int .i64 a0) := (blk_cell BK448.out 0).trans rfl
                          have hcz60_1 : wc.cell? ⟨gb448, 1, none⟩ = some (.int .i64 a1) := (blk_cell BK448.out 1).trans rfl
                          have hcz60_2 : wc.cell? ⟨gb448, 2, none⟩ = some (.int .i64 a2) := (blk_cell BK448.out 2).trans rfl
                          have hcz60_3 : wc.cell? ⟨gb448, 3, none⟩ = some (.bool a3) := (blk_cell BK448.out 3).trans rfl
                          have hcz60_4 : wc.cell? ⟨gb448, 4, none⟩ = some (.slice Ao39 x449004_1.length co39) := (blk_cell BK448.out 4).trans rfl
                          have hfz60_0 := blk_frozen BK448.out 0
                          have hfz60_1 := blk_frozen BK448.out 1
                          have hfz60_2 := blk_frozen BK448.out 2
                          have hfz60_3 := blk_frozen BK448.out 3
                          have hfz60_4 := blk_frozen BK448.out 4
                          go_wp2_with (first | ((with_reducible refine gate_callee (f := 9) rfl ?_); refine goesL_ (some 134) rfl rfl Try.func9 (by kernel_rfl) rfl #[.agg #[.int .i64 a0, .int .i64 a1, .int .i64 a2, .bool a3, .slice Ao39 x449004_1.length co39]] rfl (by (try simp only [List.map_toArray, List.map_cons, List.map_nil]); first | done | rfl | (simp only [List.length_drop, List.length_take]; rfl)) ?_; (with_reducible refine (item_Bytes.calls kj33 a0 a1 a2 a3 _ _ x449004_1 t462 t463 _ ?side1 ?side2 A54.out).mono ?_); (case side1 => repeat (first | exact (Kd.R_reads' HO_449004.out).2.2 | (with_reducible refine Kd.C_alloc ?_ _) | (with_reducible refine Kd.C_drewN ?_ _) | (with_reducible refine Kd.C_drew ?_))); (case side2 => exact (Kd.R_reads' HO_449004.out).2.1); rintro e w61 ⟨rfl, hb⟩; refine ⟨_, rfl, ?_⟩; have n0_ := Aside0.mk (Kd.R_below (by (with_reducible repeat (first | apply Kd.R_alloc | apply Kd.R_drewN | apply Kd.R_drew)); exact HO_449004.out) hb); have n1_ := Aside0.mk (Kd.R_below (by (with_reducible repeat (first | apply Kd.R_alloc | apply Kd.R_drewN | apply Kd.R_drew)); exact HO_456004.out) hb); have n2_ := Aside0.mk (blk_below (g := gb448) (o := .cells #[.int .i64 a0, .int .i64 a1, .int .i64 a2, .bool a3, .slice Ao39 x449004_1.length co39] 24 (0, 0)) (by (with_reducible repeat (first | refine blk_drewN ?_ _ | refine blk_drew ?_ | refine blk_alloc ?_ _)); exact BK448.out) hb); have n3_ := Aside0.mk (blk_below (g := gb455) (o := .cells #[.int .i64 a0, .int .i64 a1, .int .i64 a2, .bool false, .slice Ao45 y459.length co45] 24 (0, 0)) (by (with_reducible repeat (first | refine blk_drewN ?_ _ | refine blk_drew ?_ | refine blk_alloc ?_ _)); exact BK455.out) hb); have n4_ := Aside0.mk (below_step (by repeat (first | (with_reducible first | exact HB.out | apply below_alloc | apply pw_below_drewN | apply below_drew1 | refine below_set ?_ GE448.out | refine below_set ?_ GE455.out) | exact HB.out)) hb); clear HO_449004; clear HO_456004; clear BK448; clear BK455; clear HB; have HO_449004 := n0_; have HO_456004 := n1_; have BK448 := n2_; have BK455 := n3_; have HB := n4_; clear n0_ n1_ n2_ n3_ n4_; (try clear hb); (try clear hb2); (try clear hk); (try clear hi); have hcz62_0 : w61.cell? ⟨gb448, 0, none⟩ = some (.int .i64 a0) := (blk_cell BK448.out 0).trans rfl; have hcz62_1 : w61.cell? ⟨gb448, 1, none⟩ = some (.int .i64 a1) := (blk_cell BK448.out 1).trans rfl; have hcz62_2 : w61.cell? ⟨gb448, 2, none⟩ = some (.int .i64 a2) := (blk_cell BK448.out 2).trans rfl; have hcz62_3 : w61.cell? ⟨gb448, 3, none⟩ = some (.bool a3) := (blk_cell BK448.out 3).trans rfl; have hcz62_4 : w61.cell? ⟨gb448, 4, none⟩ = some (.slice Ao39 x449004_1.length co39) := (blk_cell BK448.out 4).trans rfl; have hfz62_0 := blk_frozen BK448.out 0; have hfz62_1 := blk_frozen BK448.out 1; have hfz62_2 := blk_frozen BK448.out 2; have hfz62_3 := blk_frozen BK448.out 3; have hfz62_4 := blk_frozen BK448.out 4) | ((with_reducible refine gate_callee (f := 15) rfl ?_); refine goesL_ (some 138) rfl rfl Try.func15 (by kernel_rfl) rfl #[.agg #[.int .i64 a0, .int .i64 a1, .int .i64 a2, .bool a3, .slice Ao39 x449004_1.length co39]] rfl (by (try simp only [List.map_toArray, List.map_cons, List.map_nil]); first | done | rfl | (simp only [List.length_drop, List.length_take]; rfl)) ?_; (with_reducible refine (item_Is.calls kj33 a0 a1 a2 a3 _ _ x449004_1 t464 _ ?side1 ?side2 A55.out).mono ?_); (case side1 => repeat (first | exact (Kd.R_reads' HO_449004.out).2.2 | (with_reducible refine Kd.C_alloc ?_ _) | (with_reducible refine Kd.C_drewN ?_ _) | (with_reducible refine Kd.C_drew ?_))); (case side2 => exact (Kd.R_reads' HO_449004.out).2.1); rintro e w63 ⟨rfl, hb⟩; refine ⟨_, rfl, ?_⟩; have n0_ := Aside0.mk (Kd.R_below (by (with_reducible repeat (first | apply Kd.R_alloc | apply Kd.R_drewN | apply Kd.R_drew)); exact HO_449004.out) hb); have n1_ := Aside0.mk (Kd.R_below (by (with_reducible repeat (first | apply Kd.R_alloc | apply Kd.R_drewN | apply Kd.R_drew)); exact HO_456004.out) hb); have n2_ := Aside0.mk (blk_below (g := gb448) (o := .cells #[.int .i64 a0, .int .i64 a1, .int .i64 a2, .bool a3, .slice Ao39 x449004_1.length co39] 24 (0, 0)) (by (with_reducible repeat (first | refine blk_drewN ?_ _ | refine blk_drew ?_ | refine blk_alloc ?_ _)); exact BK448.out) hb); have n3_ := Aside0.mk (blk_below (g := gb455) (o := .cells #[.int .i64 a0, .int .i64 a1, .int .i64 a2, .bool false, .slice Ao45 y459.length co45] 24 (0, 0)) (by (with_reducible repeat (first | refine blk_drewN ?_ _ | refine blk_drew ?_ | refine blk_alloc ?_ _)); exact BK455.out) hb); have n4_ := Aside0.mk (below_step (by repeat (first | (with_reducible first | exact HB.out | apply below_alloc | apply pw_below_drewN | apply below_drew1 | refine below_set ?_ GE448.out | refine below_set ?_ GE455.out) | exact HB.out)) hb); clear HO_449004; clear HO_456004; clear BK448; clear BK455; clear HB; have HO_449004 := n0_; have HO_456004 := n1_; have BK448 := n2_; have BK455 := n3_; have HB := n4_; clear n0_ n1_ n2_ n3_ n4_; (try clear hb); (try clear hb2); (try clear hk); (try clear hi); have hcz64_0 : w63.cell? ⟨gb455, 0, none⟩ = some (.int .i64 a0) := (blk_cell BK455.out 0).trans rfl; have hcz64_1 : w63.cell? ⟨gb455, 1, none⟩ = some (.int .i64 a1) := (blk_cell BK455.out 1).trans rfl; have hcz64_2 : w63.cell? ⟨gb455, 2, none⟩ = some (.int .i64 a2) := (blk_cell BK455.out 2).trans rfl; have hcz64_3 : w63.cell? ⟨gb455, 3, none⟩ = some (.bool false) := (blk_cell BK455.out 3).trans rfl; have hcz64_4 : w63.cell? ⟨gb455, 4, none⟩ = some (.slice Ao45 y459.length co45) := (blk_cell BK455.out 4).trans rfl; have hfz64_0 := blk_frozen BK455.out 0; have hfz64_1 := blk_frozen BK455.out 1; have hfz64_2 := blk_frozen BK455.out 2; have hfz64_3 := blk_frozen BK455.out 3; have hfz64_4 := blk_frozen BK455.out 4) | (go_at_call 15; (with_reducible refine (item_Is.calls kj33 a0 a1 a2 false _ _ y459 t465 _ ?side1 ?side2 A58.out).mono ?_); (case side1 => repeat (first | exact (Kd.R_reads' HO_456004.out).2.2 | (with_reducible refine Kd.C_alloc ?_ _) | (with_reducible refine Kd.C_drewN ?_ _) | (with_reducible refine Kd.C_drew ?_))); (case side2 => exact (Kd.R_reads' HO_456004.out).2.1); rintro e w65 ⟨rfl, hb⟩; have n0_ := Aside0.mk (Kd.R_below (by (with_reducible repeat (first | apply Kd.R_alloc | apply Kd.R_drewN | apply Kd.R_drew)); exact HO_449004.out) hb); have n1_ := Aside0.mk (Kd.R_below (by (with_reducible repeat (first | apply Kd.R_alloc | apply Kd.R_drewN | apply Kd.R_drew)); exact HO_456004.out) hb); have n2_ := Aside0.mk (blk_below (g := gb448) (o := .cells #[.int .i64 a0, .int .i64 a1, .int .i64 a2, .bool a3, .slice Ao39 x449004_1.length co39] 24 (0, 0)) (by (with_reducible repeat (first | refine blk_drewN ?_ _ | refine blk_drew ?_ | refine blk_alloc ?_ _)); exact BK448.out) hb); have n3_ := Aside0.mk (blk_below (g := gb455) (o := .cells #[.int .i64 a0, .int .i64 a1, .int .i64 a2, .bool false, .slice Ao45 y459.length co45] 24 (0, 0)) (by (with_reducible repeat (first | refine blk_drewN ?_ _ | refine blk_drew ?_ | refine blk_alloc ?_ _)); exact BK455.out) hb); have n4_ := Aside0.mk (below_step (by repeat (first | (with_reducible first | exact HB.out | apply below_alloc | apply pw_below_drewN | apply below_drew1 | refine below_set ?_ GE448.out | refine below_set ?_ GE455.out) | exact HB.out)) hb); clear HO_449004; clear HO_456004; clear BK448; clear BK455; clear HB; have HO_449004 := n0_; have HO_456004 := n1_; have BK448 := n2_; have BK455 := n3_; have HB := n4_; clear n0_ n1_ n2_ n3_ n4_; (try clear hb); (try clear hb2); (try clear hk); (try clear hi)))
                          go_ret
                          exact ⟨by first | rfl | (simp [errW_none, errW_some] <;> rfl) | (simp only [← hji31]; first | rfl | (simp [errW_none, errW_some] <;> rfl)) | (simp [*, errW_none, errW_some] <;> rfl), by repeat (first | (with_reducible first | exact HB.out | apply below_alloc | apply pw_below_drewN | apply below_drew1 | refine below_set ?_ GE448.out | refine below_set ?_ GE455.out) | exact HB.out)⟩
                        · rw [if_neg c57] at H
                          have c57b0 : ((t463 == 0) == x16_20) = false := by simpa using c57
                          (try (have c57b0q := c57b0; rw [c56b3] at c57b0q))
                          (try (have c57b1 : decide ((t463 == 0) = x16_20) = false := by simpa using c57))
                          (try (have c57b1q := c57b1; rw [c56b3] at c57b1q))
                          (try (have c57b2 : ((t463 == 0) == x16_20) = false := by simpa using c57))
                          (try (have c57b2q := c57b2; rw [c56b3] at c57b2q))
                          (try (have c57b3 : ¬ ((t463 == 0) = x16_20) := by simpa using c57))
                          (try (have c57b3q := c57b3; rw [c56b3] at c57b3q))
                          (try (have c57b4 : (x16_20) = !(t463 == 0) := by have h_ := c57; revert h_; generalize (t463 == 0) = u_; generalize x16_20 = v_; cases u_ <;> cases v_ <;> simp))
                          clear c57
                          exact absurd ((Option.some.inj H).trans HR_.out) (by decide)
                      · rw [if_neg c56] at H
                        have c56b0 : (t464 == x16_20) = false := by simpa using c56
                        (try (have c56b1 : decide (t464 = x16_20) = false := by simpa using c56))
                        (try (have c56b2 : (t464 == x16_20) = false := by simpa using c56))
                        (try (have c56b3 : ¬ (t464 = x16_20) := by simpa using c56))
                        (try (have c56b4 : (x16_20) = !t464 := by have h_ := c56; revert h_; generalize t464 = u_; generalize x16_20 = v_; cases u_ <;> cases v_ <;> simp))
                        clear c56
                        exact absurd ((Option.some.inj H).trans HR_.out) (by decide)
                · rw [if_neg c33] at H
                  exact absurd H (by simp)
              · rw [if_neg c32] at H
                exact absurd H (by simp)
  · replace c8 := Bool.eq_false_iff.mpr c8
    subst c8
    have H1 : (some false) = some r := by rw [if_neg (show ¬ (false = true) by decide)] at H; exact H
    clear H
    have H := H1
    clear H1
    exact absurd ((Option.some.inj H).trans HR_.out) (by decide)

/-- THE ONE PURE STATEMENT of ravelinlaw18_ItemShapes: yours. -/
def ravelinlaw18_ItemShapes.Pure : Prop := ∀ (a0 : Int) (a1 : Int) (a2 : Int) (a3 : Bool) (a4 : Int) (a5 : Int), (Lit.int .i64 a0).wf = true → (Lit.int .i64 a1).wf = true → (Lit.int .i64 a2).wf = true → (Lit.int .u8 a4).wf = true → (Lit.int .u8 a5).wf = true → ∃ k, ravelinlaw18_ItemShapes.f k a0 a1 a2 a3 a4 a5 = some true
theorem ravelinlaw18_ItemShapes.walk (P : ravelinlaw18_ItemShapes.Pure) (a0 : Int) (a1 : Int) (a2 : Int) (a3 : Bool) (a4 : Int) (a5 : Int) (w : World) (w0 : (Lit.int .i64 a0).wf = true) (w1 : (Lit.int .i64 a1).wf = true) (w2 : (Lit.int .i64 a2).wf = true) (w4 : (Lit.int .u8 a4).wf = true) (w5 : (Lit.int .u8 a5).wf = true) :
    Calls Try.prog 5 #[.int .i64 a0, .int .i64 a1, .int .i64 a2, .bool a3, .int .u8 a4, .int .u8 a5] w fun e w' => e = .returned (.bool true) ∧ Below w.heap.size w w' := by
  obtain ⟨k, h⟩ := P a0 a1 a2 a3 a4 a5 w0 w1 w2 w4 w5
  refine (ravelinlaw18_ItemShapes.calls k a0 a1 a2 a3 a4 a5 true w h rfl).mono ?_
  rintro e w' ⟨rfl, hd⟩
  exact ⟨rfl, hd⟩

-- NOT PRINTED: function 6 (ravelinlaw18_ItemRows)

end Go.Proofs.Ytkmbgihfdfgmgaa.P
