-- Printed by a changed copy of the kit's printer (wip/tools/ext.py); labels and more
import Derived.Test.YtmbedgopceigaaaM0
import Derived.Test.YtmbedgopceigaaaM5
namespace Go.Proofs.Ytmbedgopceigaaa.P
open Go.RowKit Go.Proofs.YtmbedgopceigaaaW.PrintWords Go.Proofs.YtmbedgopceigaaaW.PrintLast Go.Proofs.YtmbedgopceigaaaW.PrintMore
attribute [local go_sem] max2_int min2_int max_two min_two max_three min_three max_four min_four   -- for this text's walks alone
attribute [local go_sem high] string_leq string_geq string_gtr
set_option linter.unusedVariables false
set_option linter.unusedSimpArgs false

/-! ### sheet_take: function 43 -/
mutual
def sheet_take.l0 : Nat → ByteArray → Int → Int → ByteArray → Int → Int → List Int → Int → Int → Option (List Int × (List (S32)) × Int × Int × Bool)
  | 0, _, _, _, _, _, _, _, _, _ => none
  | k + 1, x0, x13, x14, x189000, x189001, x189002, x190000, x190002, x190003 => if x14 < x13 then ((entry_Taker_Num.f k x189000 x189001 x189002).bind fun bt194 => (if x190000.length < 17592186044416 then (sheet_take.l0 k x0 x13 (wrap64 (x14 + 1)) bt194.2.1 bt194.2.2.1 bt194.2.2.2 (x190000 ++ [bt194.1]) x190002 x190003) else (none))) else ((entry_Taker_Num.f k x189000 x189001 x189002).bind fun bt201 => (sheet_take.l1 k x0 (mn bt201.1 (x0.size : Int)) 0 bt201.2.1 bt201.2.2.1 bt201.2.2.2 x190000 ([] : List (S32)) x190002 x190003))
def sheet_take.l1 : Nat → ByteArray → Int → Int → ByteArray → Int → Int → List Int → List (S32) → Int → Int → Option (List Int × (List (S32)) × Int × Int × Bool)
  | 0, _, _, _, _, _, _, _, _, _, _ => none
  | k + 1, x0, x28, x29, x189000, x189001, x189002, x190000, x190001, x190002, x190003 => if x29 < x28 then ((entry_Taker_Num.f k x189000 x189001 x189002).bind fun bt213 => ((entry_Taker_Num.f k bt213.2.1 bt213.2.2.1 bt213.2.2.2).bind fun bt217 => ((entry_Taker_Text.f k bt217.2.1 bt217.2.2.1 bt217.2.2.2).bind fun bt221 => ((entry_Taker_Text.f k bt221.2.1 bt221.2.2.1 bt221.2.2.2).bind fun bt225 => ((entry_Taker_Num.f k bt225.2.1 bt225.2.2.1 bt225.2.2.2).bind fun bt229 => (if x190001.length < 2513169434916 then (sheet_take.l1 k x0 x28 (wrap64 (x29 + 1)) bt229.2.1 bt229.2.2.1 bt229.2.2.2 x190000 (x190001 ++ [(⟨bt213.1, bt217.1, bt221.1, bt225.1, bt229.1⟩ : S32)]) x190002 x190003) else (none))))))) else ((entry_Taker_Num.f k x189000 x189001 x189002).bind fun bt205 => ((entry_Taker_Num.f k bt205.2.1 bt205.2.2.1 bt205.2.2.2).bind fun bt209 => (if bt209.2.2.2 = 0 then (some (x190000, x190001, bt205.1, bt209.1, (bt209.2.2.1 == (x0.size : Int)))) else (some (x190000, x190001, bt205.1, bt209.1, false)))))
end
def sheet_take.f (k : Nat) (a0 : ByteArray) : Option (List Int × (List (S32)) × Int × Int × Bool) := (entry_Taker_Num.f k a0 0 0).bind fun bt190 => (sheet_take.l0 k a0 (mn bt190.1 (a0.size : Int)) 0 bt190.2.1 bt190.2.2.1 bt190.2.2.2 ([] : List Int) 0 0)
theorem sheet_take.mono_l : ∀ k, (∀ y0 y1 y2 y3 y4 y5 y6 y7 y8, LeO (sheet_take.l0 k y0 y1 y2 y3 y4 y5 y6 y7 y8) (sheet_take.l0 (k + 1) y0 y1 y2 y3 y4 y5 y6 y7 y8)) ∧ (∀ y0 y1 y2 y3 y4 y5 y6 y7 y8 y9, LeO (sheet_take.l1 k y0 y1 y2 y3 y4 y5 y6 y7 y8 y9) (sheet_take.l1 (k + 1) y0 y1 y2 y3 y4 y5 y6 y7 y8 y9))
  | 0 => ⟨fun _ _ _ _ _ _ _ _ _ r h => by simp [sheet_take.l0] at h, fun _ _ _ _ _ _ _ _ _ _ r h => by simp [sheet_take.l1] at h⟩
  | k + 1 => by
    obtain ⟨ih0, ih1⟩ := sheet_take.mono_l k
    refine ⟨?_, ?_⟩
    all_goals
      intros
      first | unfold sheet_take.l0 | unfold sheet_take.l1
      repeat' first
      | (with_reducible exact ih0 _ _ _ _ _ _ _ _ _)
      | (with_reducible exact ih1 _ _ _ _ _ _ _ _ _ _)
      | (with_reducible exact entry_Taker_Num.mono _ _ _ _)
      | (with_reducible exact entry_Taker_Text.mono _ _ _ _)
      | (with_reducible exact LeO.refl _)
      | (with_reducible exact LeO.none _)
      | (with_reducible refine LeO.ite ?_ ?_)
      | (with_reducible refine LeO.bind ?_ (fun _ => ?_))
      | exact ih0 _ _ _ _ _ _ _ _ _
      | exact ih1 _ _ _ _ _ _ _ _ _ _
      | exact entry_Taker_Num.mono _ _ _ _
      | exact entry_Taker_Text.mono _ _ _ _
      | exact LeO.none _
      | refine LeO.ite ?_ ?_
      | refine LeO.bind ?_ (fun _ => ?_)
theorem sheet_take.mono : ∀ a0 k, LeO (sheet_take.f k a0) (sheet_take.f (k + 1) a0) := by
  intro a0 k
  obtain ⟨ih0, ih1⟩ := sheet_take.mono_l k
  unfold sheet_take.f
  repeat' first
      | (with_reducible exact ih0 _ _ _ _ _ _ _ _ _)
      | (with_reducible exact ih1 _ _ _ _ _ _ _ _ _ _)
      | (with_reducible exact entry_Taker_Num.mono _ _ _ _)
      | (with_reducible exact entry_Taker_Text.mono _ _ _ _)
      | (with_reducible exact LeO.refl _)
      | (with_reducible exact LeO.none _)
      | (with_reducible refine LeO.ite ?_ ?_)
      | (with_reducible refine LeO.bind ?_ (fun _ => ?_))
      | exact ih0 _ _ _ _ _ _ _ _ _
      | exact ih1 _ _ _ _ _ _ _ _ _ _
      | exact entry_Taker_Num.mono _ _ _ _
      | exact entry_Taker_Text.mono _ _ _ _
      | exact LeO.none _
      | refine LeO.ite ?_ ?_
      | refine LeO.bind ?_ (fun _ => ?_)
def sheet_take.T5 : Bool × List (List Nat × List Nat) := (true, [([], []), ([0], [0]), ([], []), ([2], [2]), ([3], [3]), ([1, 4, 3], [1, 4]), ([0, 1, 2, 3, 4, 5], []), ([6, 5, 5, 0, 1, 2, 3, 4, 5], [5, 6])])
def sheet_take.B5 : List Nat := [0, 1, 0, 4, 12, 31, 63, 127]
theorem sheet_take.tab5 : rtab .any (opsOf Try.f43 5) = sheet_take.T5 := by kernel_rfl
theorem sheet_take.bits5 : waitsOk sheet_take.T5.2 sheet_take.B5 = true := by kernel_rfl
def sheet_take.T9 : Bool × List (List Nat × List Nat) := (true, [([], []), ([0], [0]), ([], []), ([2], [2]), ([], []), ([4, 3], [4]), ([], []), ([6, 5], [6]), ([], []), ([8, 7], [8]), ([], []), ([10, 9], [10]), ([3, 5, 7, 9, 11], [3, 5, 7, 9, 11]), ([12], [12]), ([1, 13, 11], [1, 13]), ([0, 1, 2, 3, 4, 5, 6, 7, 8, 9, 10, 11, 12, 13, 14], []), ([15, 14, 14, 0, 1, 2, 3, 4, 5, 6, 7, 8, 9, 10, 11, 12, 13, 14], [14, 15])])
def sheet_take.B9 : List Nat := [0, 1, 0, 4, 0, 28, 0, 124, 0, 508, 0, 2044, 4092, 8188, 16383, 32767, 65535]
theorem sheet_take.tab9 : rtab .any (opsOf Try.f43 9) = sheet_take.T9 := by kernel_rfl
theorem sheet_take.bits9 : waitsOk sheet_take.T9.2 sheet_take.B9 = true := by kernel_rfl
def sheet_take.T12 : Bool × List (List Nat × List Nat) := (true, [([], []), ([], []), ([1], [1]), ([2], [2]), ([3], [3]), ([4], [4]), ([5], [5]), ([6], [6]), ([7, 6], [6, 7]), ([8, 6], [6, 8]), ([9, 6], [6, 9]), ([6], [6]), ([11, 6], [6, 11]), ([10, 12, 6], [6, 10, 12]), ([6, 13], [6, 13]), ([0, 6, 0], [0]), ([14, 15, 0, 1, 2, 3, 4, 5, 6, 7, 8, 9, 10, 11, 12, 13, 14, 15], [14])])
def sheet_take.B12 : List Nat := [0, 0, 2, 6, 14, 30, 62, 126, 254, 510, 1022, 126, 2174, 8190, 16382, 127, 65535]
theorem sheet_take.tab12 : rtab .any (opsOf Try.f43 12) = sheet_take.T12 := by kernel_rfl
theorem sheet_take.bits12 : waitsOk sheet_take.T12.2 sheet_take.B12 = true := by kernel_rfl
set_option maxHeartbeats 8000000 in
set_option maxRecDepth 100000 in
theorem sheet_take.calls (k : Nat) (a0 : ByteArray) (r1 : List Int) (r2 : List (S32)) (r3 : Int) (r4 : Int) (r5 : Bool) (w : World) (h : sheet_take.f k a0 = some (r1, r2, r3, r4, r5)) :
    Calls Try.prog 43 #[.string a0] w fun e w' => ∃ v0_ v1_ : Value, e = .returned (.tuple #[.agg #[v0_, v1_, .int .i64 r3, .int .i64 r4], .bool r5]) ∧ Kd.R (Kd.int .i64) 3 w' w.heap.size (fun _ => True) v0_ r1 ∧ Kd.R k32 32 w' w.heap.size (fun _ => True) v1_ r2 ∧ Below w.heap.size w w' := by
  have hu36 := Try.underlying36
  have hu90 := Try.underlying90
  have hu32 := Try.underlying32
  have HB := Aside0.mk (Below.refl w.heap.size w)
  have H : ((entry_Taker_Num.f k a0 0 0).bind fun bt190 => (sheet_take.l0 k a0 (mn bt190.1 (a0.size : Int)) 0 bt190.2.1 bt190.2.2.1 bt190.2.2.2 ([] : List Int) 0 0)) = some (r1, r2, r3, r4, r5) := h
  clear h
  replace H := Option.bind_eq_some_iff.mp H
  obtain ⟨⟨t190, t191, t192, t193⟩, A20, H⟩ := H
  replace H : (sheet_take.l0 k a0 (mn t190 (a0.size : Int)) 0 t191 t192 t193 ([] : List Int) 0 0) = some (r1, r2, r3, r4, r5) := H
  have A2 := Aside0.mk A20
  clear A20
  obtain ⟨ji3, hji3⟩ : ∃ j_ : Int, (mn t190 (a0.size : Int)) = j_ := ⟨_, rfl⟩
  replace H : (sheet_take.l0 k a0 ji3 0 t191 t192 t193 ([] : List Int) 0 0) = some (r1, r2, r3, r4, r5) := by first | (rw [hji3] at H; exact H) | (simp only [hji3] at H ⊢; exact H)
  (try rw [hji3] at A2)
  have hji3_ : (if (a0.size : Int) < t190 then (a0.size : Int) else t190) = ji3 := hji3
  (try (have hji3_n := hji3_; simp only [Int.ofNat_lt] at hji3_n))
  have H' := Aside0.mk H
  clear H
  go_enter Try.func43, Try.ntmps43
  go_wp2_with (first | ((with_reducible refine gate_dst (N := 2) rfl ?_); (try (refine gate_guard (by rfl) ?_; dsimp only)); refine box_event ?hg (N := 2) ?hd (cs := #[.slice none 0 0, .slice none 0 0, .int .i64 0, .int .i64 0]) (t := 36) ?hr ?_; (case hd => rfl); (case hg => rfl); (case hr => first | (go_simp; done) | (go_simp; rfl)); intro gb187 hg w4 hbox hb; have n0_ := Aside0.mk (below_step (by repeat (first | (with_reducible first | exact HB.out | apply below_alloc | apply pw_below_drewN | apply below_drew1) | exact HB.out)) hb); have n1_ := Aside0.mk (hbox); have n2_ := Aside0.mk ((by rw [hg]; exact (below_size (by repeat (first | (with_reducible first | exact HB.out | apply below_alloc | apply pw_below_drewN | apply below_drew1) | exact HB.out))) : w.heap.size ≤ gb187)); have n3_ := Aside0.mk ((by rw [hg]; exact (below_size (by repeat (first | (with_reducible first | exact HB.out | apply below_alloc | apply pw_below_drewN | apply below_drew1) | exact HB.out))) : w.heap.size ≤ gb187)); clear HB; have HB := n0_; have BK187 := n1_; have GW187 := n2_; have GE187 := n3_; clear n0_ n1_ n2_ n3_; clear hb hbox hg) | ((with_reducible refine gate_dst (N := 8) rfl ?_); (try (refine gate_guard (by rfl) ?_; dsimp only)); refine box_event ?hg (N := 8) ?hd (cs := #[.string a0, .int .i64 0, .int .i64 0]) (t := 90) ?hr ?_; (case hd => rfl); (case hg => rfl); (case hr => first | (go_simp; done) | (go_simp; rfl)); intro gb188 hg w5 hbox hb; have n0_ := Aside0.mk (blk_below (g := gb187) (o := .cells #[.slice none 0 0, .slice none 0 0, .int .i64 0, .int .i64 0] 36 (0, 0)) (by (with_reducible repeat (first | refine blk_drewN ?_ _ | refine blk_drew ?_ | refine blk_alloc ?_ _)); exact BK187.out) hb); have n1_ := Aside0.mk (below_step (by repeat (first | (with_reducible first | exact HB.out | apply below_alloc | apply pw_below_drewN | apply below_drew1 | refine below_set ?_ GE187.out) | exact HB.out)) hb); have n2_ := Aside0.mk ((by rw [hg]; exact Nat.ne_of_lt (blk_lt (g := gb187) (o := .cells #[.slice none 0 0, .slice none 0 0, .int .i64 0, .int .i64 0] 36 (0, 0)) (by (with_reducible repeat (first | refine blk_drewN ?_ _ | refine blk_drew ?_ | refine blk_alloc ?_ _)); exact BK187.out)) : gb187 ≠ gb188)); have n3_ := Aside0.mk ((by rw [hg]; exact Nat.ne_of_gt (blk_lt (g := gb187) (o := .cells #[.slice none 0 0, .slice none 0 0, .int .i64 0, .int .i64 0] 36 (0, 0)) (by (with_reducible repeat (first | refine blk_drewN ?_ _ | refine blk_drew ?_ | refine blk_alloc ?_ _)); exact BK187.out)) : gb188 ≠ gb187)); have n4_ := Aside0.mk ((show IsS90 w w5 gb188 a0 0 0 from ⟨hbox, (by rw [hg]; exact (below_size (by repeat (first | (with_reducible first | exact HB.out | apply below_alloc | apply pw_below_drewN | apply below_drew1 | refine below_set ?_ GE187.out) | exact HB.out))) : w.heap.size ≤ gb188)⟩)); clear BK187; clear HB; have BK187 := n0_; have HB := n1_; have NB187_188 := n2_; have NB188_187 := n3_; have HI188 := n4_; clear n0_ n1_ n2_ n3_ n4_; clear hb hbox hg) | ((with_reducible refine gate_dst (N := 5) rfl ?_); (try (refine gate_guard (by rfl) ?_; dsimp only)); refine box_event ?hg (N := 5) ?hd (cs := #[.slice none 0 0, .slice none 0 0, .int .i64 0, .int .i64 0]) (t := 36) ?hr ?_; (case hd => rfl); (case hg => rfl); (case hr => first | (go_simp; done) | (go_simp; rfl)); intro gb189 hg w6 hbox hb; have n0_ := Aside0.mk (blk_below (g := gb187) (o := .cells #[.slice none 0 0, .slice none 0 0, .int .i64 0, .int .i64 0] 36 (0, 0)) (by (with_reducible repeat (first | refine blk_drewN ?_ _ | refine blk_drew ?_ | refine blk_alloc ?_ _)); exact BK187.out) hb); have n1_ := Aside0.mk (IsS90.below (by repeat (first | (with_reducible first | exact HI188.out | apply IsS90.alloc | apply IsS90.drewN | apply IsS90.drew | apply IsS90.set_0 | apply IsS90.set_1 | apply IsS90.set_2 | apply IsS90.far (hne := NB188_187.out)) | exact HI188.out)) hb); have n2_ := Aside0.mk (below_step (by repeat (first | (with_reducible first | exact HB.out | apply below_alloc | apply pw_below_drewN | apply below_drew1 | refine below_set ?_ (IsS90.ge HI188.out) | refine below_set ?_ GE187.out) | exact HB.out)) hb); have n3_ := Aside0.mk (hbox); have n4_ := Aside0.mk ((by rw [hg]; exact (below_size (by repeat (first | (with_reducible first | exact HB.out | apply below_alloc | apply pw_below_drewN | apply below_drew1 | refine below_set ?_ (IsS90.ge HI188.out) | refine below_set ?_ GE187.out) | exact HB.out))) : w.heap.size ≤ gb189)); have n5_ := Aside0.mk ((by rw [hg]; exact (below_size (by repeat (first | (with_reducible first | exact HB.out | apply below_alloc | apply pw_below_drewN | apply below_drew1 | refine below_set ?_ (IsS90.ge HI188.out) | refine below_set ?_ GE187.out) | exact HB.out))) : w.heap.size ≤ gb189)); have n6_ := Aside0.mk ((by rw [hg]; exact Nat.ne_of_lt (blk_lt (g := gb187) (o := .cells #[.slice none 0 0, .slice none 0 0, .int .i64 0, .int .i64 0] 36 (0, 0)) (by (with_reducible repeat (first | refine blk_drewN ?_ _ | refine blk_drew ?_ | refine blk_alloc ?_ _)); exact BK187.out)) : gb187 ≠ gb189)); have n7_ := Aside0.mk ((by rw [hg]; exact Nat.ne_of_gt (blk_lt (g := gb187) (o := .cells #[.slice none 0 0, .slice none 0 0, .int .i64 0, .int .i64 0] 36 (0, 0)) (by (with_reducible repeat (first | refine blk_drewN ?_ _ | refine blk_drew ?_ | refine blk_alloc ?_ _)); exact BK187.out)) : gb189 ≠ gb187)); have n8_ := Aside0.mk ((by rw [hg]; exact Nat.ne_of_lt (IsS90.lt (show IsS90 w _ gb188 a0 0 0 from by repeat (first | (with_reducible first | exact HI188.out | apply IsS90.alloc | apply IsS90.drewN | apply IsS90.drew | apply IsS90.set_0 | apply IsS90.set_1 | apply IsS90.set_2 | apply IsS90.far (hne := NB188_187.out)) | exact HI188.out))) : gb188 ≠ gb189)); have n9_ := Aside0.mk ((by rw [hg]; exact Nat.ne_of_gt (IsS90.lt (show IsS90 w _ gb188 a0 0 0 from by repeat (first | (with_reducible first | exact HI188.out | apply IsS90.alloc | apply IsS90.drewN | apply IsS90.drew | apply IsS90.set_0 | apply IsS90.set_1 | apply IsS90.set_2 | apply IsS90.far (hne := NB188_187.out)) | exact HI188.out))) : gb189 ≠ gb188)); clear BK187; clear HI188; clear HB; have BK187 := n0_; have HI188 := n1_; have HB := n2_; have BK189 := n3_; have GW189 := n4_; have GE189 := n5_; have NB187_189 := n6_; have NB189_187 := n7_; have NB188_189 := n8_; have NB189_188 := n9_; clear n0_ n1_ n2_ n3_ n4_ n5_ n6_ n7_ n8_ n9_; clear hb hbox hg) | ((with_reducible refine gate_callee (f := 57) rfl ?_); refine goesL_ (some 10) rfl rfl Try.func57 (by kernel_rfl) rfl #[.pointer (some ⟨gb188, 0, none⟩)] rfl (by (try simp only [List.map_toArray, List.map_cons, List.map_nil]); first | done | rfl | (simp only [List.length_drop, List.length_take]; rfl)) ?_; (with_reducible refine (entry_Taker_Num.calls k gb188 a0 0 0 t190 t191 t192 t193 w _ ?side1 ?side2 A2.out).mono ?_); (case side1 => repeat (first | (with_reducible first | exact HI188.out | apply IsS90.alloc | apply IsS90.drewN | apply IsS90.drew | apply IsS90.set_0 | apply IsS90.set_1 | apply IsS90.set_2 | apply IsS90.far (hne := NB188_187.out) | apply IsS90.far (hne := NB188_189.out)) | exact HI188.out)); (case side2 => repeat (first | (with_reducible first | exact HB.out | apply below_alloc | apply pw_below_drewN | apply below_drew1 | refine below_set ?_ (IsS90.ge HI188.out) | refine below_set ?_ GE187.out | refine below_set ?_ GE189.out) | exact HB.out)); rintro e w7 ⟨rfl, hi, hb, hk⟩; refine ⟨_, rfl, ?_⟩; have n0_ := Aside0.mk (KeepBut.blk hk (g' := gb187) (o := .cells #[.slice none 0 0, .slice none 0 0, .int .i64 0, .int .i64 0] 36 (0, 0)) (by (with_reducible repeat (first | refine blk_drewN ?_ _ | refine blk_drew ?_ | refine blk_alloc ?_ _)); exact BK187.out) NB187_188.out (by simp)); have n1_ := Aside0.mk (KeepBut.blk hk (g' := gb189) (o := .cells #[.slice none 0 0, .slice none 0 0, .int .i64 0, .int .i64 0] 36 (0, 0)) (by (with_reducible repeat (first | refine blk_drewN ?_ _ | refine blk_drew ?_ | refine blk_alloc ?_ _)); exact BK189.out) NB189_188.out (by simp)); have n2_ := Aside0.mk (hb); have n3_ := Aside0.mk (hi); clear BK187; clear BK189; clear HB; clear HI188; have BK187 := n0_; have BK189 := n1_; have HB := n2_; have HI188 := n3_; clear n0_ n1_ n2_ n3_; (try clear hb); (try clear hb2); (try clear hk); (try clear hi)))
  go_loopg [14] k (fun kq v14 w' => ∃ (x14_1 : Int) (x189000_1 : ByteArray) (x189001_1 : Int) (x189002_1 : Int) (x190000_1 : List Int) (u190000 : Value), v14 = .int .i64 x14_1 ∧ Aside0 (sheet_take.l0 kq a0 ji3 x14_1 x189000_1 x189001_1 x189002_1 x190000_1 0 0 = some (r1, r2, r3, r4, r5)) ∧ Aside0 (kq ≤ k) ∧ Aside0 (Kd.R (Kd.int .i64) 3 w' w.heap.size (fun _ => True) u190000 x190000_1) ∧ Aside0 (w'.heap[gb187]? = some (.cells #[(.slice none 0 0), (.slice none 0 0), .int .i64 0, .int .i64 0] 36 (0, 0))) ∧ Aside0 (w'.heap[gb189]? = some (.cells #[u190000, (.slice none 0 0), .int .i64 0, .int .i64 0] 36 (0, 0))) ∧ Aside0 (IsS90 w w' gb188 x189000_1 x189001_1 x189002_1) ∧ Aside0 (Below w.heap.size w w'))
  case atStart => exact ⟨(0), (t191), (t192), (t193), (([] : List Int)), (.slice none 0 0), (by first | rfl | (simp; done) | (simp [*]; done)), H', ⟨Nat.le_refl _⟩, ⟨by first | exact Kd.R_nil _ _ _ _ _ | exact Kd.N_nil _ _ _ _ _ | exact Kd.V_nil _ _ _ _ _ | exact Kd.Q_nil _ _ _ _ _ | exact Kd.S_nil _ _ _ _ _⟩, ⟨by (with_reducible repeat (first | refine blk_drewN ?_ _ | refine blk_drew ?_ | refine blk_alloc ?_ _)); exact BK187.out⟩, ⟨by (with_reducible repeat (first | refine blk_drewN ?_ _ | refine blk_drew ?_ | refine blk_alloc ?_ _)); exact BK189.out⟩, ⟨by repeat (first | (with_reducible first | exact HI188.out | apply IsS90.alloc | apply IsS90.drewN | apply IsS90.drew | apply IsS90.set_0 | apply IsS90.set_1 | apply IsS90.set_2 | apply IsS90.far (hne := NB188_187.out) | apply IsS90.far (hne := NB188_189.out)) | exact HI188.out)⟩, ⟨by repeat (first | (with_reducible first | exact HB.out | apply below_alloc | apply pw_below_drewN | apply below_drew1 | refine below_set ?_ (IsS90.ge HI188.out) | refine below_set ?_ GE187.out | refine below_set ?_ GE189.out) | exact HB.out)⟩⟩
  clear H'
  try clear p2
  try clear c4
  try clear c5
  obtain ⟨x14_1, x189000_1, x189001_1, x189002_1, x190000_1, u190000, rfl, HA, HK1, HO_190000, BK187, BK189, HI188, HB⟩ := hrel
  cases gk with
  | zero => exact absurd HA.out (by simp [sheet_take.l0])
  | succ k1 => ?_
  have H := HA.out
  clear HA
  simp only [sheet_take.l0] at H
  by_cases c8 : x14_1 < ji3
  · rw [if_pos c8] at H
    have c8b0 : decide (x14_1 < ji3) = true := decide_eq_true c8
    clear c8
    replace H := Option.bind_eq_some_iff.mp H
    obtain ⟨⟨t194, t195, t196, t197⟩, A90, H⟩ := H
    replace H : (if x190000_1.length < 17592186044416 then (sheet_take.l0 k1 a0 ji3 (wrap64 (x14_1 + 1)) t195 t196 t197 (x190000_1 ++ [t194]) 0 0) else (none)) = some (r1, r2, r3, r4, r5) := H
    have A9 := Aside0.mk A90
    clear A90
    by_cases c10 : x190000_1.length < 17592186044416
    rotate_left
    · rw [if_neg c10] at H
      exact absurd H (by simp)
    rw [if_pos c10] at H
    have LMc10 := Aside0.mk c10
    clear c10
    obtain ⟨y198, hy198⟩ : ∃ y_ : List Int, y_ = (x190000_1 ++ [t194]) := ⟨_, rfl⟩
    replace H : (sheet_take.l0 k1 a0 ji3 (wrap64 (x14_1 + 1)) t195 t196 t197 y198 0 0) = some (r1, r2, r3, r4, r5) := by first | (rw [hy198]; with_reducible exact H) | (have H2_ := (Option.bind_some _ _).symm.trans H; rw [hy198]; with_reducible exact H2_) | (have H2_ := (Option.bind_some _ _).symm.trans H; with_reducible exact H2_) | with_reducible exact H | (rw [hy198]; exact H) | exact H
    have Ny198 := Aside0.mk hy198
    clear hy198
    have H' := Aside0.mk H
    clear H
    try go_wp2
    have n0_ := Aside0.mk (Kd.R_drew HO_190000.out)
    have n1_ := Aside0.mk (blk_drew BK187.out)
    have n2_ := Aside0.mk (blk_drew BK189.out)
    have n3_ := Aside0.mk (IsS90.drew HI188.out)
    have n4_ := Aside0.mk (below_drew1 HB.out)
    clear HO_190000
    clear BK187
    clear BK189
    clear HI188
    clear HB
    have HO_190000 := n0_
    have BK187 := n1_
    have BK189 := n2_
    have HI188 := n3_
    have HB := n4_
    clear n0_ n1_ n2_ n3_ n4_
    refine start_ (n := 8) (S := fun w' => w'.cell? ⟨gb189, 0, none⟩ = some (u190000) ∧ w'.cell? ⟨gb189, 1, none⟩ = some (.slice none 0 0) ∧ w'.cell? ⟨gb189, 2, none⟩ = some (.int .i64 0) ∧ w'.cell? ⟨gb189, 3, none⟩ = some (.int .i64 0)) (ds := [7]) #[false, false, false, false, false, false, false, false] (by kernel_rfl) rfl rfl ⟨(blk_cell BK189.out 0).trans rfl, (blk_cell BK189.out 1).trans rfl, (blk_cell BK189.out 2).trans rfl, (blk_cell BK189.out 3).trans rfl⟩ (fun hHeld => ?_); refine with_tabW sheet_take.tab5 sheet_take.bits5 (fun HT_ HW_ => ?_)
    generalize wr.drew = w11 at HO_190000 BK187 BK189 HI188 HB hHeld ⊢
    refine pure_ (i := 0) (N := some 16) (v := ?_) (a' := ?_) #[true, false, false, false, false, false, false, false] rfl rfl (any_of HT_.out (by kernel_rfl)) (fun _ _ _ h => h) (Or.inl ⟨by rfl, ?_⟩) ?_ ?_
    rotate_left
    · intro w'
      go_simp
      with_reducible rfl
    rotate_left
    · simp only [Act.put, List.setIfInBounds_toArray, List.set_cons_zero, List.set_cons_succ, i64_w, i32_w]
      rfl
    refine pure_ (i := 2) (N := some 18) (v := ?_) (a' := ?_) #[true, false, true, false, false, false, false, false] rfl rfl (any_of HT_.out (by kernel_rfl)) (fun _ _ _ h => h) (Or.inl ⟨by rfl, ?_⟩) ?_ ?_
    rotate_left
    · intro w'
      go_simp
      with_reducible rfl
    rotate_left
    · simp only [Act.put, List.setIfInBounds_toArray, List.set_cons_zero, List.set_cons_succ, i64_w, i32_w]
      rfl
    refine take_ (i := 1) (N := some 17) (v := ?_) (a' := ?_) #[true, true, true, false, false, false, false, false] rfl rfl (take_ofW HT_.out HW_.out (by kernel_rfl)) (fun _ _ _ h => h) (Or.inl ⟨by rfl, ?_⟩) hHeld ?_ ?_
    rotate_left
    · rintro w' ⟨s0, s1, s2, s3⟩
      go_simp
      with_reducible rfl
    rotate_left
    · simp only [Act.put, List.setIfInBounds_toArray, List.set_cons_zero, List.set_cons_succ, i64_w, i32_w]
      rfl
    refine one_ (i := 3) (N := some 19) #[true, true, true, true, false, false, false, false] rfl rfl (one_of HT_.out (by kernel_rfl)) (by decide) (fun K hK => ?_)
    refine goes_ Try.func57 (by kernel_rfl) rfl #[.pointer (some ⟨gb188, 0, none⟩)] (by rfl) rfl rfl (by (try simp only [List.map_toArray, List.map_cons, List.map_nil]); first | done | rfl | (simp only [List.length_drop, List.length_take]; rfl)) ?_
    with_reducible refine (entry_Taker_Num.calls k1 gb188 x189000_1 x189001_1 x189002_1 t194 t195 t196 t197 w _ ?side1 ?side2 A9.out).mono ?_
    (case side1 => repeat (first | (with_reducible first | exact HI188.out | apply IsS90.alloc | apply IsS90.drewN | apply IsS90.drew | apply IsS90.set_0 | apply IsS90.set_1 | apply IsS90.set_2 | apply IsS90.far (hne := NB188_187.out) | apply IsS90.far (hne := NB188_189.out)) | exact HI188.out))
    (case side2 => repeat (first | (with_reducible first | exact HB.out | apply below_alloc | apply pw_below_drewN | apply below_drew1 | refine below_set ?_ (IsS90.ge HI188.out) | refine below_set ?_ GE187.out | refine below_set ?_ GE189.out) | exact HB.out))
    rintro e w12 ⟨rfl, hi, hb, hk⟩
    refine ⟨_, rfl, ?_⟩
    have n0_ := Aside0.mk (Kd.R_mono (Kd.R_keep (IsS90.apart (show IsS90 w _ gb188 x189000_1 x189001_1 x189002_1 from by repeat (first | (with_reducible first | exact HI188.out | apply IsS90.alloc | apply IsS90.drewN | apply IsS90.drew | apply IsS90.set_0 | apply IsS90.set_1 | apply IsS90.set_2 | apply IsS90.far (hne := NB188_187.out) | apply IsS90.far (hne := NB188_189.out)) | exact HI188.out)) (by (with_reducible repeat (first | apply Kd.R_alloc | apply Kd.R_drewN | apply Kd.R_drew)); exact HO_190000.out) (by decide)) hk (fun _ h => h.2)) (fun _ h => h.1))
    have n1_ := Aside0.mk (KeepBut.blk hk (g' := gb187) (o := .cells #[.slice none 0 0, .slice none 0 0, .int .i64 0, .int .i64 0] 36 (0, 0)) (by (with_reducible repeat (first | refine blk_drewN ?_ _ | refine blk_drew ?_ | refine blk_alloc ?_ _)); exact BK187.out) NB187_188.out (by simp))
    have n2_ := Aside0.mk (KeepBut.blk hk (g' := gb189) (o := .cells #[u190000, .slice none 0 0, .int .i64 0, .int .i64 0] 36 (0, 0)) (by (with_reducible repeat (first | refine blk_drewN ?_ _ | refine blk_drew ?_ | refine blk_alloc ?_ _)); exact BK189.out) NB189_188.out (by simp))
    have n3_ := Aside0.mk (hb)
    have n4_ := Aside0.mk (hi)
    clear HO_190000
    clear BK187
    clear BK189
    clear HB
    clear HI188
    have HO_190000 := n0_
    have BK187 := n1_
    have BK189 := n2_
    have HB := n3_
    have HI188 := n4_
    clear n0_ n1_ n2_ n3_ n4_
    (try clear hb)
    (try clear hb2)
    (try clear hk)
    (try clear hi)
    refine hK.out _ _ ⟨(blk_cell BK189.out 0).trans rfl, (blk_cell BK189.out 1).trans rfl, (blk_cell BK189.out 2).trans rfl, (blk_cell BK189.out 3).trans rfl⟩ (fun hHeld => ?_)
    clear hK K
    refine norm_ (a' := ?_) ?_ ?_
    rotate_left
    · show Act.put _ (some 19) _ = _
      simp only [Act.put, List.setIfInBounds_toArray, List.set_cons_zero, List.set_cons_succ, i64_w, i32_w]
      rfl
    refine one_ (i := 4) (N := some 20) #[true, true, true, true, true, false, false, false] rfl rfl (one_of HT_.out (by kernel_rfl)) (by decide) (fun K hK => ?_)
    refine value_ (w1 := ?_) (v := ?_) (by rfl) rfl ?_ ?_
    rotate_left 2
    · go_simp
      constructor
      · rfl
      rfl
    refine hK.out _ _ ⟨(blk_cell (blk_alloc BK189.out _) 0).trans rfl, (blk_cell (blk_alloc BK189.out _) 1).trans rfl, (blk_cell (blk_alloc BK189.out _) 2).trans rfl, (blk_cell (blk_alloc BK189.out _) 3).trans rfl⟩ (fun hHeld => ?_)
    clear hK K
    refine norm_ (a' := ?_) ?_ ?_
    rotate_left
    · show Act.put _ (some 20) _ = _
      simp only [Act.put, List.setIfInBounds_toArray, List.set_cons_zero, List.set_cons_succ, i64_w, i32_w]
      rfl
    refine one_ (i := 5) (N := some 21) #[true, true, true, true, true, true, false, false] rfl rfl (one_of HT_.out (by kernel_rfl)) (by decide) (fun K hK => ?_)
    refine Kd.R_append_step (Kd.int .i64) (w0 := w) w.heap.size (by rfl) (.tmp 17) (.tmp 20) 34 3 (.int .i64 0) 8 rfl Try.underlying34 info3 rfl (by decide) (by omega) u190000 x190000_1 t194 [.int .i64 t194] (fun _ => True) (fun _ => False) rfl rfl ?aP (fun _ hk => hk.elim) ?aF ?aO ?aB ?aS ?aL ?_
    (case aP => exact rfl)
    (case aB => exact (by repeat (first | (with_reducible first | exact HB.out | apply below_alloc | apply pw_below_drewN | apply below_drew1 | refine below_set ?_ (IsS90.ge HI188.out) | refine below_set ?_ GE187.out | refine below_set ?_ GE189.out) | exact HB.out)))
    (case aF => exact (fun _ _ => trivial))
    (case aO => exact (by (with_reducible repeat (first | apply Kd.R_alloc | apply Kd.R_drewN | apply Kd.R_drew)); exact HO_190000.out))
    (case aS => exact (below_size (by repeat (first | (with_reducible first | exact HB.out | apply below_alloc | apply pw_below_drewN | apply below_drew1 | refine below_set ?_ (IsS90.ge HI188.out) | refine below_set ?_ GE187.out | refine below_set ?_ GE189.out) | exact HB.out))))
    (case aL => have := LMc10.out; omega)
    intro v199 w13 ho hb hg hat
    rw [← Ny198.out] at ho
    have n0_ := Aside0.mk (blk_grown (g := gb187) (o := .cells #[.slice none 0 0, .slice none 0 0, .int .i64 0, .int .i64 0] 36 (0, 0)) (by (with_reducible repeat (first | refine blk_drewN ?_ _ | refine blk_drew ?_ | refine blk_alloc ?_ _)); exact BK187.out) hg (Kd.R_ne HO_190000.out BK187.out (by decide)))
    have n1_ := Aside0.mk (blk_grown (g := gb189) (o := .cells #[u190000, .slice none 0 0, .int .i64 0, .int .i64 0] 36 (0, 0)) (by (with_reducible repeat (first | refine blk_drewN ?_ _ | refine blk_drew ?_ | refine blk_alloc ?_ _)); exact BK189.out) hg (Kd.R_ne HO_190000.out BK189.out (by decide)))
    have n2_ := Aside0.mk (IsS90.grown (show IsS90 w _ gb188 t195 t196 t197 from by repeat (first | (with_reducible first | exact HI188.out | apply IsS90.alloc | apply IsS90.drewN | apply IsS90.drew | apply IsS90.set_0 | apply IsS90.set_1 | apply IsS90.set_2 | apply IsS90.far (hne := NB188_187.out) | apply IsS90.far (hne := NB188_189.out)) | exact HI188.out)) hg (IsS90.own_ne HI188.out HO_190000.out (by decide)))
    have n3_ := Aside0.mk (hb)
    have n4_ := Aside0.mk (ho)
    clear BK187
    clear BK189
    clear HI188
    clear HB
    clear HO_190000
    have BK187 := n0_
    have BK189 := n1_
    have HI188 := n2_
    have HB := n3_
    have HO200 := n4_
    clear n0_ n1_ n2_ n3_ n4_
    clear ho hb hg hat
    obtain ⟨Ao14, co14, eo14⟩ := Kd.R_slice HO200.out
    (first | subst eo14 | (injection eo14 with f1_ f2_ f3_; have f4_ := f1_.symm; have f5_ := f3_.symm; clear f1_ f2_ f3_; subst f4_; subst f5_))
    refine hK.out _ _ ⟨(blk_cell BK189.out 0).trans rfl, (blk_cell BK189.out 1).trans rfl, (blk_cell BK189.out 2).trans rfl, (blk_cell BK189.out 3).trans rfl⟩ (fun hHeld => ?_)
    clear hK K
    refine norm_ (a' := ?_) ?_ ?_
    rotate_left
    · show Act.put _ (some 21) _ = _
      simp only [Act.put, List.setIfInBounds_toArray, List.set_cons_zero, List.set_cons_succ, i64_w, i32_w]
      rfl
    refine pure_ (i := 6) (N := some 22) (v := ?_) (a' := ?_) #[true, true, true, true, true, true, true, false] rfl rfl (any_of HT_.out (by kernel_rfl)) (fun _ _ _ h => h) (Or.inl ⟨by rfl, ?_⟩) ?_ ?_
    rotate_left
    · intro w'
      go_simp
      with_reducible rfl
    rotate_left
    · simp only [Act.put, List.setIfInBounds_toArray, List.set_cons_zero, List.set_cons_succ, i64_w, i32_w]
      rfl
    refine last_ (i := 7) (N := none) #[true, true, true, true, true, true, true, true] rfl rfl (one_of HT_.out (by kernel_rfl)) (by decide) (fun K hK => ?_)
    have hs15 : w13.cell? ⟨gb189, 0, none⟩ = some (u190000) := (blk_cell BK189.out 0).trans rfl
    have hfs15 := blk_frozen BK189.out 0
    have hns15_0 := NB187_189.out
    have hms15_0 := NB189_187.out
    refine skip_ (w1 := ?_) (by rfl) rfl ?_ ?_
    rotate_left
    · go_simp
      rfl
    refine hK.out _ _ ?_
    clear hK K
    refine done_ (done_of HT_.out (by kernel_rfl)) ?_
    try go_wp2
    go_roundg k1
    case measure => have := HK1.out; omega
    case rel => exact ⟨(wrap64 (x14_1 + 1)), (t195), (t196), (t197), (y198), (.slice Ao14 y198.length co14), (by first | rfl | (simp; done) | (simp [*]; done)), H', ⟨by have := HK1.out; omega⟩, ⟨by (with_reducible repeat (first | apply Kd.R_alloc | apply Kd.R_drewN | apply Kd.R_drew)); exact Kd.R_mono (Kd.R_far (p := ⟨gb189, 0, none⟩) (Kd.R_types HO200.out BK189.out (by decide)) (fun _ hk => hk.2) (.slice Ao14 y198.length co14)) (fun _ hk => trivial)⟩, ⟨by (with_reducible repeat (first | refine blk_drewN ?_ _ | refine blk_drew ?_ | refine blk_alloc ?_ _)); refine blk_far ?_ NB187_189.out _; (with_reducible repeat (first | refine blk_drewN ?_ _ | refine blk_drew ?_ | refine blk_alloc ?_ _)); exact BK187.out⟩, ⟨by (with_reducible repeat (first | refine blk_drewN ?_ _ | refine blk_drew ?_ | refine blk_alloc ?_ _)); refine blk_put (cs := #[u190000, .slice none 0 0, .int .i64 0, .int .i64 0]) ?_ 0 _ rfl; (with_reducible repeat (first | refine blk_drewN ?_ _ | refine blk_drew ?_ | refine blk_alloc ?_ _)); exact BK189.out⟩, ⟨by repeat (first | (with_reducible first | exact HI188.out | apply IsS90.alloc | apply IsS90.drewN | apply IsS90.drew | apply IsS90.set_0 | apply IsS90.set_1 | apply IsS90.set_2 | apply IsS90.far (hne := NB188_187.out) | apply IsS90.far (hne := NB188_189.out)) | exact HI188.out)⟩, ⟨by repeat (first | (with_reducible first | exact HB.out | apply below_alloc | apply pw_below_drewN | apply below_drew1 | refine below_set ?_ (IsS90.ge HI188.out) | refine below_set ?_ GE187.out | refine below_set ?_ GE189.out) | exact HB.out)⟩⟩
  rw [if_neg c8] at H
  have c8b0 : decide (x14_1 < ji3) = false := decide_eq_false c8
  clear c8
  replace H := Option.bind_eq_some_iff.mp H
  obtain ⟨⟨t201, t202, t203, t204⟩, A160, H⟩ := H
  replace H : (sheet_take.l1 k1 a0 (mn t201 (a0.size : Int)) 0 t202 t203 t204 x190000_1 ([] : List (S32)) 0 0) = some (r1, r2, r3, r4, r5) := H
  have A16 := Aside0.mk A160
  clear A160
  obtain ⟨ji17, hji17⟩ : ∃ j_ : Int, (mn t201 (a0.size : Int)) = j_ := ⟨_, rfl⟩
  replace H : (sheet_take.l1 k1 a0 ji17 0 t202 t203 t204 x190000_1 ([] : List (S32)) 0 0) = some (r1, r2, r3, r4, r5) := by first | (rw [hji17] at H; exact H) | (simp only [hji17] at H ⊢; exact H)
  (try rw [hji17] at A16)
  have hji17_ : (if (a0.size : Int) < t201 then (a0.size : Int) else t201) = ji17 := hji17
  (try (have hji17_n := hji17_; simp only [Int.ofNat_lt] at hji17_n))
  have H' := Aside0.mk H
  clear H
  go_wp2_with (first | ((with_reducible refine gate_callee (f := 57) rfl ?_); refine goesL_ (some 25) rfl rfl Try.func57 (by kernel_rfl) rfl #[.pointer (some ⟨gb188, 0, none⟩)] rfl (by (try simp only [List.map_toArray, List.map_cons, List.map_nil]); first | done | rfl | (simp only [List.length_drop, List.length_take]; rfl)) ?_; (with_reducible refine (entry_Taker_Num.calls k1 gb188 x189000_1 x189001_1 x189002_1 t201 t202 t203 t204 w _ ?side1 ?side2 A16.out).mono ?_); (case side1 => repeat (first | (with_reducible first | exact HI188.out | apply IsS90.alloc | apply IsS90.drewN | apply IsS90.drew | apply IsS90.set_0 | apply IsS90.set_1 | apply IsS90.set_2 | apply IsS90.far (hne := NB188_187.out) | apply IsS90.far (hne := NB188_189.out)) | exact HI188.out)); (case side2 => repeat (first | (with_reducible first | exact HB.out | apply below_alloc | apply pw_below_drewN | apply below_drew1 | refine below_set ?_ (IsS90.ge HI188.out) | refine below_set ?_ GE187.out | refine below_set ?_ GE189.out) | exact HB.out)); rintro e w18 ⟨rfl, hi, hb, hk⟩; refine ⟨_, rfl, ?_⟩; have n0_ := Aside0.mk (Kd.R_mono (Kd.R_keep (IsS90.apart (show IsS90 w _ gb188 x189000_1 x189001_1 x189002_1 from by repeat (first | (with_reducible first | exact HI188.out | apply IsS90.alloc | apply IsS90.drewN | apply IsS90.drew | apply IsS90.set_0 | apply IsS90.set_1 | apply IsS90.set_2 | apply IsS90.far (hne := NB188_187.out) | apply IsS90.far (hne := NB188_189.out)) | exact HI188.out)) (by (with_reducible repeat (first | apply Kd.R_alloc | apply Kd.R_drewN | apply Kd.R_drew)); exact HO_190000.out) (by decide)) hk (fun _ h => h.2)) (fun _ h => h.1)); have n1_ := Aside0.mk (KeepBut.blk hk (g' := gb187) (o := .cells #[.slice none 0 0, .slice none 0 0, .int .i64 0, .int .i64 0] 36 (0, 0)) (by (with_reducible repeat (first | refine blk_drewN ?_ _ | refine blk_drew ?_ | refine blk_alloc ?_ _)); exact BK187.out) NB187_188.out (by simp)); have n2_ := Aside0.mk (KeepBut.blk hk (g' := gb189) (o := .cells #[u190000, .slice none 0 0, .int .i64 0, .int .i64 0] 36 (0, 0)) (by (with_reducible repeat (first | refine blk_drewN ?_ _ | refine blk_drew ?_ | refine blk_alloc ?_ _)); exact BK189.out) NB189_188.out (by simp)); have n3_ := Aside0.mk (hb); have n4_ := Aside0.mk (hi); clear HO_190000; clear BK187; clear BK189; clear HB; clear HI188; have HO_190000 := n0_; have BK187 := n1_; have BK189 := n2_; have HB := n3_; have HI188 := n4_; clear n0_ n1_ n2_ n3_ n4_; (try clear hb); (try clear hb2); (try clear hk); (try clear hi)))
  go_loopg [29] k1 (fun kq v29 w' => ∃ (x29_2 : Int) (x189000_2 : ByteArray) (x189001_2 : Int) (x189002_2 : Int) (x190001_2 : List (S32)) (u190001 : Value), v29 = .int .i64 x29_2 ∧ Aside0 (sheet_take.l1 kq a0 ji17 x29_2 x189000_2 x189001_2 x189002_2 x190000_1 x190001_2 0 0 = some (r1, r2, r3, r4, r5)) ∧ Aside0 (kq ≤ k1) ∧ Aside0 (Kd.R (Kd.int .i64) 3 w' w.heap.size (fun _ => True) u190000 x190000_1) ∧ Aside0 (Kd.R k32 32 w' w.heap.size (fun _ => True) u190001 x190001_2) ∧ Aside0 (w'.heap[gb187]? = some (.cells #[(.slice none 0 0), (.slice none 0 0), .int .i64 0, .int .i64 0] 36 (0, 0))) ∧ Aside0 (w'.heap[gb189]? = some (.cells #[u190000, u190001, .int .i64 0, .int .i64 0] 36 (0, 0))) ∧ Aside0 (IsS90 w w' gb188 x189000_2 x189001_2 x189002_2) ∧ Aside0 (Below w.heap.size w w'))
  case atStart => exact ⟨(0), (t202), (t203), (t204), (([] : List (S32))), (.slice none 0 0), (by first | rfl | (simp; done) | (simp [*]; done)), H', ⟨Nat.le_refl _⟩, ⟨by (with_reducible repeat (first | apply Kd.R_alloc | apply Kd.R_drewN | apply Kd.R_drew)); exact HO_190000.out⟩, ⟨by first | exact Kd.R_nil _ _ _ _ _ | exact Kd.N_nil _ _ _ _ _ | exact Kd.V_nil _ _ _ _ _ | exact Kd.Q_nil _ _ _ _ _ | exact Kd.S_nil _ _ _ _ _⟩, ⟨by (with_reducible repeat (first | refine blk_drewN ?_ _ | refine blk_drew ?_ | refine blk_alloc ?_ _)); exact BK187.out⟩, ⟨by (with_reducible repeat (first | refine blk_drewN ?_ _ | refine blk_drew ?_ | refine blk_alloc ?_ _)); exact BK189.out⟩, ⟨by repeat (first | (with_reducible first | exact HI188.out | apply IsS90.alloc | apply IsS90.drewN | apply IsS90.drew | apply IsS90.set_0 | apply IsS90.set_1 | apply IsS90.set_2 | apply IsS90.far (hne := NB188_187.out) | apply IsS90.far (hne := NB188_189.out)) | exact HI188.out)⟩, ⟨by repeat (first | (with_reducible first | exact HB.out | apply below_alloc | apply pw_below_drewN | apply below_drew1 | refine below_set ?_ (IsS90.ge HI188.out) | refine below_set ?_ GE187.out | refine below_set ?_ GE189.out) | exact HB.out)⟩⟩
  clear H'
  try clear c1
  try clear p2
  try clear c4
  try clear c5
  try clear p6
  try clear c8
  try clear c8b0
  try clear c10
  try clear p2
  obtain ⟨x29_2, x189000_2, x189001_2, x189002_2, x190001_2, u190001, rfl, HA, HK2, HO_190000, HO_190001, BK187, BK189, HI188, HB⟩ := hrel
  cases gk with
  | zero => exact absurd HA.out (by simp [sheet_take.l1])
  | succ k2 => ?_
  have H := HA.out
  clear HA
  simp only [sheet_take.l1] at H
  by_cases c19 : x29_2 < ji17
  · rw [if_pos c19] at H
    have c19b0 : decide (x29_2 < ji17) = true := decide_eq_true c19
    clear c19
    replace H := Option.bind_eq_some_iff.mp H
    obtain ⟨⟨t213, t214, t215, t216⟩, A200, H⟩ := H
    replace H : ((entry_Taker_Num.f k2 t214 t215 t216).bind fun bt217 => ((entry_Taker_Text.f k2 bt217.2.1 bt217.2.2.1 bt217.2.2.2).bind fun bt221 => ((entry_Taker_Text.f k2 bt221.2.1 bt221.2.2.1 bt221.2.2.2).bind fun bt225 => ((entry_Taker_Num.f k2 bt225.2.1 bt225.2.2.1 bt225.2.2.2).bind fun bt229 => (if x190001_2.length < 2513169434916 then (sheet_take.l1 k2 a0 ji17 (wrap64 (x29_2 + 1)) bt229.2.1 bt229.2.2.1 bt229.2.2.2 x190000_1 (x190001_2 ++ [(⟨t213, bt217.1, bt221.1, bt225.1, bt229.1⟩ : S32)]) 0 0) else (none)))))) = some (r1, r2, r3, r4, r5) := H
    have A20 := Aside0.mk A200
    clear A200
    replace H := Option.bind_eq_some_iff.mp H
    obtain ⟨⟨t217, t218, t219, t220⟩, A210, H⟩ := H
    replace H : ((entry_Taker_Text.f k2 t218 t219 t220).bind fun bt221 => ((entry_Taker_Text.f k2 bt221.2.1 bt221.2.2.1 bt221.2.2.2).bind fun bt225 => ((entry_Taker_Num.f k2 bt225.2.1 bt225.2.2.1 bt225.2.2.2).bind fun bt229 => (if x190001_2.length < 2513169434916 then (sheet_take.l1 k2 a0 ji17 (wrap64 (x29_2 + 1)) bt229.2.1 bt229.2.2.1 bt229.2.2.2 x190000_1 (x190001_2 ++ [(⟨t213, t217, bt221.1, bt225.1, bt229.1⟩ : S32)]) 0 0) else (none))))) = some (r1, r2, r3, r4, r5) := H
    have A21 := Aside0.mk A210
    clear A210
    replace H := Option.bind_eq_some_iff.mp H
    obtain ⟨⟨t221, t222, t223, t224⟩, A220, H⟩ := H
    replace H : ((entry_Taker_Text.f k2 t222 t223 t224).bind fun bt225 => ((entry_Taker_Num.f k2 bt225.2.1 bt225.2.2.1 bt225.2.2.2).bind fun bt229 => (if x190001_2.length < 2513169434916 then (sheet_take.l1 k2 a0 ji17 (wrap64 (x29_2 + 1)) bt229.2.1 bt229.2.2.1 bt229.2.2.2 x190000_1 (x190001_2 ++ [(⟨t213, t217, t221, bt225.1, bt229.1⟩ : S32)]) 0 0) else (none)))) = some (r1, r2, r3, r4, r5) := H
    have A22 := Aside0.mk A220
    clear A220
    replace H := Option.bind_eq_some_iff.mp H
    obtain ⟨⟨t225, t226, t227, t228⟩, A230, H⟩ := H
    replace H : ((entry_Taker_Num.f k2 t226 t227 t228).bind fun bt229 => (if x190001_2.length < 2513169434916 then (sheet_take.l1 k2 a0 ji17 (wrap64 (x29_2 + 1)) bt229.2.1 bt229.2.2.1 bt229.2.2.2 x190000_1 (x190001_2 ++ [(⟨t213, t217, t221, t225, bt229.1⟩ : S32)]) 0 0) else (none))) = some (r1, r2, r3, r4, r5) := H
    have A23 := Aside0.mk A230
    clear A230
    replace H := Option.bind_eq_some_iff.mp H
    obtain ⟨⟨t229, t230, t231, t232⟩, A240, H⟩ := H
    replace H : (if x190001_2.length < 2513169434916 then (sheet_take.l1 k2 a0 ji17 (wrap64 (x29_2 + 1)) t230 t231 t232 x190000_1 (x190001_2 ++ [(⟨t213, t217, t221, t225, t229⟩ : S32)]) 0 0) else (none)) = some (r1, r2, r3, r4, r5) := H
    have A24 := Aside0.mk A240
    clear A240
    by_cases c25 : x190001_2.length < 2513169434916
    rotate_left
    · rw [if_neg c25] at H
      exact absurd H (by simp)
    rw [if_pos c25] at H
    have LMc25 := Aside0.mk c25
    clear c25
    obtain ⟨y233, hy233⟩ : ∃ y_ : List (S32), y_ = (x190001_2 ++ [(⟨t213, t217, t221, t225, t229⟩ : S32)]) := ⟨_, rfl⟩
    replace H : (sheet_take.l1 k2 a0 ji17 (wrap64 (x29_2 + 1)) t230 t231 t232 x190000_1 y233 0 0) = some (r1, r2, r3, r4, r5) := by first | (rw [hy233]; with_reducible exact H) | (have H2_ := (Option.bind_some _ _).symm.trans H; rw [hy233]; with_reducible exact H2_) | (have H2_ := (Option.bind_some _ _).symm.trans H; with_reducible exact H2_) | with_reducible exact H | (rw [hy233]; exact H) | exact H
    have Ny233 := Aside0.mk hy233
    clear hy233
    have H' := Aside0.mk H
    clear H
    try go_wp2
    have n0_ := Aside0.mk (Kd.R_drew HO_190000.out)
    have n1_ := Aside0.mk (Kd.R_drew HO_190001.out)
    have n2_ := Aside0.mk (blk_drew BK187.out)
    have n3_ := Aside0.mk (blk_drew BK189.out)
    have n4_ := Aside0.mk (IsS90.drew HI188.out)
    have n5_ := Aside0.mk (below_drew1 HB.out)
    clear HO_190000
    clear HO_190001
    clear BK187
    clear BK189
    clear HI188
    clear HB
    have HO_190000 := n0_
    have HO_190001 := n1_
    have BK187 := n2_
    have BK189 := n3_
    have HI188 := n4_
    have HB := n5_
    clear n0_ n1_ n2_ n3_ n4_ n5_
    refine start_ (n := 17) (S := fun w' => w'.cell? ⟨gb189, 0, none⟩ = some (u190000) ∧ w'.cell? ⟨gb189, 1, none⟩ = some (u190001) ∧ w'.cell? ⟨gb189, 2, none⟩ = some (.int .i64 0) ∧ w'.cell? ⟨gb189, 3, none⟩ = some (.int .i64 0)) (ds := [16]) #[false, false, false, false, false, false, false, false, false, false, false, false, false, false, false, false, false] (by kernel_rfl) rfl rfl ⟨(blk_cell BK189.out 0).trans rfl, (blk_cell BK189.out 1).trans rfl, (blk_cell BK189.out 2).trans rfl, (blk_cell BK189.out 3).trans rfl⟩ (fun hHeld => ?_); refine with_tabW sheet_take.tab9 sheet_take.bits9 (fun HT_ HW_ => ?_)
    generalize wr.drew = w26 at HO_190000 HO_190001 BK187 BK189 HI188 HB hHeld ⊢
    refine pure_ (i := 0) (N := some 31) (v := ?_) (a' := ?_) #[true, false, false, false, false, false, false, false, false, false, false, false, false, false, false, false, false] rfl rfl (any_of HT_.out (by kernel_rfl)) (fun _ _ _ h => h) (Or.inl ⟨by rfl, ?_⟩) ?_ ?_
    rotate_left
    · intro w'
      go_simp
      with_reducible rfl
    rotate_left
    · simp only [Act.put, List.setIfInBounds_toArray, List.set_cons_zero, List.set_cons_succ, i64_w, i32_w]
      rfl
    refine pure_ (i := 2) (N := some 33) (v := ?_) (a' := ?_) #[true, false, true, false, false, false, false, false, false, false, false, false, false, false, false, false, false] rfl rfl (any_of HT_.out (by kernel_rfl)) (fun _ _ _ h => h) (Or.inl ⟨by rfl, ?_⟩) ?_ ?_
    rotate_left
    · intro w'
      go_simp
      with_reducible rfl
    rotate_left
    · simp only [Act.put, List.setIfInBounds_toArray, List.set_cons_zero, List.set_cons_succ, i64_w, i32_w]
      rfl
    refine pure_ (i := 4) (N := some 35) (v := ?_) (a' := ?_) #[true, false, true, false, true, false, false, false, false, false, false, false, false, false, false, false, false] rfl rfl (any_of HT_.out (by kernel_rfl)) (fun _ _ _ h => h) (Or.inl ⟨by rfl, ?_⟩) ?_ ?_
    rotate_left
    · intro w'
      go_simp
      with_reducible rfl
    rotate_left
    · simp only [Act.put, List.setIfInBounds_toArray, List.set_cons_zero, List.set_cons_succ, i64_w, i32_w]
      rfl
    refine pure_ (i := 6) (N := some 37) (v := ?_) (a' := ?_) #[true, false, true, false, true, false, true, false, false, false, false, false, false, false, false, false, false] rfl rfl (any_of HT_.out (by kernel_rfl)) (fun _ _ _ h => h) (Or.inl ⟨by rfl, ?_⟩) ?_ ?_
    rotate_left
    · intro w'
      go_simp
      with_reducible rfl
    rotate_left
    · simp only [Act.put, List.setIfInBounds_toArray, List.set_cons_zero, List.set_cons_succ, i64_w, i32_w]
      rfl
    refine pure_ (i := 8) (N := some 39) (v := ?_) (a' := ?_) #[true, false, true, false, true, false, true, false, true, false, false, false, false, false, false, false, false] rfl rfl (any_of HT_.out (by kernel_rfl)) (fun _ _ _ h => h) (Or.inl ⟨by rfl, ?_⟩) ?_ ?_
    rotate_left
    · intro w'
      go_simp
      with_reducible rfl
    rotate_left
    · simp only [Act.put, List.setIfInBounds_toArray, List.set_cons_zero, List.set_cons_succ, i64_w, i32_w]
      rfl
    refine pure_ (i := 10) (N := some 41) (v := ?_) (a' := ?_) #[true, false, true, false, true, false, true, false, true, false, true, false, false, false, false, false, false] rfl rfl (any_of HT_.out (by kernel_rfl)) (fun _ _ _ h => h) (Or.inl ⟨by rfl, ?_⟩) ?_ ?_
    rotate_left
    · intro w'
      go_simp
      with_reducible rfl
    rotate_left
    · simp only [Act.put, List.setIfInBounds_toArray, List.set_cons_zero, List.set_cons_succ, i64_w, i32_w]
      rfl
    refine take_ (i := 1) (N := some 32) (v := ?_) (a' := ?_) #[true, true, true, false, true, false, true, false, true, false, true, false, false, false, false, false, false] rfl rfl (take_ofW HT_.out HW_.out (by kernel_rfl)) (fun _ _ _ h => h) (Or.inl ⟨by rfl, ?_⟩) hHeld ?_ ?_
    rotate_left
    · rintro w' ⟨s0, s1, s2, s3⟩
      go_simp
      with_reducible rfl
    rotate_left
    · simp only [Act.put, List.setIfInBounds_toArray, List.set_cons_zero, List.set_cons_succ, i64_w, i32_w]
      rfl
    refine one_ (i := 3) (N := some 34) #[true, true, true, true, true, false, true, false, true, false, true, false, false, false, false, false, false] rfl rfl (one_of HT_.out (by kernel_rfl)) (by decide) (fun K hK => ?_)
    refine goes_ Try.func57 (by kernel_rfl) rfl #[.pointer (some ⟨gb188, 0, none⟩)] (by rfl) rfl rfl (by (try simp only [List.map_toArray, List.map_cons, List.map_nil]); first | done | rfl | (simp only [List.length_drop, List.length_take]; rfl)) ?_
    with_reducible refine (entry_Taker_Num.calls k2 gb188 x189000_2 x189001_2 x189002_2 t213 t214 t215 t216 w _ ?side1 ?side2 A20.out).mono ?_
    (case side1 => repeat (first | (with_reducible first | exact HI188.out | apply IsS90.alloc | apply IsS90.drewN | apply IsS90.drew | apply IsS90.set_0 | apply IsS90.set_1 | apply IsS90.set_2 | apply IsS90.far (hne := NB188_187.out) | apply IsS90.far (hne := NB188_189.out)) | exact HI188.out))
    (case side2 => repeat (first | (with_reducible first | exact HB.out | apply below_alloc | apply pw_below_drewN | apply below_drew1 | refine below_set ?_ (IsS90.ge HI188.out) | refine below_set ?_ GE187.out | refine below_set ?_ GE189.out) | exact HB.out))
    rintro e w27 ⟨rfl, hi, hb, hk⟩
    refine ⟨_, rfl, ?_⟩
    have n0_ := Aside0.mk (Kd.R_mono (Kd.R_keep (IsS90.apart (show IsS90 w _ gb188 x189000_2 x189001_2 x189002_2 from by repeat (first | (with_reducible first | exact HI188.out | apply IsS90.alloc | apply IsS90.drewN | apply IsS90.drew | apply IsS90.set_0 | apply IsS90.set_1 | apply IsS90.set_2 | apply IsS90.far (hne := NB188_187.out) | apply IsS90.far (hne := NB188_189.out)) | exact HI188.out)) (by (with_reducible repeat (first | apply Kd.R_alloc | apply Kd.R_drewN | apply Kd.R_drew)); exact HO_190000.out) (by decide)) hk (fun _ h => h.2)) (fun _ h => h.1))
    have n1_ := Aside0.mk (Kd.R_mono (Kd.R_keep (IsS90.apart (show IsS90 w _ gb188 x189000_2 x189001_2 x189002_2 from by repeat (first | (with_reducible first | exact HI188.out | apply IsS90.alloc | apply IsS90.drewN | apply IsS90.drew | apply IsS90.set_0 | apply IsS90.set_1 | apply IsS90.set_2 | apply IsS90.far (hne := NB188_187.out) | apply IsS90.far (hne := NB188_189.out)) | exact HI188.out)) (by (with_reducible repeat (first | apply Kd.R_alloc | apply Kd.R_drewN | apply Kd.R_drew)); exact HO_190001.out) (by decide)) hk (fun _ h => h.2)) (fun _ h => h.1))
    have n2_ := Aside0.mk (KeepBut.blk hk (g' := gb187) (o := .cells #[.slice none 0 0, .slice none 0 0, .int .i64 0, .int .i64 0] 36 (0, 0)) (by (with_reducible repeat (first | refine blk_drewN ?_ _ | refine blk_drew ?_ | refine blk_alloc ?_ _)); exact BK187.out) NB187_188.out (by simp))
    have n3_ := Aside0.mk (KeepBut.blk hk (g' := gb189) (o := .cells #[u190000, u190001, .int .i64 0, .int .i64 0] 36 (0, 0)) (by (with_reducible repeat (first | refine blk_drewN ?_ _ | refine blk_drew ?_ | refine blk_alloc ?_ _)); exact BK189.out) NB189_188.out (by simp))
    have n4_ := Aside0.mk (hb)
    have n5_ := Aside0.mk (hi)
    clear HO_190000
    clear HO_190001
    clear BK187
    clear BK189
    clear HB
    clear HI188
    have HO_190000 := n0_
    have HO_190001 := n1_
    have BK187 := n2_
    have BK189 := n3_
    have HB := n4_
    have HI188 := n5_
    clear n0_ n1_ n2_ n3_ n4_ n5_
    (try clear hb)
    (try clear hb2)
    (try clear hk)
    (try clear hi)
    refine hK.out _ _ ⟨(blk_cell BK189.out 0).trans rfl, (blk_cell BK189.out 1).trans rfl, (blk_cell BK189.out 2).trans rfl, (blk_cell BK189.out 3).trans rfl⟩ (fun hHeld => ?_)
    clear hK K
    refine norm_ (a' := ?_) ?_ ?_
    rotate_left
    · show Act.put _ (some 34) _ = _
      simp only [Act.put, List.setIfInBounds_toArray, List.set_cons_zero, List.set_cons_succ, i64_w, i32_w]
      rfl
    refine one_ (i := 5) (N := some 36) #[true, true, true, true, true, true, true, false, true, false, true, false, false, false, false, false, false] rfl rfl (one_of HT_.out (by kernel_rfl)) (by decide) (fun K hK => ?_)
    refine goes_ Try.func57 (by kernel_rfl) rfl #[.pointer (some ⟨gb188, 0, none⟩)] (by rfl) rfl rfl (by (try simp only [List.map_toArray, List.map_cons, List.map_nil]); first | done | rfl | (simp only [List.length_drop, List.length_take]; rfl)) ?_
    with_reducible refine (entry_Taker_Num.calls k2 gb188 t214 t215 t216 t217 t218 t219 t220 w _ ?side1 ?side2 A21.out).mono ?_
    (case side1 => repeat (first | (with_reducible first | exact HI188.out | apply IsS90.alloc | apply IsS90.drewN | apply IsS90.drew | apply IsS90.set_0 | apply IsS90.set_1 | apply IsS90.set_2 | apply IsS90.far (hne := NB188_187.out) | apply IsS90.far (hne := NB188_189.out)) | exact HI188.out))
    (case side2 => repeat (first | (with_reducible first | exact HB.out | apply below_alloc | apply pw_below_drewN | apply below_drew1 | refine below_set ?_ (IsS90.ge HI188.out) | refine below_set ?_ GE187.out | refine below_set ?_ GE189.out) | exact HB.out))
    rintro e w28 ⟨rfl, hi, hb, hk⟩
    refine ⟨_, rfl, ?_⟩
    have n0_ := Aside0.mk (Kd.R_mono (Kd.R_keep (IsS90.apart (show IsS90 w _ gb188 t214 t215 t216 from by repeat (first | (with_reducible first | exact HI188.out | apply IsS90.alloc | apply IsS90.drewN | apply IsS90.drew | apply IsS90.set_0 | apply IsS90.set_1 | apply IsS90.set_2 | apply IsS90.far (hne := NB188_187.out) | apply IsS90.far (hne := NB188_189.out)) | exact HI188.out)) (by (with_reducible repeat (first | apply Kd.R_alloc | apply Kd.R_drewN | apply Kd.R_drew)); exact HO_190000.out) (by decide)) hk (fun _ h => h.2)) (fun _ h => h.1))
    have n1_ := Aside0.mk (Kd.R_mono (Kd.R_keep (IsS90.apart (show IsS90 w _ gb188 t214 t215 t216 from by repeat (first | (with_reducible first | exact HI188.out | apply IsS90.alloc | apply IsS90.drewN | apply IsS90.drew | apply IsS90.set_0 | apply IsS90.set_1 | apply IsS90.set_2 | apply IsS90.far (hne := NB188_187.out) | apply IsS90.far (hne := NB188_189.out)) | exact HI188.out)) (by (with_reducible repeat (first | apply Kd.R_alloc | apply Kd.R_drewN | apply Kd.R_drew)); exact HO_190001.out) (by decide)) hk (fun _ h => h.2)) (fun _ h => h.1))
    have n2_ := Aside0.mk (KeepBut.blk hk (g' := gb187) (o := .cells #[.slice none 0 0, .slice none 0 0, .int .i64 0, .int .i64 0] 36 (0, 0)) (by (with_reducible repeat (first | refine blk_drewN ?_ _ | refine blk_drew ?_ | refine blk_alloc ?_ _)); exact BK187.out) NB187_188.out (by simp))
    have n3_ := Aside0.mk (KeepBut.blk hk (g' := gb189) (o := .cells #[u190000, u190001, .int .i64 0, .int .i64 0] 36 (0, 0)) (by (with_reducible repeat (first | refine blk_drewN ?_ _ | refine blk_drew ?_ | refine blk_alloc ?_ _)); exact BK189.out) NB189_188.out (by simp))
    have n4_ := Aside0.mk (hb)
    have n5_ := Aside0.mk (hi)
    clear HO_190000
    clear HO_190001
    clear BK187
    clear BK189
    clear HB
    clear HI188
    have HO_190000 := n0_
    have HO_190001 := n1_
    have BK187 := n2_
    have BK189 := n3_
    have HB := n4_
    have HI188 := n5_
    clear n0_ n1_ n2_ n3_ n4_ n5_
    (try clear hb)
    (try clear hb2)
    (try clear hk)
    (try clear hi)
    refine hK.out _ _ ⟨(blk_cell BK189.out 0).trans rfl, (blk_cell BK189.out 1).trans rfl, (blk_cell BK189.out 2).trans rfl, (blk_cell BK189.out 3).trans rfl⟩ (fun hHeld => ?_)
    clear hK K
    refine norm_ (a' := ?_) ?_ ?_
    rotate_left
    · show Act.put _ (some 36) _ = _
      simp only [Act.put, List.setIfInBounds_toArray, List.set_cons_zero, List.set_cons_succ, i64_w, i32_w]
      rfl
    refine one_ (i := 7) (N := some 38) #[true, true, true, true, true, true, true, true, true, false, true, false, false, false, false, false, false] rfl rfl (one_of HT_.out (by kernel_rfl)) (by decide) (fun K hK => ?_)
    refine goes_ Try.func58 (by kernel_rfl) rfl #[.pointer (some ⟨gb188, 0, none⟩)] (by rfl) rfl rfl (by (try simp only [List.map_toArray, List.map_cons, List.map_nil]); first | done | rfl | (simp only [List.length_drop, List.length_take]; rfl)) ?_
    with_reducible refine (entry_Taker_Text.calls k2 gb188 t218 t219 t220 t221 t222 t223 t224 w _ ?side1 ?side2 A22.out).mono ?_
    (case side1 => repeat (first | (with_reducible first | exact HI188.out | apply IsS90.alloc | apply IsS90.drewN | apply IsS90.drew | apply IsS90.set_0 | apply IsS90.set_1 | apply IsS90.set_2 | apply IsS90.far (hne := NB188_187.out) | apply IsS90.far (hne := NB188_189.out)) | exact HI188.out))
    (case side2 => repeat (first | (with_reducible first | exact HB.out | apply below_alloc | apply pw_below_drewN | apply below_drew1 | refine below_set ?_ (IsS90.ge HI188.out) | refine below_set ?_ GE187.out | refine below_set ?_ GE189.out) | exact HB.out))
    rintro e w29 ⟨rfl, hi, hb, hk⟩
    refine ⟨_, rfl, ?_⟩
    have n0_ := Aside0.mk (Kd.R_mono (Kd.R_keep (IsS90.apart (show IsS90 w _ gb188 t218 t219 t220 from by repeat (first | (with_reducible first | exact HI188.out | apply IsS90.alloc | apply IsS90.drewN | apply IsS90.drew | apply IsS90.set_0 | apply IsS90.set_1 | apply IsS90.set_2 | apply IsS90.far (hne := NB188_187.out) | apply IsS90.far (hne := NB188_189.out)) | exact HI188.out)) (by (with_reducible repeat (first | apply Kd.R_alloc | apply Kd.R_drewN | apply Kd.R_drew)); exact HO_190000.out) (by decide)) hk (fun _ h => h.2)) (fun _ h => h.1))
    have n1_ := Aside0.mk (Kd.R_mono (Kd.R_keep (IsS90.apart (show IsS90 w _ gb188 t218 t219 t220 from by repeat (first | (with_reducible first | exact HI188.out | apply IsS90.alloc | apply IsS90.drewN | apply IsS90.drew | apply IsS90.set_0 | apply IsS90.set_1 | apply IsS90.set_2 | apply IsS90.far (hne := NB188_187.out) | apply IsS90.far (hne := NB188_189.out)) | exact HI188.out)) (by (with_reducible repeat (first | apply Kd.R_alloc | apply Kd.R_drewN | apply Kd.R_drew)); exact HO_190001.out) (by decide)) hk (fun _ h => h.2)) (fun _ h => h.1))
    have n2_ := Aside0.mk (KeepBut.blk hk (g' := gb187) (o := .cells #[.slice none 0 0, .slice none 0 0, .int .i64 0, .int .i64 0] 36 (0, 0)) (by (with_reducible repeat (first | refine blk_drewN ?_ _ | refine blk_drew ?_ | refine blk_alloc ?_ _)); exact BK187.out) NB187_188.out (by simp))
    have n3_ := Aside0.mk (KeepBut.blk hk (g' := gb189) (o := .cells #[u190000, u190001, .int .i64 0, .int .i64 0] 36 (0, 0)) (by (with_reducible repeat (first | refine blk_drewN ?_ _ | refine blk_drew ?_ | refine blk_alloc ?_ _)); exact BK189.out) NB189_188.out (by simp))
    have n4_ := Aside0.mk (hb)
    have n5_ := Aside0.mk (hi)
    clear HO_190000
    clear HO_190001
    clear BK187
    clear BK189
    clear HB
    clear HI188
    have HO_190000 := n0_
    have HO_190001 := n1_
    have BK187 := n2_
    have BK189 := n3_
    have HB := n4_
    have HI188 := n5_
    clear n0_ n1_ n2_ n3_ n4_ n5_
    (try clear hb)
    (try clear hb2)
    (try clear hk)
    (try clear hi)
    refine hK.out _ _ ⟨(blk_cell BK189.out 0).trans rfl, (blk_cell BK189.out 1).trans rfl, (blk_cell BK189.out 2).trans rfl, (blk_cell BK189.out 3).trans rfl⟩ (fun hHeld => ?_)
    clear hK K
    refine norm_ (a' := ?_) ?_ ?_
    rotate_left
    · show Act.put _ (some 38) _ = _
      simp only [Act.put, List.setIfInBounds_toArray, List.set_cons_zero, List.set_cons_succ, i64_w, i32_w]
      rfl
    refine one_ (i := 9) (N := some 40) #[true, true, true, true, true, true, true, true, true, true, true, false, false, false, false, false, false] rfl rfl (one_of HT_.out (by kernel_rfl)) (by decide) (fun K hK => ?_)
    refine goes_ Try.func58 (by kernel_rfl) rfl #[.pointer (some ⟨gb188, 0, none⟩)] (by rfl) rfl rfl (by (try simp only [List.map_toArray, List.map_cons, List.map_nil]); first | done | rfl | (simp only [List.length_drop, List.length_take]; rfl)) ?_
    with_reducible refine (entry_Taker_Text.calls k2 gb188 t222 t223 t224 t225 t226 t227 t228 w _ ?side1 ?side2 A23.out).mono ?_
    (case side1 => repeat (first | (with_reducible first | exact HI188.out | apply IsS90.alloc | apply IsS90.drewN | apply IsS90.drew | apply IsS90.set_0 | apply IsS90.set_1 | apply IsS90.set_2 | apply IsS90.far (hne := NB188_187.out) | apply IsS90.far (hne := NB188_189.out)) | exact HI188.out))
    (case side2 => repeat (first | (with_reducible first | exact HB.out | apply below_alloc | apply pw_below_drewN | apply below_drew1 | refine below_set ?_ (IsS90.ge HI188.out) | refine below_set ?_ GE187.out | refine below_set ?_ GE189.out) | exact HB.out))
    rintro e w30 ⟨rfl, hi, hb, hk⟩
    refine ⟨_, rfl, ?_⟩
    have n0_ := Aside0.mk (Kd.R_mono (Kd.R_keep (IsS90.apart (show IsS90 w _ gb188 t222 t223 t224 from by repeat (first | (with_reducible first | exact HI188.out | apply IsS90.alloc | apply IsS90.drewN | apply IsS90.drew | apply IsS90.set_0 | apply IsS90.set_1 | apply IsS90.set_2 | apply IsS90.far (hne := NB188_187.out) | apply IsS90.far (hne := NB188_189.out)) | exact HI188.out)) (by (with_reducible repeat (first | apply Kd.R_alloc | apply Kd.R_drewN | apply Kd.R_drew)); exact HO_190000.out) (by decide)) hk (fun _ h => h.2)) (fun _ h => h.1))
    have n1_ := Aside0.mk (Kd.R_mono (Kd.R_keep (IsS90.apart (show IsS90 w _ gb188 t222 t223 t224 from by repeat (first | (with_reducible first | exact HI188.out | apply IsS90.alloc | apply IsS90.drewN | apply IsS90.drew | apply IsS90.set_0 | apply IsS90.set_1 | apply IsS90.set_2 | apply IsS90.far (hne := NB188_187.out) | apply IsS90.far (hne := NB188_189.out)) | exact HI188.out)) (by (with_reducible repeat (first | apply Kd.R_alloc | apply Kd.R_drewN | apply Kd.R_drew)); exact HO_190001.out) (by decide)) hk (fun _ h => h.2)) (fun _ h => h.1))
    have n2_ := Aside0.mk (KeepBut.blk hk (g' := gb187) (o := .cells #[.slice none 0 0, .slice none 0 0, .int .i64 0, .int .i64 0] 36 (0, 0)) (by (with_reducible repeat (first | refine blk_drewN ?_ _ | refine blk_drew ?_ | refine blk_alloc ?_ _)); exact BK187.out) NB187_188.out (by simp))
    have n3_ := Aside0.mk (KeepBut.blk hk (g' := gb189) (o := .cells #[u190000, u190001, .int .i64 0, .int .i64 0] 36 (0, 0)) (by (with_reducible repeat (first | refine blk_drewN ?_ _ | refine blk_drew ?_ | refine blk_alloc ?_ _)); exact BK189.out) NB189_188.out (by simp))
    have n4_ := Aside0.mk (hb)
    have n5_ := Aside0.mk (hi)
    clear HO_190000
    clear HO_190001
    clear BK187
    clear BK189
    clear HB
    clear HI188
    have HO_190000 := n0_
    have HO_190001 := n1_
    have BK187 := n2_
    have BK189 := n3_
    have HB := n4_
    have HI188 := n5_
    clear n0_ n1_ n2_ n3_ n4_ n5_
    (try clear hb)
    (try clear hb2)
    (try clear hk)
    (try clear hi)
    refine hK.out _ _ ⟨(blk_cell BK189.out 0).trans rfl, (blk_cell BK189.out 1).trans rfl, (blk_cell BK189.out 2).trans rfl, (blk_cell BK189.out 3).trans rfl⟩ (fun hHeld => ?_)
    clear hK K
    refine norm_ (a' := ?_) ?_ ?_
    rotate_left
    · show Act.put _ (some 40) _ = _
      simp only [Act.put, List.setIfInBounds_toArray, List.set_cons_zero, List.set_cons_succ, i64_w, i32_w]
      rfl
    refine one_ (i := 11) (N := some 42) #[true, true, true, true, true, true, true, true, true, true, true, true, false, false, false, false, false] rfl rfl (one_of HT_.out (by kernel_rfl)) (by decide) (fun K hK => ?_)
    refine goes_ Try.func57 (by kernel_rfl) rfl #[.pointer (some ⟨gb188, 0, none⟩)] (by rfl) rfl rfl (by (try simp only [List.map_toArray, List.map_cons, List.map_nil]); first | done | rfl | (simp only [List.length_drop, List.length_take]; rfl)) ?_
    with_reducible refine (entry_Taker_Num.calls k2 gb188 t226 t227 t228 t229 t230 t231 t232 w _ ?side1 ?side2 A24.out).mono ?_
    (case side1 => repeat (first | (with_reducible first | exact HI188.out | apply IsS90.alloc | apply IsS90.drewN | apply IsS90.drew | apply IsS90.set_0 | apply IsS90.set_1 | apply IsS90.set_2 | apply IsS90.far (hne := NB188_187.out) | apply IsS90.far (hne := NB188_189.out)) | exact HI188.out))
    (case side2 => repeat (first | (with_reducible first | exact HB.out | apply below_alloc | apply pw_below_drewN | apply below_drew1 | refine below_set ?_ (IsS90.ge HI188.out) | refine below_set ?_ GE187.out | refine below_set ?_ GE189.out) | exact HB.out))
    rintro e w31 ⟨rfl, hi, hb, hk⟩
    refine ⟨_, rfl, ?_⟩
    have n0_ := Aside0.mk (Kd.R_mono (Kd.R_keep (IsS90.apart (show IsS90 w _ gb188 t226 t227 t228 from by repeat (first | (with_reducible first | exact HI188.out | apply IsS90.alloc | apply IsS90.drewN | apply IsS90.drew | apply IsS90.set_0 | apply IsS90.set_1 | apply IsS90.set_2 | apply IsS90.far (hne := NB188_187.out) | apply IsS90.far (hne := NB188_189.out)) | exact HI188.out)) (by (with_reducible repeat (first | apply Kd.R_alloc | apply Kd.R_drewN | apply Kd.R_drew)); exact HO_190000.out) (by decide)) hk (fun _ h => h.2)) (fun _ h => h.1))
    have n1_ := Aside0.mk (Kd.R_mono (Kd.R_keep (IsS90.apart (show IsS90 w _ gb188 t226 t227 t228 from by repeat (first | (with_reducible first | exact HI188.out | apply IsS90.alloc | apply IsS90.drewN | apply IsS90.drew | apply IsS90.set_0 | apply IsS90.set_1 | apply IsS90.set_2 | apply IsS90.far (hne := NB188_187.out) | apply IsS90.far (hne := NB188_189.out)) | exact HI188.out)) (by (with_reducible repeat (first | apply Kd.R_alloc | apply Kd.R_drewN | apply Kd.R_drew)); exact HO_190001.out) (by decide)) hk (fun _ h => h.2)) (fun _ h => h.1))
    have n2_ := Aside0.mk (KeepBut.blk hk (g' := gb187) (o := .cells #[.slice none 0 0, .slice none 0 0, .int .i64 0, .int .i64 0] 36 (0, 0)) (by (with_reducible repeat (first | refine blk_drewN ?_ _ | refine blk_drew ?_ | refine blk_alloc ?_ _)); exact BK187.out) NB187_188.out (by simp))
    have n3_ := Aside0.mk (KeepBut.blk hk (g' := gb189) (o := .cells #[u190000, u190001, .int .i64 0, .int .i64 0] 36 (0, 0)) (by (with_reducible repeat (first | refine blk_drewN ?_ _ | refine blk_drew ?_ | refine blk_alloc ?_ _)); exact BK189.out) NB189_188.out (by simp))
    have n4_ := Aside0.mk (hb)
    have n5_ := Aside0.mk (hi)
    clear HO_190000
    clear HO_190001
    clear BK187
    clear BK189
    clear HB
    clear HI188
    have HO_190000 := n0_
    have HO_190001 := n1_
    have BK187 := n2_
    have BK189 := n3_
    have HB := n4_
    have HI188 := n5_
    clear n0_ n1_ n2_ n3_ n4_ n5_
    (try clear hb)
    (try clear hb2)
    (try clear hk)
    (try clear hi)
    refine hK.out _ _ ⟨(blk_cell BK189.out 0).trans rfl, (blk_cell BK189.out 1).trans rfl, (blk_cell BK189.out 2).trans rfl, (blk_cell BK189.out 3).trans rfl⟩ (fun hHeld => ?_)
    clear hK K
    refine norm_ (a' := ?_) ?_ ?_
    rotate_left
    · show Act.put _ (some 42) _ = _
      simp only [Act.put, List.setIfInBounds_toArray, List.set_cons_zero, List.set_cons_succ, i64_w, i32_w]
      rfl
    refine pure_ (i := 12) (N := some 43) (v := ?_) (a' := ?_) #[true, true, true, true, true, true, true, true, true, true, true, true, true, false, false, false, false] rfl rfl (any_of HT_.out (by kernel_rfl)) (fun _ _ _ h => h) (Or.inl ⟨by rfl, ?_⟩) ?_ ?_
    rotate_left
    · intro w'
      go_simp
      with_reducible rfl
    rotate_left
    · simp only [Act.put, List.setIfInBounds_toArray, List.set_cons_zero, List.set_cons_succ, i64_w, i32_w]
      rfl
    refine one_ (i := 13) (N := some 44) #[true, true, true, true, true, true, true, true, true, true, true, true, true, true, false, false, false] rfl rfl (one_of HT_.out (by kernel_rfl)) (by decide) (fun K hK => ?_)
    refine value_ (w1 := ?_) (v := ?_) (by rfl) rfl ?_ ?_
    rotate_left 2
    · go_simp
      constructor
      · rfl
      rfl
    refine hK.out _ _ ⟨(blk_cell (blk_alloc BK189.out _) 0).trans rfl, (blk_cell (blk_alloc BK189.out _) 1).trans rfl, (blk_cell (blk_alloc BK189.out _) 2).trans rfl, (blk_cell (blk_alloc BK189.out _) 3).trans rfl⟩ (fun hHeld => ?_)
    clear hK K
    refine norm_ (a' := ?_) ?_ ?_
    rotate_left
    · show Act.put _ (some 44) _ = _
      simp only [Act.put, List.setIfInBounds_toArray, List.set_cons_zero, List.set_cons_succ, i64_w, i32_w]
      rfl
    refine one_ (i := 14) (N := some 45) #[true, true, true, true, true, true, true, true, true, true, true, true, true, true, true, false, false] rfl rfl (one_of HT_.out (by kernel_rfl)) (by decide) (fun K hK => ?_)
    refine Kd.R_append_step k32 (w0 := w) w.heap.size (by rfl) (.tmp 32) (.tmp 44) 33 32 (.agg #[(.int .i64 0), (.int .i64 0), (.string ⟨#[]⟩), (.string ⟨#[]⟩), (.int .i64 0)]) 56 rfl Try.underlying33 info32 rfl (by decide) (by omega) u190001 x190001_2 (⟨t213, t217, t221, t225, t229⟩ : S32) [.int .i64 t213, .int .i64 t217, .string t221, .string t225, .int .i64 t229] (fun _ => True) (fun _ => False) rfl rfl ?aP (fun _ hk => hk.elim) ?aF ?aO ?aB ?aS ?aL ?_
    (case aP => exact k32_mkM _ _ _ (⟨t213, t217, t221, t225, t229⟩ : S32))
    (case aB => exact (by repeat (first | (with_reducible first | exact HB.out | apply below_alloc | apply pw_below_drewN | apply below_drew1 | refine below_set ?_ (IsS90.ge HI188.out) | refine below_set ?_ GE187.out | refine below_set ?_ GE189.out) | exact HB.out)))
    (case aF => exact (fun _ _ => trivial))
    (case aO => exact (by (with_reducible repeat (first | apply Kd.R_alloc | apply Kd.R_drewN | apply Kd.R_drew)); exact HO_190001.out))
    (case aS => exact (below_size (by repeat (first | (with_reducible first | exact HB.out | apply below_alloc | apply pw_below_drewN | apply below_drew1 | refine below_set ?_ (IsS90.ge HI188.out) | refine below_set ?_ GE187.out | refine below_set ?_ GE189.out) | exact HB.out))))
    (case aL => have := LMc25.out; omega)
    intro v234 w32 ho hb hg hat
    rw [← Ny233.out] at ho
    have n0_ := Aside0.mk (Kd.R_over' (by (with_reducible repeat (first | apply Kd.R_alloc | apply Kd.R_drewN | apply Kd.R_drew)); exact HO_190000.out) (Kd.R_typed (by (with_reducible repeat (first | apply Kd.R_alloc | apply Kd.R_drewN | apply Kd.R_drew)); exact HO_190001.out)) (by decide) hg)
    have n1_ := Aside0.mk (blk_grown (g := gb187) (o := .cells #[.slice none 0 0, .slice none 0 0, .int .i64 0, .int .i64 0] 36 (0, 0)) (by (with_reducible repeat (first | refine blk_drewN ?_ _ | refine blk_drew ?_ | refine blk_alloc ?_ _)); exact BK187.out) hg (Kd.R_ne HO_190001.out BK187.out (by decide)))
    have n2_ := Aside0.mk (blk_grown (g := gb189) (o := .cells #[u190000, u190001, .int .i64 0, .int .i64 0] 36 (0, 0)) (by (with_reducible repeat (first | refine blk_drewN ?_ _ | refine blk_drew ?_ | refine blk_alloc ?_ _)); exact BK189.out) hg (Kd.R_ne HO_190001.out BK189.out (by decide)))
    have n3_ := Aside0.mk (IsS90.grown (show IsS90 w _ gb188 t230 t231 t232 from by repeat (first | (with_reducible first | exact HI188.out | apply IsS90.alloc | apply IsS90.drewN | apply IsS90.drew | apply IsS90.set_0 | apply IsS90.set_1 | apply IsS90.set_2 | apply IsS90.far (hne := NB188_187.out) | apply IsS90.far (hne := NB188_189.out)) | exact HI188.out)) hg (IsS90.own_ne HI188.out HO_190001.out (by decide)))
    have n4_ := Aside0.mk (hb)
    have n5_ := Aside0.mk (ho)
    clear HO_190000
    clear BK187
    clear BK189
    clear HI188
    clear HB
    clear HO_190001
    have HO_190000 := n0_
    have BK187 := n1_
    have BK189 := n2_
    have HI188 := n3_
    have HB := n4_
    have HO235 := n5_
    clear n0_ n1_ n2_ n3_ n4_ n5_
    clear ho hb hg hat
    obtain ⟨Ao33, co33, eo33⟩ := Kd.R_slice HO235.out
    (first | subst eo33 | (injection eo33 with f1_ f2_ f3_; have f4_ := f1_.symm; have f5_ := f3_.symm; clear f1_ f2_ f3_; subst f4_; subst f5_))
    refine hK.out _ _ ⟨(blk_cell BK189.out 0).trans rfl, (blk_cell BK189.out 1).trans rfl, (blk_cell BK189.out 2).trans rfl, (blk_cell BK189.out 3).trans rfl⟩ (fun hHeld => ?_)
    clear hK K
    refine norm_ (a' := ?_) ?_ ?_
    rotate_left
    · show Act.put _ (some 45) _ = _
      simp only [Act.put, List.setIfInBounds_toArray, List.set_cons_zero, List.set_cons_succ, i64_w, i32_w]
      rfl
    refine pure_ (i := 15) (N := some 46) (v := ?_) (a' := ?_) #[true, true, true, true, true, true, true, true, true, true, true, true, true, true, true, true, false] rfl rfl (any_of HT_.out (by kernel_rfl)) (fun _ _ _ h => h) (Or.inl ⟨by rfl, ?_⟩) ?_ ?_
    rotate_left
    · intro w'
      go_simp
      with_reducible rfl
    rotate_left
    · simp only [Act.put, List.setIfInBounds_toArray, List.set_cons_zero, List.set_cons_succ, i64_w, i32_w]
      rfl
    refine last_ (i := 16) (N := none) #[true, true, true, true, true, true, true, true, true, true, true, true, true, true, true, true, true] rfl rfl (one_of HT_.out (by kernel_rfl)) (by decide) (fun K hK => ?_)
    have hs34 : w32.cell? ⟨gb189, 1, none⟩ = some (u190001) := (blk_cell BK189.out 1).trans rfl
    have hfs34 := blk_frozen BK189.out 1
    have hns34_0 := NB187_189.out
    have hms34_0 := NB189_187.out
    refine skip_ (w1 := ?_) (by rfl) rfl ?_ ?_
    rotate_left
    · go_simp
      rfl
    refine hK.out _ _ ?_
    clear hK K
    refine done_ (done_of HT_.out (by kernel_rfl)) ?_
    try go_wp2
    go_roundg k2
    case measure => have := HK1.out; have := HK2.out; omega
    case rel => exact ⟨(wrap64 (x29_2 + 1)), (t230), (t231), (t232), (y233), (.slice Ao33 y233.length co33), (by first | rfl | (simp; done) | (simp [*]; done)), H', ⟨by have := HK1.out; have := HK2.out; omega⟩, ⟨by (with_reducible repeat (first | apply Kd.R_alloc | apply Kd.R_drewN | apply Kd.R_drew)); exact Kd.R_mono (Kd.R_far (p := ⟨gb189, 1, none⟩) (Kd.R_types HO_190000.out BK189.out (by decide)) (fun _ hk => hk.2) (.slice Ao33 y233.length co33)) (fun _ hk => trivial)⟩, ⟨by (with_reducible repeat (first | apply Kd.R_alloc | apply Kd.R_drewN | apply Kd.R_drew)); exact Kd.R_mono (Kd.R_far (p := ⟨gb189, 1, none⟩) (Kd.R_types HO235.out BK189.out (by decide)) (fun _ hk => hk.2) (.slice Ao33 y233.length co33)) (fun _ hk => trivial)⟩, ⟨by (with_reducible repeat (first | refine blk_drewN ?_ _ | refine blk_drew ?_ | refine blk_alloc ?_ _)); refine blk_far ?_ NB187_189.out _; (with_reducible repeat (first | refine blk_drewN ?_ _ | refine blk_drew ?_ | refine blk_alloc ?_ _)); exact BK187.out⟩, ⟨by (with_reducible repeat (first | refine blk_drewN ?_ _ | refine blk_drew ?_ | refine blk_alloc ?_ _)); refine blk_put (cs := #[u190000, u190001, .int .i64 0, .int .i64 0]) ?_ 1 _ rfl; (with_reducible repeat (first | refine blk_drewN ?_ _ | refine blk_drew ?_ | refine blk_alloc ?_ _)); exact BK189.out⟩, ⟨by repeat (first | (with_reducible first | exact HI188.out | apply IsS90.alloc | apply IsS90.drewN | apply IsS90.drew | apply IsS90.set_0 | apply IsS90.set_1 | apply IsS90.set_2 | apply IsS90.far (hne := NB188_187.out) | apply IsS90.far (hne := NB188_189.out)) | exact HI188.out)⟩, ⟨by repeat (first | (with_reducible first | exact HB.out | apply below_alloc | apply pw_below_drewN | apply below_drew1 | refine below_set ?_ (IsS90.ge HI188.out) | refine below_set ?_ GE187.out | refine below_set ?_ GE189.out) | exact HB.out)⟩⟩
  rw [if_neg c19] at H
  have c19b0 : decide (x29_2 < ji17) = false := decide_eq_false c19
  clear c19
  replace H := Option.bind_eq_some_iff.mp H
  obtain ⟨⟨t205, t206, t207, t208⟩, A350, H⟩ := H
  replace H : ((entry_Taker_Num.f k2 t206 t207 t208).bind fun bt209 => (if bt209.2.2.2 = 0 then (some (x190000_1, x190001_2, t205, bt209.1, (bt209.2.2.1 == (a0.size : Int)))) else (some (x190000_1, x190001_2, t205, bt209.1, false)))) = some (r1, r2, r3, r4, r5) := H
  have A35 := Aside0.mk A350
  clear A350
  replace H := Option.bind_eq_some_iff.mp H
  obtain ⟨⟨t209, t210, t211, t212⟩, A360, H⟩ := H
  replace H : (if t212 = 0 then (some (x190000_1, x190001_2, t205, t209, (t211 == (a0.size : Int)))) else (some (x190000_1, x190001_2, t205, t209, false))) = some (r1, r2, r3, r4, r5) := H
  have A36 := Aside0.mk A360
  clear A360
  by_cases c37 : t212 = 0
  rotate_left
  · rw [if_neg c37] at H
    have c37b0 : (t212 == 0) = false := beq_eq_false_iff_ne.mpr c37
    have c37b1 : (t212 != 0) = true := bne_iff_ne.mpr c37
    simp only [Option.some.injEq, Prod.mk.injEq] at H
    obtain ⟨rfl, rfl, rfl, rfl, rfl⟩ := H
    try go_wp2_with (first | ((with_reducible refine gate_callee (f := 57) rfl ?_); refine goesL_ (some 49) rfl rfl Try.func57 (by kernel_rfl) rfl #[.pointer (some ⟨gb188, 0, none⟩)] rfl (by (try simp only [List.map_toArray, List.map_cons, List.map_nil]); first | done | rfl | (simp only [List.length_drop, List.length_take]; rfl)) ?_; (with_reducible refine (entry_Taker_Num.calls k2 gb188 x189000_2 x189001_2 x189002_2 t205 t206 t207 t208 w _ ?side1 ?side2 A35.out).mono ?_); (case side1 => repeat (first | (with_reducible first | exact HI188.out | apply IsS90.alloc | apply IsS90.drewN | apply IsS90.drew | apply IsS90.set_0 | apply IsS90.set_1 | apply IsS90.set_2 | apply IsS90.far (hne := NB188_187.out) | apply IsS90.far (hne := NB188_189.out)) | exact HI188.out)); (case side2 => repeat (first | (with_reducible first | exact HB.out | apply below_alloc | apply pw_below_drewN | apply below_drew1 | refine below_set ?_ (IsS90.ge HI188.out) | refine below_set ?_ GE187.out | refine below_set ?_ GE189.out) | exact HB.out)); rintro e w51 ⟨rfl, hi, hb, hk⟩; refine ⟨_, rfl, ?_⟩; have n0_ := Aside0.mk (Kd.R_mono (Kd.R_keep (IsS90.apart (show IsS90 w _ gb188 x189000_2 x189001_2 x189002_2 from by repeat (first | (with_reducible first | exact HI188.out | apply IsS90.alloc | apply IsS90.drewN | apply IsS90.drew | apply IsS90.set_0 | apply IsS90.set_1 | apply IsS90.set_2 | apply IsS90.far (hne := NB188_187.out) | apply IsS90.far (hne := NB188_189.out)) | exact HI188.out)) (by (with_reducible repeat (first | apply Kd.R_alloc | apply Kd.R_drewN | apply Kd.R_drew)); exact HO_190000.out) (by decide)) hk (fun _ h => h.2)) (fun _ h => h.1)); have n1_ := Aside0.mk (Kd.R_mono (Kd.R_keep (IsS90.apart (show IsS90 w _ gb188 x189000_2 x189001_2 x189002_2 from by repeat (first | (with_reducible first | exact HI188.out | apply IsS90.alloc | apply IsS90.drewN | apply IsS90.drew | apply IsS90.set_0 | apply IsS90.set_1 | apply IsS90.set_2 | apply IsS90.far (hne := NB188_187.out) | apply IsS90.far (hne := NB188_189.out)) | exact HI188.out)) (by (with_reducible repeat (first | apply Kd.R_alloc | apply Kd.R_drewN | apply Kd.R_drew)); exact HO_190001.out) (by decide)) hk (fun _ h => h.2)) (fun _ h => h.1)); have n2_ := Aside0.mk (KeepBut.blk hk (g' := gb187) (o := .cells #[.slice none 0 0, .slice none 0 0, .int .i64 0, .int .i64 0] 36 (0, 0)) (by (with_reducible repeat (first | refine blk_drewN ?_ _ | refine blk_drew ?_ | refine blk_alloc ?_ _)); exact BK187.out) NB187_188.out (by simp)); have n3_ := Aside0.mk (KeepBut.blk hk (g' := gb189) (o := .cells #[u190000, u190001, .int .i64 0, .int .i64 0] 36 (0, 0)) (by (with_reducible repeat (first | refine blk_drewN ?_ _ | refine blk_drew ?_ | refine blk_alloc ?_ _)); exact BK189.out) NB189_188.out (by simp)); have n4_ := Aside0.mk (hb); have n5_ := Aside0.mk (hi); clear HO_190000; clear HO_190001; clear BK187; clear BK189; clear HB; clear HI188; have HO_190000 := n0_; have HO_190001 := n1_; have BK187 := n2_; have BK189 := n3_; have HB := n4_; have HI188 := n5_; clear n0_ n1_ n2_ n3_ n4_ n5_; (try clear hb); (try clear hb2); (try clear hk); (try clear hi)) | ((with_reducible refine gate_callee (f := 57) rfl ?_); refine goesL_ (some 51) rfl rfl Try.func57 (by kernel_rfl) rfl #[.pointer (some ⟨gb188, 0, none⟩)] rfl (by (try simp only [List.map_toArray, List.map_cons, List.map_nil]); first | done | rfl | (simp only [List.length_drop, List.length_take]; rfl)) ?_; (with_reducible refine (entry_Taker_Num.calls k2 gb188 t206 t207 t208 t209 t210 t211 t212 w _ ?side1 ?side2 A36.out).mono ?_); (case side1 => repeat (first | (with_reducible first | exact HI188.out | apply IsS90.alloc | apply IsS90.drewN | apply IsS90.drew | apply IsS90.set_0 | apply IsS90.set_1 | apply IsS90.set_2 | apply IsS90.far (hne := NB188_187.out) | apply IsS90.far (hne := NB188_189.out)) | exact HI188.out)); (case side2 => repeat (first | (with_reducible first | exact HB.out | apply below_alloc | apply pw_below_drewN | apply below_drew1 | refine below_set ?_ (IsS90.ge HI188.out) | refine below_set ?_ GE187.out | refine below_set ?_ GE189.out) | exact HB.out)); rintro e w52 ⟨rfl, hi, hb, hk⟩; refine ⟨_, rfl, ?_⟩; have n0_ := Aside0.mk (Kd.R_mono (Kd.R_keep (IsS90.apart (show IsS90 w _ gb188 t206 t207 t208 from by repeat (first | (with_reducible first | exact HI188.out | apply IsS90.alloc | apply IsS90.drewN | apply IsS90.drew | apply IsS90.set_0 | apply IsS90.set_1 | apply IsS90.set_2 | apply IsS90.far (hne := NB188_187.out) | apply IsS90.far (hne := NB188_189.out)) | exact HI188.out)) (by (with_reducible repeat (first | apply Kd.R_alloc | apply Kd.R_drewN | apply Kd.R_drew)); exact HO_190000.out) (by decide)) hk (fun _ h => h.2)) (fun _ h => h.1)); have n1_ := Aside0.mk (Kd.R_mono (Kd.R_keep (IsS90.apart (show IsS90 w _ gb188 t206 t207 t208 from by repeat (first | (with_reducible first | exact HI188.out | apply IsS90.alloc | apply IsS90.drewN | apply IsS90.drew | apply IsS90.set_0 | apply IsS90.set_1 | apply IsS90.set_2 | apply IsS90.far (hne := NB188_187.out) | apply IsS90.far (hne := NB188_189.out)) | exact HI188.out)) (by (with_reducible repeat (first | apply Kd.R_alloc | apply Kd.R_drewN | apply Kd.R_drew)); exact HO_190001.out) (by decide)) hk (fun _ h => h.2)) (fun _ h => h.1)); have n2_ := Aside0.mk (KeepBut.blk hk (g' := gb187) (o := .cells #[.slice none 0 0, .slice none 0 0, .int .i64 0, .int .i64 0] 36 (0, 0)) (by (with_reducible repeat (first | refine blk_drewN ?_ _ | refine blk_drew ?_ | refine blk_alloc ?_ _)); exact BK187.out) NB187_188.out (by simp)); have n3_ := Aside0.mk (KeepBut.blk hk (g' := gb189) (o := .cells #[u190000, u190001, .int .i64 0, .int .i64 0] 36 (0, 0)) (by (with_reducible repeat (first | refine blk_drewN ?_ _ | refine blk_drew ?_ | refine blk_alloc ?_ _)); exact BK189.out) NB189_188.out (by simp)); have n4_ := Aside0.mk (hb); have n5_ := Aside0.mk (hi); clear HO_190000; clear HO_190001; clear BK187; clear BK189; clear HB; clear HI188; have HO_190000 := n0_; have HO_190001 := n1_; have BK187 := n2_; have BK189 := n3_; have HB := n4_; have HI188 := n5_; clear n0_ n1_ n2_ n3_ n4_ n5_; (try clear hb); (try clear hb2); (try clear hk); (try clear hi); have hnb53 := NB189_187.out; have hnc53 := NB187_189.out; have hnb54 := NB189_188.out; have hnc54 := NB188_189.out; have hcz55_0 : w52.cell? ⟨gb189, 0, none⟩ = some (u190000) := (blk_cell BK189.out 0).trans rfl; have hcz55_1 : w52.cell? ⟨gb189, 1, none⟩ = some (u190001) := (blk_cell BK189.out 1).trans rfl; have hcz55_2 : w52.cell? ⟨gb189, 2, none⟩ = some (.int .i64 0) := (blk_cell BK189.out 2).trans rfl; have hcz55_3 : w52.cell? ⟨gb189, 3, none⟩ = some (.int .i64 0) := (blk_cell BK189.out 3).trans rfl; have hfz55_0 := blk_frozen BK189.out 0; have hfz55_1 := blk_frozen BK189.out 1; have hfz55_2 := blk_frozen BK189.out 2; have hfz55_3 := blk_frozen BK189.out 3))
    have n0_ : Aside0 (Kd.R (Kd.int .i64) 3 ((w52.setCell ⟨gb189, 2, none⟩ (.int .i64 t205)).setCell ⟨gb189, 3, none⟩ (.int .i64 t209)) w.heap.size (fun _ => True) u190000 x190000_1) := ⟨by (with_reducible repeat (first | apply Kd.R_alloc | apply Kd.R_drewN | apply Kd.R_drew)); exact Kd.R_mono (Kd.R_far (p := ⟨gb189, 3, none⟩) (Kd.R_far (p := ⟨gb189, 2, none⟩) (Kd.R_types HO_190000.out BK189.out (by decide)) (fun _ hk => hk.2) (.int .i64 t205)) (fun _ hk => hk.2) (.int .i64 t209)) (fun _ hk => trivial)⟩
    have n1_ : Aside0 (Kd.R k32 32 ((w52.setCell ⟨gb189, 2, none⟩ (.int .i64 t205)).setCell ⟨gb189, 3, none⟩ (.int .i64 t209)) w.heap.size (fun _ => True) u190001 x190001_2) := ⟨by (with_reducible repeat (first | apply Kd.R_alloc | apply Kd.R_drewN | apply Kd.R_drew)); exact Kd.R_mono (Kd.R_far (p := ⟨gb189, 3, none⟩) (Kd.R_far (p := ⟨gb189, 2, none⟩) (Kd.R_types HO_190001.out BK189.out (by decide)) (fun _ hk => hk.2) (.int .i64 t205)) (fun _ hk => hk.2) (.int .i64 t209)) (fun _ hk => trivial)⟩
    have n2_ : Aside0 (((w52.setCell ⟨gb189, 2, none⟩ (.int .i64 t205)).setCell ⟨gb189, 3, none⟩ (.int .i64 t209)).heap[gb187]? = some (.cells #[.slice none 0 0, .slice none 0 0, .int .i64 0, .int .i64 0] 36 (0, 0))) := ⟨by (with_reducible repeat (first | refine blk_drewN ?_ _ | refine blk_drew ?_ | refine blk_alloc ?_ _)); refine blk_far ?_ NB187_189.out _; (with_reducible repeat (first | refine blk_drewN ?_ _ | refine blk_drew ?_ | refine blk_alloc ?_ _)); refine blk_far ?_ NB187_189.out _; (with_reducible repeat (first | refine blk_drewN ?_ _ | refine blk_drew ?_ | refine blk_alloc ?_ _)); exact BK187.out⟩
    have n3_ : Aside0 (((w52.setCell ⟨gb189, 2, none⟩ (.int .i64 t205)).setCell ⟨gb189, 3, none⟩ (.int .i64 t209)).heap[gb189]? = some (.cells #[u190000, u190001, .int .i64 t205, .int .i64 t209] 36 (0, 0))) := ⟨by (with_reducible repeat (first | refine blk_drewN ?_ _ | refine blk_drew ?_ | refine blk_alloc ?_ _)); refine blk_put (cs := #[u190000, u190001, .int .i64 t205, .int .i64 0]) ?_ 3 _ rfl; (with_reducible repeat (first | refine blk_drewN ?_ _ | refine blk_drew ?_ | refine blk_alloc ?_ _)); refine blk_put (cs := #[u190000, u190001, .int .i64 0, .int .i64 0]) ?_ 2 _ rfl; (with_reducible repeat (first | refine blk_drewN ?_ _ | refine blk_drew ?_ | refine blk_alloc ?_ _)); exact BK189.out⟩
    have n4_ : Aside0 (IsS90 w ((w52.setCell ⟨gb189, 2, none⟩ (.int .i64 t205)).setCell ⟨gb189, 3, none⟩ (.int .i64 t209)) gb188 t210 t211 t212) := ⟨by repeat (first | (with_reducible first | exact HI188.out | apply IsS90.alloc | apply IsS90.drewN | apply IsS90.drew | apply IsS90.set_0 | apply IsS90.set_1 | apply IsS90.set_2 | apply IsS90.far (hne := NB188_187.out) | apply IsS90.far (hne := NB188_189.out)) | exact HI188.out)⟩
    have n5_ : Aside0 (Below w.heap.size w ((w52.setCell ⟨gb189, 2, none⟩ (.int .i64 t205)).setCell ⟨gb189, 3, none⟩ (.int .i64 t209))) := ⟨by repeat (first | (with_reducible first | exact HB.out | apply below_alloc | apply pw_below_drewN | apply below_drew1 | refine below_set ?_ (IsS90.ge HI188.out) | refine below_set ?_ GE187.out | refine below_set ?_ GE189.out) | exact HB.out)⟩
    (try clear HO_190000)
    (try clear HO_190001)
    (try clear BK187)
    (try clear BK189)
    (try clear HI188)
    (try clear HB)
    generalize ((w52.setCell ⟨gb189, 2, none⟩ (.int .i64 t205)).setCell ⟨gb189, 3, none⟩ (.int .i64 t209)) = w56 at n0_ n1_ n2_ n3_ n4_ n5_ ⊢
    have HO_190000 := n0_
    have HO_190001 := n1_
    have BK187 := n2_
    have BK189 := n3_
    have HI188 := n4_
    have HB := n5_
    clear n0_ n1_ n2_ n3_ n4_ n5_
    have BK188 := Aside0.mk HI188.out.1
    have GE188 := Aside0.mk HI188.out.2
    have GW188 := Aside0.mk HI188.out.2
    clear HI188
    have n0_ := Aside0.mk (Kd.R_drew HO_190000.out)
    have n1_ := Aside0.mk (Kd.R_drew HO_190001.out)
    have n2_ := Aside0.mk (blk_drew BK187.out)
    have n3_ := Aside0.mk (blk_drew BK189.out)
    have n4_ := Aside0.mk (blk_drew BK188.out)
    have n5_ := Aside0.mk (below_drew1 HB.out)
    clear HO_190000
    clear HO_190001
    clear BK187
    clear BK189
    clear BK188
    clear HB
    have HO_190000 := n0_
    have HO_190001 := n1_
    have BK187 := n2_
    have BK189 := n3_
    have BK188 := n4_
    have HB := n5_
    clear n0_ n1_ n2_ n3_ n4_ n5_
    obtain ⟨Ao58, co58, eo58⟩ := Kd.R_slice HO_190000.out
    (first | subst eo58 | (injection eo58 with f1_ f2_ f3_; have f4_ := f1_.symm; have f5_ := f3_.symm; clear f1_ f2_ f3_; subst f4_; subst f5_))
    obtain ⟨Ao60, co60, eo60⟩ := Kd.R_slice HO_190001.out
    (first | subst eo60 | (injection eo60 with f1_ f2_ f3_; have f4_ := f1_.symm; have f5_ := f3_.symm; clear f1_ f2_ f3_; subst f4_; subst f5_))
    refine start_ (n := 17) (S := fun w' => w'.cell? ⟨gb189, 0, none⟩ = some (.slice Ao58 x190000_1.length co58) ∧ w'.cell? ⟨gb189, 1, none⟩ = some (.slice Ao60 x190001_2.length co60) ∧ w'.cell? ⟨gb189, 2, none⟩ = some (.int .i64 t205) ∧ w'.cell? ⟨gb189, 3, none⟩ = some (.int .i64 t209) ∧ w'.cell? ⟨gb188, 0, none⟩ = some (.string t210) ∧ w'.cell? ⟨gb188, 1, none⟩ = some (.int .i64 t211) ∧ w'.cell? ⟨gb188, 2, none⟩ = some (.int .i64 t212)) (ds := []) #[false, false, false, false, false, false, false, false, false, false, false, false, false, false, false, false, false] (by kernel_rfl) rfl rfl ⟨(blk_cell BK189.out 0).trans rfl, (blk_cell BK189.out 1).trans rfl, (blk_cell BK189.out 2).trans rfl, (blk_cell BK189.out 3).trans rfl, (blk_cell BK188.out 0).trans rfl, (blk_cell BK188.out 1).trans rfl, (blk_cell BK188.out 2).trans rfl⟩ (fun hHeld => ?_); refine with_tabW sheet_take.tab12 sheet_take.bits12 (fun HT_ HW_ => ?_)
    generalize w56.drew = w57 at HO_190000 HO_190001 BK187 BK189 BK188 HB hHeld ⊢
    refine pure_ (i := 1) (N := some 55) (v := ?_) (a' := ?_) #[false, true, false, false, false, false, false, false, false, false, false, false, false, false, false, false, false] rfl rfl (any_of HT_.out (by kernel_rfl)) (fun _ _ _ h => h) (Or.inl ⟨by rfl, ?_⟩) ?_ ?_
    rotate_left
    · intro w'
      go_simp
      with_reducible rfl
    rotate_left
    · simp only [Act.put, List.setIfInBounds_toArray, List.set_cons_zero, List.set_cons_succ, i64_w, i32_w]
      rfl
    refine pure_ (i := 2) (N := some 56) (v := ?_) (a' := ?_) #[false, true, true, false, false, false, false, false, false, false, false, false, false, false, false, false, false] rfl rfl (any_of HT_.out (by kernel_rfl)) (fun _ _ _ h => h) (Or.inl ⟨by rfl, ?_⟩) ?_ ?_
    rotate_left
    · intro w'
      go_simp
      with_reducible rfl
    rotate_left
    · simp only [Act.put, List.setIfInBounds_toArray, List.set_cons_zero, List.set_cons_succ, i64_w, i32_w]
      rfl
    refine pure_ (i := 3) (N := some 57) (v := ?_) (a' := ?_) #[false, true, true, true, false, false, false, false, false, false, false, false, false, false, false, false, false] rfl rfl (any_of HT_.out (by kernel_rfl)) (fun _ _ _ h => h) (Or.inl ⟨by rfl, ?_⟩) ?_ ?_
    rotate_left
    · intro w'
      go_simp
      with_reducible rfl
    rotate_left
    · simp only [Act.put, List.setIfInBounds_toArray, List.set_cons_zero, List.set_cons_succ, i64_w, i32_w]
      rfl
    refine take_ (i := 0) (N := some 54) (v := ?_) (a' := ?_) #[true, true, true, true, false, false, false, false, false, false, false, false, false, false, false, false, false] rfl rfl (take_ofW HT_.out HW_.out (by kernel_rfl)) (fun _ _ _ h => h) (Or.inl ⟨by rfl, ?_⟩) hHeld ?_ ?_
    rotate_left
    · rintro w' ⟨s0, s1, s2, s3, s4, s5, s6⟩
      go_simp
      with_reducible rfl
    rotate_left
    · simp only [Act.put, List.setIfInBounds_toArray, List.set_cons_zero, List.set_cons_succ, i64_w, i32_w]
      rfl
    refine take_ (i := 4) (N := some 58) (v := ?_) (a' := ?_) #[true, true, true, true, true, false, false, false, false, false, false, false, false, false, false, false, false] rfl rfl (take_ofW HT_.out HW_.out (by kernel_rfl)) (fun _ _ _ h => h) (Or.inl ⟨by rfl, ?_⟩) hHeld ?_ ?_
    rotate_left
    · rintro w' ⟨s0, s1, s2, s3, s4, s5, s6⟩
      go_simp
      with_reducible rfl
    rotate_left
    · simp only [Act.put, List.setIfInBounds_toArray, List.set_cons_zero, List.set_cons_succ, i64_w, i32_w]
      rfl
    refine pure_ (i := 5) (N := some 59) (v := ?_) (a' := ?_) #[true, true, true, true, true, true, false, false, false, false, false, false, false, false, false, false, false] rfl rfl (any_of HT_.out (by kernel_rfl)) (fun _ _ _ h => h) (Or.inl ⟨by rfl, ?_⟩) ?_ ?_
    rotate_left
    · intro w'
      go_simp
      with_reducible rfl
    rotate_left
    · simp only [Act.put, List.setIfInBounds_toArray, List.set_cons_zero, List.set_cons_succ, i64_w, i32_w]
      rfl
    refine pure_ (i := 6) (N := some 60) (v := ?_) (a' := ?_) #[true, true, true, true, true, true, true, false, false, false, false, false, false, false, false, false, false] rfl rfl (any_of HT_.out (by kernel_rfl)) (fun _ _ _ h => h) (Or.inl ⟨by rfl, ?_⟩) ?_ ?_
    rotate_left
    · intro w'
      go_simp
      with_reducible rfl
    rotate_left
    · simp only [Act.put, List.setIfInBounds_toArray, List.set_cons_zero, List.set_cons_succ, i64_w, i32_w]
      rfl
    refine pure_ (i := 7) (N := some 61) (v := undef) (a' := ?_) #[true, true, true, true, true, true, true, true, false, false, false, false, false, false, false, false, false] rfl rfl (any_of HT_.out (by kernel_rfl)) (fun _ _ _ h => h) (Or.inr ⟨by rfl, rfl⟩) ?_ ?_
    rotate_left
    · simp only [Act.put, List.setIfInBounds_toArray, List.set_cons_zero, List.set_cons_succ, i64_w, i32_w]
      rfl
    refine pure_ (i := 8) (N := some 62) (v := undef) (a' := ?_) #[true, true, true, true, true, true, true, true, true, false, false, false, false, false, false, false, false] rfl rfl (any_of HT_.out (by kernel_rfl)) (fun _ _ _ h => h) (Or.inr ⟨by rfl, rfl⟩) ?_ ?_
    rotate_left
    · simp only [Act.put, List.setIfInBounds_toArray, List.set_cons_zero, List.set_cons_succ, i64_w, i32_w]
      rfl
    refine pure_ (i := 9) (N := some 63) (v := undef) (a' := ?_) #[true, true, true, true, true, true, true, true, true, true, false, false, false, false, false, false, false] rfl rfl (any_of HT_.out (by kernel_rfl)) (fun _ _ _ h => h) (Or.inr ⟨by rfl, rfl⟩) ?_ ?_
    rotate_left
    · simp only [Act.put, List.setIfInBounds_toArray, List.set_cons_zero, List.set_cons_succ, i64_w, i32_w]
      rfl
    refine pure_ (i := 10) (N := some 64) (v := undef) (a' := ?_) #[true, true, true, true, true, true, true, true, true, true, true, false, false, false, false, false, false] rfl rfl (any_of HT_.out (by kernel_rfl)) (fun _ _ _ h => h) (Or.inr ⟨by rfl, rfl⟩) ?_ ?_
    rotate_left
    · simp only [Act.put, List.setIfInBounds_toArray, List.set_cons_zero, List.set_cons_succ, i64_w, i32_w]
      rfl
    refine pure_ (i := 11) (N := some 65) (v := undef) (a' := ?_) #[true, true, true, true, true, true, true, true, true, true, true, true, false, false, false, false, false] rfl rfl (any_of HT_.out (by kernel_rfl)) (fun _ _ _ h => h) (Or.inr ⟨by rfl, rfl⟩) ?_ ?_
    rotate_left
    · simp only [Act.put, List.setIfInBounds_toArray, List.set_cons_zero, List.set_cons_succ, i64_w, i32_w]
      rfl
    refine pure_ (i := 12) (N := some 66) (v := undef) (a' := ?_) #[true, true, true, true, true, true, true, true, true, true, true, true, true, false, false, false, false] rfl rfl (any_of HT_.out (by kernel_rfl)) (fun _ _ _ h => h) (Or.inr ⟨by rfl, rfl⟩) ?_ ?_
    rotate_left
    · simp only [Act.put, List.setIfInBounds_toArray, List.set_cons_zero, List.set_cons_succ, i64_w, i32_w]
      rfl
    refine pure_ (i := 13) (N := some 67) (v := undef) (a' := ?_) #[true, true, true, true, true, true, true, true, true, true, true, true, true, true, false, false, false] rfl rfl (any_of HT_.out (by kernel_rfl)) (fun _ _ _ h => h) (Or.inr ⟨by rfl, rfl⟩) ?_ ?_
    rotate_left
    · simp only [Act.put, List.setIfInBounds_toArray, List.set_cons_zero, List.set_cons_succ, i64_w, i32_w]
      rfl
    refine pure_ (i := 14) (N := some 68) (v := ?_) (a' := ?_) #[true, true, true, true, true, true, true, true, true, true, true, true, true, true, true, false, false] rfl rfl (any_of HT_.out (by kernel_rfl)) (fun _ _ _ h => h) (Or.inl ⟨by rfl, ?_⟩) ?_ ?_
    rotate_left
    · intro w'
      go_simp
      with_reducible rfl
    rotate_left
    · simp only [Act.put, List.setIfInBounds_toArray, List.set_cons_zero, List.set_cons_succ, i64_w, i32_w]
      rfl
    refine one_ (i := 15) (N := none) #[true, true, true, true, true, true, true, true, true, true, true, true, true, true, true, true, false] rfl rfl (one_of HT_.out (by kernel_rfl)) (by decide) (fun K hK => ?_)
    have hs59 : w57.cell? ⟨gb187, 0, none⟩ = some (.slice none 0 0) := (blk_cell BK187.out 0).trans rfl
    have hfs59 := blk_frozen BK187.out 0
    have hns59_1 := NB189_187.out
    have hns59_2 := NB188_187.out
    have hms59_1 := NB187_189.out
    have hms59_2 := NB187_188.out
    have hs61 : w57.cell? ⟨gb187, 1, none⟩ = some (.slice none 0 0) := (blk_cell BK187.out 1).trans rfl
    have hfs61 := blk_frozen BK187.out 1
    have hns61_1 := NB189_187.out
    have hns61_2 := NB188_187.out
    have hms61_1 := NB187_189.out
    have hms61_2 := NB187_188.out
    have hs62 : w57.cell? ⟨gb187, 2, none⟩ = some (.int .i64 0) := (blk_cell BK187.out 2).trans rfl
    have hfs62 := blk_frozen BK187.out 2
    have hns62_1 := NB189_187.out
    have hns62_2 := NB188_187.out
    have hms62_1 := NB187_189.out
    have hms62_2 := NB187_188.out
    have hs63 : w57.cell? ⟨gb187, 3, none⟩ = some (.int .i64 0) := (blk_cell BK187.out 3).trans rfl
    have hfs63 := blk_frozen BK187.out 3
    have hns63_1 := NB189_187.out
    have hns63_2 := NB188_187.out
    have hms63_1 := NB187_189.out
    have hms63_2 := NB187_188.out
    refine skip_ (w1 := ?_) (by rfl) rfl ?_ ?_
    rotate_left
    · go_simp
      rfl
    refine hK.out _ _ ⟨((cell_far (p := ⟨gb187, _, none⟩) NB189_187.out _).trans (((cell_far (p := ⟨gb187, _, none⟩) NB189_187.out _).trans (((cell_far (p := ⟨gb187, _, none⟩) NB189_187.out _).trans (((cell_far (p := ⟨gb187, _, none⟩) NB189_187.out _).trans (hHeld.1)))))))), ((cell_far (p := ⟨gb187, _, none⟩) NB189_187.out _).trans (((cell_far (p := ⟨gb187, _, none⟩) NB189_187.out _).trans (((cell_far (p := ⟨gb187, _, none⟩) NB189_187.out _).trans (((cell_far (p := ⟨gb187, _, none⟩) NB189_187.out _).trans (hHeld.2.1)))))))), ((cell_far (p := ⟨gb187, _, none⟩) NB189_187.out _).trans (((cell_far (p := ⟨gb187, _, none⟩) NB189_187.out _).trans (((cell_far (p := ⟨gb187, _, none⟩) NB189_187.out _).trans (((cell_far (p := ⟨gb187, _, none⟩) NB189_187.out _).trans (hHeld.2.2.1)))))))), ((cell_far (p := ⟨gb187, _, none⟩) NB189_187.out _).trans (((cell_far (p := ⟨gb187, _, none⟩) NB189_187.out _).trans (((cell_far (p := ⟨gb187, _, none⟩) NB189_187.out _).trans (((cell_far (p := ⟨gb187, _, none⟩) NB189_187.out _).trans (hHeld.2.2.2.1)))))))), ((cell_far (p := ⟨gb187, _, none⟩) NB188_187.out _).trans (((cell_far (p := ⟨gb187, _, none⟩) NB188_187.out _).trans (((cell_far (p := ⟨gb187, _, none⟩) NB188_187.out _).trans (((cell_far (p := ⟨gb187, _, none⟩) NB188_187.out _).trans (hHeld.2.2.2.2.1)))))))), ((cell_far (p := ⟨gb187, _, none⟩) NB188_187.out _).trans (((cell_far (p := ⟨gb187, _, none⟩) NB188_187.out _).trans (((cell_far (p := ⟨gb187, _, none⟩) NB188_187.out _).trans (((cell_far (p := ⟨gb187, _, none⟩) NB188_187.out _).trans (hHeld.2.2.2.2.2.1)))))))), ((cell_far (p := ⟨gb187, _, none⟩) NB188_187.out _).trans (((cell_far (p := ⟨gb187, _, none⟩) NB188_187.out _).trans (((cell_far (p := ⟨gb187, _, none⟩) NB188_187.out _).trans (((cell_far (p := ⟨gb187, _, none⟩) NB188_187.out _).trans (hHeld.2.2.2.2.2.2))))))))⟩ (fun hHeld => ?_)
    clear hK K
    refine pure_ (i := 16) (N := some 3) (v := ?_) (a' := ?_) #[true, true, true, true, true, true, true, true, true, true, true, true, true, true, true, true, true] rfl rfl (any_of HT_.out (by kernel_rfl)) (fun _ _ _ h => h) (Or.inl ⟨by rfl, ?_⟩) ?_ ?_
    rotate_left
    · intro w'
      go_simp
      with_reducible rfl
    rotate_left
    · simp only [Act.put, List.setIfInBounds_toArray, List.set_cons_zero, List.set_cons_succ, i64_w, i32_w]
      rfl
    refine done_ (done_of HT_.out (by kernel_rfl)) ?_
    have HI188 := Aside0.mk (show IsS90 w _ gb188 t210 t211 t212 from ⟨BK188.out, GE188.out⟩)
    clear BK188 GE188 GW188
    try go_wp2
    refine bodyPost_ret (results_ct rfl _ _ gb187 36 #[.slice Ao58 x190000_1.length co58, .slice Ao60 x190001_2.length co60, .int .i64 t205, .int .i64 t209] (0, 0) _ rfl (by (with_reducible repeat (first | refine blk_drewN ?_ _ | refine blk_drew ?_ | refine blk_alloc ?_ _)); refine blk_put (cs := #[.slice Ao58 x190000_1.length co58, .slice Ao60 x190001_2.length co60, .int .i64 t205, .int .i64 0]) ?_ 3 _ rfl; (with_reducible repeat (first | refine blk_drewN ?_ _ | refine blk_drew ?_ | refine blk_alloc ?_ _)); refine blk_put (cs := #[.slice Ao58 x190000_1.length co58, .slice Ao60 x190001_2.length co60, .int .i64 0, .int .i64 0]) ?_ 2 _ rfl; (with_reducible repeat (first | refine blk_drewN ?_ _ | refine blk_drew ?_ | refine blk_alloc ?_ _)); refine blk_put (cs := #[.slice Ao58 x190000_1.length co58, .slice none 0 0, .int .i64 0, .int .i64 0]) ?_ 1 _ rfl; (with_reducible repeat (first | refine blk_drewN ?_ _ | refine blk_drew ?_ | refine blk_alloc ?_ _)); refine blk_put (cs := #[.slice none 0 0, .slice none 0 0, .int .i64 0, .int .i64 0]) ?_ 0 _ rfl; (with_reducible repeat (first | refine blk_drewN ?_ _ | refine blk_drew ?_ | refine blk_alloc ?_ _)); exact BK187.out) Try.underlying36 rfl (by kernel_rfl)) rfl ?_
    exact ⟨_, _, by first | rfl | (simp [errW_none, errW_some] <;> rfl) | (simp only [← hji3, ← hji17]; first | rfl | (simp [errW_none, errW_some] <;> rfl)) | (simp [*, errW_none, errW_some] <;> rfl), by (with_reducible repeat (first | apply Kd.R_alloc | apply Kd.R_drewN | apply Kd.R_drew)); exact Kd.R_mono (Kd.R_far (p := ⟨gb187, 3, none⟩) (Kd.R_far (p := ⟨gb187, 2, none⟩) (Kd.R_far (p := ⟨gb187, 1, none⟩) (Kd.R_far (p := ⟨gb187, 0, none⟩) (Kd.R_types HO_190000.out BK187.out (by decide)) (fun _ hk => hk.2) (.slice Ao58 x190000_1.length co58)) (fun _ hk => hk.2) (.slice Ao60 x190001_2.length co60)) (fun _ hk => hk.2) (.int .i64 t205)) (fun _ hk => hk.2) (.int .i64 t209)) (fun _ hk => trivial), by (with_reducible repeat (first | apply Kd.R_alloc | apply Kd.R_drewN | apply Kd.R_drew)); exact Kd.R_mono (Kd.R_far (p := ⟨gb187, 3, none⟩) (Kd.R_far (p := ⟨gb187, 2, none⟩) (Kd.R_far (p := ⟨gb187, 1, none⟩) (Kd.R_far (p := ⟨gb187, 0, none⟩) (Kd.R_types HO_190001.out BK187.out (by decide)) (fun _ hk => hk.2) (.slice Ao58 x190000_1.length co58)) (fun _ hk => hk.2) (.slice Ao60 x190001_2.length co60)) (fun _ hk => hk.2) (.int .i64 t205)) (fun _ hk => hk.2) (.int .i64 t209)) (fun _ hk => trivial), by repeat (first | (with_reducible first | exact HB.out | apply below_alloc | apply pw_below_drewN | apply below_drew1 | refine below_set ?_ (IsS90.ge HI188.out) | refine below_set ?_ GE187.out | refine below_set ?_ GE189.out) | exact HB.out)⟩
  rw [if_pos c37] at H
  have c37b0 : (t212 == 0) = true := beq_iff_eq.mpr c37
  have c37b1 : (t212 != 0) = false := bne_eq_false_iff_eq.mpr c37
  clear c37
  simp only [Option.some.injEq, Prod.mk.injEq] at H
  obtain ⟨rfl, rfl, rfl, rfl, rfl⟩ := H
  try go_wp2_with (first | ((with_reducible refine gate_callee (f := 57) rfl ?_); refine goesL_ (some 49) rfl rfl Try.func57 (by kernel_rfl) rfl #[.pointer (some ⟨gb188, 0, none⟩)] rfl (by (try simp only [List.map_toArray, List.map_cons, List.map_nil]); first | done | rfl | (simp only [List.length_drop, List.length_take]; rfl)) ?_; (with_reducible refine (entry_Taker_Num.calls k2 gb188 x189000_2 x189001_2 x189002_2 t205 t206 t207 t208 w _ ?side1 ?side2 A35.out).mono ?_); (case side1 => repeat (first | (with_reducible first | exact HI188.out | apply IsS90.alloc | apply IsS90.drewN | apply IsS90.drew | apply IsS90.set_0 | apply IsS90.set_1 | apply IsS90.set_2 | apply IsS90.far (hne := NB188_187.out) | apply IsS90.far (hne := NB188_189.out)) | exact HI188.out)); (case side2 => repeat (first | (with_reducible first | exact HB.out | apply below_alloc | apply pw_below_drewN | apply below_drew1 | refine below_set ?_ (IsS90.ge HI188.out) | refine below_set ?_ GE187.out | refine below_set ?_ GE189.out) | exact HB.out)); rintro e w38 ⟨rfl, hi, hb, hk⟩; refine ⟨_, rfl, ?_⟩; have n0_ := Aside0.mk (Kd.R_mono (Kd.R_keep (IsS90.apart (show IsS90 w _ gb188 x189000_2 x189001_2 x189002_2 from by repeat (first | (with_reducible first | exact HI188.out | apply IsS90.alloc | apply IsS90.drewN | apply IsS90.drew | apply IsS90.set_0 | apply IsS90.set_1 | apply IsS90.set_2 | apply IsS90.far (hne := NB188_187.out) | apply IsS90.far (hne := NB188_189.out)) | exact HI188.out)) (by (with_reducible repeat (first | apply Kd.R_alloc | apply Kd.R_drewN | apply Kd.R_drew)); exact HO_190000.out) (by decide)) hk (fun _ h => h.2)) (fun _ h => h.1)); have n1_ := Aside0.mk (Kd.R_mono (Kd.R_keep (IsS90.apart (show IsS90 w _ gb188 x189000_2 x189001_2 x189002_2 from by repeat (first | (with_reducible first | exact HI188.out | apply IsS90.alloc | apply IsS90.drewN | apply IsS90.drew | apply IsS90.set_0 | apply IsS90.set_1 | apply IsS90.set_2 | apply IsS90.far (hne := NB188_187.out) | apply IsS90.far (hne := NB188_189.out)) | exact HI188.out)) (by (with_reducible repeat (first | apply Kd.R_alloc | apply Kd.R_drewN | apply Kd.R_drew)); exact HO_190001.out) (by decide)) hk (fun _ h => h.2)) (fun _ h => h.1)); have n2_ := Aside0.mk (KeepBut.blk hk (g' := gb187) (o := .cells #[.slice none 0 0, .slice none 0 0, .int .i64 0, .int .i64 0] 36 (0, 0)) (by (with_reducible repeat (first | refine blk_drewN ?_ _ | refine blk_drew ?_ | refine blk_alloc ?_ _)); exact BK187.out) NB187_188.out (by simp)); have n3_ := Aside0.mk (KeepBut.blk hk (g' := gb189) (o := .cells #[u190000, u190001, .int .i64 0, .int .i64 0] 36 (0, 0)) (by (with_reducible repeat (first | refine blk_drewN ?_ _ | refine blk_drew ?_ | refine blk_alloc ?_ _)); exact BK189.out) NB189_188.out (by simp)); have n4_ := Aside0.mk (hb); have n5_ := Aside0.mk (hi); clear HO_190000; clear HO_190001; clear BK187; clear BK189; clear HB; clear HI188; have HO_190000 := n0_; have HO_190001 := n1_; have BK187 := n2_; have BK189 := n3_; have HB := n4_; have HI188 := n5_; clear n0_ n1_ n2_ n3_ n4_ n5_; (try clear hb); (try clear hb2); (try clear hk); (try clear hi)) | ((with_reducible refine gate_callee (f := 57) rfl ?_); refine goesL_ (some 51) rfl rfl Try.func57 (by kernel_rfl) rfl #[.pointer (some ⟨gb188, 0, none⟩)] rfl (by (try simp only [List.map_toArray, List.map_cons, List.map_nil]); first | done | rfl | (simp only [List.length_drop, List.length_take]; rfl)) ?_; (with_reducible refine (entry_Taker_Num.calls k2 gb188 t206 t207 t208 t209 t210 t211 t212 w _ ?side1 ?side2 A36.out).mono ?_); (case side1 => repeat (first | (with_reducible first | exact HI188.out | apply IsS90.alloc | apply IsS90.drewN | apply IsS90.drew | apply IsS90.set_0 | apply IsS90.set_1 | apply IsS90.set_2 | apply IsS90.far (hne := NB188_187.out) | apply IsS90.far (hne := NB188_189.out)) | exact HI188.out)); (case side2 => repeat (first | (with_reducible first | exact HB.out | apply below_alloc | apply pw_below_drewN | apply below_drew1 | refine below_set ?_ (IsS90.ge HI188.out) | refine below_set ?_ GE187.out | refine below_set ?_ GE189.out) | exact HB.out)); rintro e w39 ⟨rfl, hi, hb, hk⟩; refine ⟨_, rfl, ?_⟩; have n0_ := Aside0.mk (Kd.R_mono (Kd.R_keep (IsS90.apart (show IsS90 w _ gb188 t206 t207 t208 from by repeat (first | (with_reducible first | exact HI188.out | apply IsS90.alloc | apply IsS90.drewN | apply IsS90.drew | apply IsS90.set_0 | apply IsS90.set_1 | apply IsS90.set_2 | apply IsS90.far (hne := NB188_187.out) | apply IsS90.far (hne := NB188_189.out)) | exact HI188.out)) (by (with_reducible repeat (first | apply Kd.R_alloc | apply Kd.R_drewN | apply Kd.R_drew)); exact HO_190000.out) (by decide)) hk (fun _ h => h.2)) (fun _ h => h.1)); have n1_ := Aside0.mk (Kd.R_mono (Kd.R_keep (IsS90.apart (show IsS90 w _ gb188 t206 t207 t208 from by repeat (first | (with_reducible first | exact HI188.out | apply IsS90.alloc | apply IsS90.drewN | apply IsS90.drew | apply IsS90.set_0 | apply IsS90.set_1 | apply IsS90.set_2 | apply IsS90.far (hne := NB188_187.out) | apply IsS90.far (hne := NB188_189.out)) | exact HI188.out)) (by (with_reducible repeat (first | apply Kd.R_alloc | apply Kd.R_drewN | apply Kd.R_drew)); exact HO_190001.out) (by decide)) hk (fun _ h => h.2)) (fun _ h => h.1)); have n2_ := Aside0.mk (KeepBut.blk hk (g' := gb187) (o := .cells #[.slice none 0 0, .slice none 0 0, .int .i64 0, .int .i64 0] 36 (0, 0)) (by (with_reducible repeat (first | refine blk_drewN ?_ _ | refine blk_drew ?_ | refine blk_alloc ?_ _)); exact BK187.out) NB187_188.out (by simp)); have n3_ := Aside0.mk (KeepBut.blk hk (g' := gb189) (o := .cells #[u190000, u190001, .int .i64 0, .int .i64 0] 36 (0, 0)) (by (with_reducible repeat (first | refine blk_drewN ?_ _ | refine blk_drew ?_ | refine blk_alloc ?_ _)); exact BK189.out) NB189_188.out (by simp)); have n4_ := Aside0.mk (hb); have n5_ := Aside0.mk (hi); clear HO_190000; clear HO_190001; clear BK187; clear BK189; clear HB; clear HI188; have HO_190000 := n0_; have HO_190001 := n1_; have BK187 := n2_; have BK189 := n3_; have HB := n4_; have HI188 := n5_; clear n0_ n1_ n2_ n3_ n4_ n5_; (try clear hb); (try clear hb2); (try clear hk); (try clear hi); have hnb40 := NB189_187.out; have hnc40 := NB187_189.out; have hnb41 := NB189_188.out; have hnc41 := NB188_189.out; have hcz42_0 : w39.cell? ⟨gb189, 0, none⟩ = some (u190000) := (blk_cell BK189.out 0).trans rfl; have hcz42_1 : w39.cell? ⟨gb189, 1, none⟩ = some (u190001) := (blk_cell BK189.out 1).trans rfl; have hcz42_2 : w39.cell? ⟨gb189, 2, none⟩ = some (.int .i64 0) := (blk_cell BK189.out 2).trans rfl; have hcz42_3 : w39.cell? ⟨gb189, 3, none⟩ = some (.int .i64 0) := (blk_cell BK189.out 3).trans rfl; have hfz42_0 := blk_frozen BK189.out 0; have hfz42_1 := blk_frozen BK189.out 1; have hfz42_2 := blk_frozen BK189.out 2; have hfz42_3 := blk_frozen BK189.out 3))
  have n0_ : Aside0 (Kd.R (Kd.int .i64) 3 ((w39.setCell ⟨gb189, 2, none⟩ (.int .i64 t205)).setCell ⟨gb189, 3, none⟩ (.int .i64 t209)) w.heap.size (fun _ => True) u190000 x190000_1) := ⟨by (with_reducible repeat (first | apply Kd.R_alloc | apply Kd.R_drewN | apply Kd.R_drew)); exact Kd.R_mono (Kd.R_far (p := ⟨gb189, 3, none⟩) (Kd.R_far (p := ⟨gb189, 2, none⟩) (Kd.R_types HO_190000.out BK189.out (by decide)) (fun _ hk => hk.2) (.int .i64 t205)) (fun _ hk => hk.2) (.int .i64 t209)) (fun _ hk => trivial)⟩
  have n1_ : Aside0 (Kd.R k32 32 ((w39.setCell ⟨gb189, 2, none⟩ (.int .i64 t205)).setCell ⟨gb189, 3, none⟩ (.int .i64 t209)) w.heap.size (fun _ => True) u190001 x190001_2) := ⟨by (with_reducible repeat (first | apply Kd.R_alloc | apply Kd.R_drewN | apply Kd.R_drew)); exact Kd.R_mono (Kd.R_far (p := ⟨gb189, 3, none⟩) (Kd.R_far (p := ⟨gb189, 2, none⟩) (Kd.R_types HO_190001.out BK189.out (by decide)) (fun _ hk => hk.2) (.int .i64 t205)) (fun _ hk => hk.2) (.int .i64 t209)) (fun _ hk => trivial)⟩
  have n2_ : Aside0 (((w39.setCell ⟨gb189, 2, none⟩ (.int .i64 t205)).setCell ⟨gb189, 3, none⟩ (.int .i64 t209)).heap[gb187]? = some (.cells #[.slice none 0 0, .slice none 0 0, .int .i64 0, .int .i64 0] 36 (0, 0))) := ⟨by (with_reducible repeat (first | refine blk_drewN ?_ _ | refine blk_drew ?_ | refine blk_alloc ?_ _)); refine blk_far ?_ NB187_189.out _; (with_reducible repeat (first | refine blk_drewN ?_ _ | refine blk_drew ?_ | refine blk_alloc ?_ _)); refine blk_far ?_ NB187_189.out _; (with_reducible repeat (first | refine blk_drewN ?_ _ | refine blk_drew ?_ | refine blk_alloc ?_ _)); exact BK187.out⟩
  have n3_ : Aside0 (((w39.setCell ⟨gb189, 2, none⟩ (.int .i64 t205)).setCell ⟨gb189, 3, none⟩ (.int .i64 t209)).heap[gb189]? = some (.cells #[u190000, u190001, .int .i64 t205, .int .i64 t209] 36 (0, 0))) := ⟨by (with_reducible repeat (first | refine blk_drewN ?_ _ | refine blk_drew ?_ | refine blk_alloc ?_ _)); refine blk_put (cs := #[u190000, u190001, .int .i64 t205, .int .i64 0]) ?_ 3 _ rfl; (with_reducible repeat (first | refine blk_drewN ?_ _ | refine blk_drew ?_ | refine blk_alloc ?_ _)); refine blk_put (cs := #[u190000, u190001, .int .i64 0, .int .i64 0]) ?_ 2 _ rfl; (with_reducible repeat (first | refine blk_drewN ?_ _ | refine blk_drew ?_ | refine blk_alloc ?_ _)); exact BK189.out⟩
  have n4_ : Aside0 (IsS90 w ((w39.setCell ⟨gb189, 2, none⟩ (.int .i64 t205)).setCell ⟨gb189, 3, none⟩ (.int .i64 t209)) gb188 t210 t211 t212) := ⟨by repeat (first | (with_reducible first | exact HI188.out | apply IsS90.alloc | apply IsS90.drewN | apply IsS90.drew | apply IsS90.set_0 | apply IsS90.set_1 | apply IsS90.set_2 | apply IsS90.far (hne := NB188_187.out) | apply IsS90.far (hne := NB188_189.out)) | exact HI188.out)⟩
  have n5_ : Aside0 (Below w.heap.size w ((w39.setCell ⟨gb189, 2, none⟩ (.int .i64 t205)).setCell ⟨gb189, 3, none⟩ (.int .i64 t209))) := ⟨by repeat (first | (with_reducible first | exact HB.out | apply below_alloc | apply pw_below_drewN | apply below_drew1 | refine below_set ?_ (IsS90.ge HI188.out) | refine below_set ?_ GE187.out | refine below_set ?_ GE189.out) | exact HB.out)⟩
  (try clear HO_190000)
  (try clear HO_190001)
  (try clear BK187)
  (try clear BK189)
  (try clear HI188)
  (try clear HB)
  generalize ((w39.setCell ⟨gb189, 2, none⟩ (.int .i64 t205)).setCell ⟨gb189, 3, none⟩ (.int .i64 t209)) = w43 at n0_ n1_ n2_ n3_ n4_ n5_ ⊢
  have HO_190000 := n0_
  have HO_190001 := n1_
  have BK187 := n2_
  have BK189 := n3_
  have HI188 := n4_
  have HB := n5_
  clear n0_ n1_ n2_ n3_ n4_ n5_
  have BK188 := Aside0.mk HI188.out.1
  have GE188 := Aside0.mk HI188.out.2
  have GW188 := Aside0.mk HI188.out.2
  clear HI188
  have n0_ := Aside0.mk (Kd.R_drew HO_190000.out)
  have n1_ := Aside0.mk (Kd.R_drew HO_190001.out)
  have n2_ := Aside0.mk (blk_drew BK187.out)
  have n3_ := Aside0.mk (blk_drew BK189.out)
  have n4_ := Aside0.mk (blk_drew BK188.out)
  have n5_ := Aside0.mk (below_drew1 HB.out)
  clear HO_190000
  clear HO_190001
  clear BK187
  clear BK189
  clear BK188
  clear HB
  have HO_190000 := n0_
  have HO_190001 := n1_
  have BK187 := n2_
  have BK189 := n3_
  have BK188 := n4_
  have HB := n5_
  clear n0_ n1_ n2_ n3_ n4_ n5_
  obtain ⟨Ao45, co45, eo45⟩ := Kd.R_slice HO_190000.out
  (first | subst eo45 | (injection eo45 with f1_ f2_ f3_; have f4_ := f1_.symm; have f5_ := f3_.symm; clear f1_ f2_ f3_; subst f4_; subst f5_))
  obtain ⟨Ao47, co47, eo47⟩ := Kd.R_slice HO_190001.out
  (first | subst eo47 | (injection eo47 with f1_ f2_ f3_; have f4_ := f1_.symm; have f5_ := f3_.symm; clear f1_ f2_ f3_; subst f4_; subst f5_))
  refine start_ (n := 17) (S := fun w' => w'.cell? ⟨gb189, 0, none⟩ = some (.slice Ao45 x190000_1.length co45) ∧ w'.cell? ⟨gb189, 1, none⟩ = some (.slice Ao47 x190001_2.length co47) ∧ w'.cell? ⟨gb189, 2, none⟩ = some (.int .i64 t205) ∧ w'.cell? ⟨gb189, 3, none⟩ = some (.int .i64 t209) ∧ w'.cell? ⟨gb188, 0, none⟩ = some (.string t210) ∧ w'.cell? ⟨gb188, 1, none⟩ = some (.int .i64 t211) ∧ w'.cell? ⟨gb188, 2, none⟩ = some (.int .i64 t212)) (ds := []) #[false, false, false, false, false, false, false, false, false, false, false, false, false, false, false, false, false] (by kernel_rfl) rfl rfl ⟨(blk_cell BK189.out 0).trans rfl, (blk_cell BK189.out 1).trans rfl, (blk_cell BK189.out 2).trans rfl, (blk_cell BK189.out 3).trans rfl, (blk_cell BK188.out 0).trans rfl, (blk_cell BK188.out 1).trans rfl, (blk_cell BK188.out 2).trans rfl⟩ (fun hHeld => ?_); refine with_tabW sheet_take.tab12 sheet_take.bits12 (fun HT_ HW_ => ?_)
  generalize w43.drew = w44 at HO_190000 HO_190001 BK187 BK189 BK188 HB hHeld ⊢
  refine pure_ (i := 1) (N := some 55) (v := ?_) (a' := ?_) #[false, true, false, false, false, false, false, false, false, false, false, false, false, false, false, false, false] rfl rfl (any_of HT_.out (by kernel_rfl)) (fun _ _ _ h => h) (Or.inl ⟨by rfl, ?_⟩) ?_ ?_
  rotate_left
  · intro w'
    go_simp
    with_reducible rfl
  rotate_left
  · simp only [Act.put, List.setIfInBounds_toArray, List.set_cons_zero, List.set_cons_succ, i64_w, i32_w]
    rfl
  refine pure_ (i := 2) (N := some 56) (v := ?_) (a' := ?_) #[false, true, true, false, false, false, false, false, false, false, false, false, false, false, false, false, false] rfl rfl (any_of HT_.out (by kernel_rfl)) (fun _ _ _ h => h) (Or.inl ⟨by rfl, ?_⟩) ?_ ?_
  rotate_left
  · intro w'
    go_simp
    with_reducible rfl
  rotate_left
  · simp only [Act.put, List.setIfInBounds_toArray, List.set_cons_zero, List.set_cons_succ, i64_w, i32_w]
    rfl
  refine pure_ (i := 3) (N := some 57) (v := ?_) (a' := ?_) #[false, true, true, true, false, false, false, false, false, false, false, false, false, false, false, false, false] rfl rfl (any_of HT_.out (by kernel_rfl)) (fun _ _ _ h => h) (Or.inl ⟨by rfl, ?_⟩) ?_ ?_
  rotate_left
  · intro w'
    go_simp
    with_reducible rfl
  rotate_left
  · simp only [Act.put, List.setIfInBounds_toArray, List.set_cons_zero, List.set_cons_succ, i64_w, i32_w]
    rfl
  refine take_ (i := 0) (N := some 54) (v := ?_) (a' := ?_) #[true, true, true, true, false, false, false, false, false, false, false, false, false, false, false, false, false] rfl rfl (take_ofW HT_.out HW_.out (by kernel_rfl)) (fun _ _ _ h => h) (Or.inl ⟨by rfl, ?_⟩) hHeld ?_ ?_
  rotate_left
  · rintro w' ⟨s0, s1, s2, s3, s4, s5, s6⟩
    go_simp
    with_reducible rfl
  rotate_left
  · simp only [Act.put, List.setIfInBounds_toArray, List.set_cons_zero, List.set_cons_succ, i64_w, i32_w]
    rfl
  refine take_ (i := 4) (N := some 58) (v := ?_) (a' := ?_) #[true, true, true, true, true, false, false, false, false, false, false, false, false, false, false, false, false] rfl rfl (take_ofW HT_.out HW_.out (by kernel_rfl)) (fun _ _ _ h => h) (Or.inl ⟨by rfl, ?_⟩) hHeld ?_ ?_
  rotate_left
  · rintro w' ⟨s0, s1, s2, s3, s4, s5, s6⟩
    go_simp
    with_reducible rfl
  rotate_left
  · simp only [Act.put, List.setIfInBounds_toArray, List.set_cons_zero, List.set_cons_succ, i64_w, i32_w]
    rfl
  refine pure_ (i := 5) (N := some 59) (v := ?_) (a' := ?_) #[true, true, true, true, true, true, false, false, false, false, false, false, false, false, false, false, false] rfl rfl (any_of HT_.out (by kernel_rfl)) (fun _ _ _ h => h) (Or.inl ⟨by rfl, ?_⟩) ?_ ?_
  rotate_left
  · intro w'
    go_simp
    with_reducible rfl
  rotate_left
  · simp only [Act.put, List.setIfInBounds_toArray, List.set_cons_zero, List.set_cons_succ, i64_w, i32_w]
    rfl
  refine pure_ (i := 6) (N := some 60) (v := ?_) (a' := ?_) #[true, true, true, true, true, true, true, false, false, false, false, false, false, false, false, false, false] rfl rfl (any_of HT_.out (by kernel_rfl)) (fun _ _ _ h => h) (Or.inl ⟨by rfl, ?_⟩) ?_ ?_
  rotate_left
  · intro w'
    go_simp
    with_reducible rfl
  rotate_left
  · simp only [Act.put, List.setIfInBounds_toArray, List.set_cons_zero, List.set_cons_succ, i64_w, i32_w]
    rfl
  refine pure_ (i := 7) (N := some 61) (v := ?_) (a' := ?_) #[true, true, true, true, true, true, true, true, false, false, false, false, false, false, false, false, false] rfl rfl (any_of HT_.out (by kernel_rfl)) (fun _ _ _ h => h) (Or.inl ⟨by rfl, ?_⟩) ?_ ?_
  rotate_left
  · intro w'
    go_simp
    with_reducible rfl
  rotate_left
  · simp only [Act.put, List.setIfInBounds_toArray, List.set_cons_zero, List.set_cons_succ, i64_w, i32_w]
    rfl
  refine pure_ (i := 8) (N := some 62) (v := ?_) (a' := ?_) #[true, true, true, true, true, true, true, true, true, false, false, false, false, false, false, false, false] rfl rfl (any_of HT_.out (by kernel_rfl)) (fun _ _ _ h => h) (Or.inl ⟨by rfl, ?_⟩) ?_ ?_
  rotate_left
  · intro w'
    go_simp
    with_reducible rfl
  rotate_left
  · simp only [Act.put, List.setIfInBounds_toArray, List.set_cons_zero, List.set_cons_succ, i64_w, i32_w]
    rfl
  refine pure_ (i := 9) (N := some 63) (v := ?_) (a' := ?_) #[true, true, true, true, true, true, true, true, true, true, false, false, false, false, false, false, false] rfl rfl (any_of HT_.out (by kernel_rfl)) (fun _ _ _ h => h) (Or.inl ⟨by rfl, ?_⟩) ?_ ?_
  rotate_left
  · intro w'
    go_simp
    with_reducible rfl
  rotate_left
  · simp only [Act.put, List.setIfInBounds_toArray, List.set_cons_zero, List.set_cons_succ, i64_w, i32_w]
    rfl
  refine pure_ (i := 11) (N := some 65) (v := ?_) (a' := ?_) #[true, true, true, true, true, true, true, true, true, true, false, true, false, false, false, false, false] rfl rfl (any_of HT_.out (by kernel_rfl)) (fun _ _ _ h => h) (Or.inl ⟨by rfl, ?_⟩) ?_ ?_
  rotate_left
  · intro w'
    go_simp
    with_reducible rfl
  rotate_left
  · simp only [Act.put, List.setIfInBounds_toArray, List.set_cons_zero, List.set_cons_succ, i64_w, i32_w]
    rfl
  refine pure_ (i := 12) (N := some 66) (v := ?_) (a' := ?_) #[true, true, true, true, true, true, true, true, true, true, false, true, true, false, false, false, false] rfl rfl (any_of HT_.out (by kernel_rfl)) (fun _ _ _ h => h) (Or.inl ⟨by rfl, ?_⟩) ?_ ?_
  rotate_left
  · intro w'
    go_simp
    with_reducible rfl
  rotate_left
  · simp only [Act.put, List.setIfInBounds_toArray, List.set_cons_zero, List.set_cons_succ, i64_w, i32_w]
    rfl
  refine take_ (i := 10) (N := some 64) (v := ?_) (a' := ?_) #[true, true, true, true, true, true, true, true, true, true, true, true, true, false, false, false, false] rfl rfl (take_ofW HT_.out HW_.out (by kernel_rfl)) (fun _ _ _ h => h) (Or.inl ⟨by rfl, ?_⟩) hHeld ?_ ?_
  rotate_left
  · rintro w' ⟨s0, s1, s2, s3, s4, s5, s6⟩
    go_simp
    with_reducible rfl
  rotate_left
  · simp only [Act.put, List.setIfInBounds_toArray, List.set_cons_zero, List.set_cons_succ, i64_w, i32_w]
    rfl
  refine pure_ (i := 13) (N := some 67) (v := ?_) (a' := ?_) #[true, true, true, true, true, true, true, true, true, true, true, true, true, true, false, false, false] rfl rfl (any_of HT_.out (by kernel_rfl)) (fun _ _ _ h => h) (Or.inl ⟨by rfl, ?_⟩) ?_ ?_
  rotate_left
  · intro w'
    go_simp
    with_reducible rfl
  rotate_left
  · simp only [Act.put, List.setIfInBounds_toArray, List.set_cons_zero, List.set_cons_succ, i64_w, i32_w]
    rfl
  refine pure_ (i := 14) (N := some 68) (v := ?_) (a' := ?_) #[true, true, true, true, true, true, true, true, true, true, true, true, true, true, true, false, false] rfl rfl (any_of HT_.out (by kernel_rfl)) (fun _ _ _ h => h) (Or.inl ⟨by rfl, ?_⟩) ?_ ?_
  rotate_left
  · intro w'
    go_simp
    with_reducible rfl
  rotate_left
  · simp only [Act.put, List.setIfInBounds_toArray, List.set_cons_zero, List.set_cons_succ, i64_w, i32_w]
    rfl
  refine one_ (i := 15) (N := none) #[true, true, true, true, true, true, true, true, true, true, true, true, true, true, true, true, false] rfl rfl (one_of HT_.out (by kernel_rfl)) (by decide) (fun K hK => ?_)
  have hs46 : w44.cell? ⟨gb187, 0, none⟩ = some (.slice none 0 0) := (blk_cell BK187.out 0).trans rfl
  have hfs46 := blk_frozen BK187.out 0
  have hns46_1 := NB189_187.out
  have hns46_2 := NB188_187.out
  have hms46_1 := NB187_189.out
  have hms46_2 := NB187_188.out
  have hs48 : w44.cell? ⟨gb187, 1, none⟩ = some (.slice none 0 0) := (blk_cell BK187.out 1).trans rfl
  have hfs48 := blk_frozen BK187.out 1
  have hns48_1 := NB189_187.out
  have hns48_2 := NB188_187.out
  have hms48_1 := NB187_189.out
  have hms48_2 := NB187_188.out
  have hs49 : w44.cell? ⟨gb187, 2, none⟩ = some (.int .i64 0) := (blk_cell BK187.out 2).trans rfl
  have hfs49 := blk_frozen BK187.out 2
  have hns49_1 := NB189_187.out
  have hns49_2 := NB188_187.out
  have hms49_1 := NB187_189.out
  have hms49_2 := NB187_188.out
  have hs50 : w44.cell? ⟨gb187, 3, none⟩ = some (.int .i64 0) := (blk_cell BK187.out 3).trans rfl
  have hfs50 := blk_frozen BK187.out 3
  have hns50_1 := NB189_187.out
  have hns50_2 := NB188_187.out
  have hms50_1 := NB187_189.out
  have hms50_2 := NB187_188.out
  refine skip_ (w1 := ?_) (by rfl) rfl ?_ ?_
  rotate_left
  · go_simp
    rfl
  refine hK.out _ _ ⟨((cell_far (p := ⟨gb187, _, none⟩) NB189_187.out _).trans (((cell_far (p := ⟨gb187, _, none⟩) NB189_187.out _).trans (((cell_far (p := ⟨gb187, _, none⟩) NB189_187.out _).trans (((cell_far (p := ⟨gb187, _, none⟩) NB189_187.out _).trans (hHeld.1)))))))), ((cell_far (p := ⟨gb187, _, none⟩) NB189_187.out _).trans (((cell_far (p := ⟨gb187, _, none⟩) NB189_187.out _).trans (((cell_far (p := ⟨gb187, _, none⟩) NB189_187.out _).trans (((cell_far (p := ⟨gb187, _, none⟩) NB189_187.out _).trans (hHeld.2.1)))))))), ((cell_far (p := ⟨gb187, _, none⟩) NB189_187.out _).trans (((cell_far (p := ⟨gb187, _, none⟩) NB189_187.out _).trans (((cell_far (p := ⟨gb187, _, none⟩) NB189_187.out _).trans (((cell_far (p := ⟨gb187, _, none⟩) NB189_187.out _).trans (hHeld.2.2.1)))))))), ((cell_far (p := ⟨gb187, _, none⟩) NB189_187.out _).trans (((cell_far (p := ⟨gb187, _, none⟩) NB189_187.out _).trans (((cell_far (p := ⟨gb187, _, none⟩) NB189_187.out _).trans (((cell_far (p := ⟨gb187, _, none⟩) NB189_187.out _).trans (hHeld.2.2.2.1)))))))), ((cell_far (p := ⟨gb187, _, none⟩) NB188_187.out _).trans (((cell_far (p := ⟨gb187, _, none⟩) NB188_187.out _).trans (((cell_far (p := ⟨gb187, _, none⟩) NB188_187.out _).trans (((cell_far (p := ⟨gb187, _, none⟩) NB188_187.out _).trans (hHeld.2.2.2.2.1)))))))), ((cell_far (p := ⟨gb187, _, none⟩) NB188_187.out _).trans (((cell_far (p := ⟨gb187, _, none⟩) NB188_187.out _).trans (((cell_far (p := ⟨gb187, _, none⟩) NB188_187.out _).trans (((cell_far (p := ⟨gb187, _, none⟩) NB188_187.out _).trans (hHeld.2.2.2.2.2.1)))))))), ((cell_far (p := ⟨gb187, _, none⟩) NB188_187.out _).trans (((cell_far (p := ⟨gb187, _, none⟩) NB188_187.out _).trans (((cell_far (p := ⟨gb187, _, none⟩) NB188_187.out _).trans (((cell_far (p := ⟨gb187, _, none⟩) NB188_187.out _).trans (hHeld.2.2.2.2.2.2))))))))⟩ (fun hHeld => ?_)
  clear hK K
  refine pure_ (i := 16) (N := some 3) (v := ?_) (a' := ?_) #[true, true, true, true, true, true, true, true, true, true, true, true, true, true, true, true, true] rfl rfl (any_of HT_.out (by kernel_rfl)) (fun _ _ _ h => h) (Or.inl ⟨by rfl, ?_⟩) ?_ ?_
  rotate_left
  · intro w'
    go_simp
    with_reducible rfl
  rotate_left
  · simp only [Act.put, List.setIfInBounds_toArray, List.set_cons_zero, List.set_cons_succ, i64_w, i32_w]
    rfl
  refine done_ (done_of HT_.out (by kernel_rfl)) ?_
  have HI188 := Aside0.mk (show IsS90 w _ gb188 t210 t211 t212 from ⟨BK188.out, GE188.out⟩)
  clear BK188 GE188 GW188
  try go_wp2
  refine bodyPost_ret (results_ct rfl _ _ gb187 36 #[.slice Ao45 x190000_1.length co45, .slice Ao47 x190001_2.length co47, .int .i64 t205, .int .i64 t209] (0, 0) _ rfl (by (with_reducible repeat (first | refine blk_drewN ?_ _ | refine blk_drew ?_ | refine blk_alloc ?_ _)); refine blk_put (cs := #[.slice Ao45 x190000_1.length co45, .slice Ao47 x190001_2.length co47, .int .i64 t205, .int .i64 0]) ?_ 3 _ rfl; (with_reducible repeat (first | refine blk_drewN ?_ _ | refine blk_drew ?_ | refine blk_alloc ?_ _)); refine blk_put (cs := #[.slice Ao45 x190000_1.length co45, .slice Ao47 x190001_2.length co47, .int .i64 0, .int .i64 0]) ?_ 2 _ rfl; (with_reducible repeat (first | refine blk_drewN ?_ _ | refine blk_drew ?_ | refine blk_alloc ?_ _)); refine blk_put (cs := #[.slice Ao45 x190000_1.length co45, .slice none 0 0, .int .i64 0, .int .i64 0]) ?_ 1 _ rfl; (with_reducible repeat (first | refine blk_drewN ?_ _ | refine blk_drew ?_ | refine blk_alloc ?_ _)); refine blk_put (cs := #[.slice none 0 0, .slice none 0 0, .int .i64 0, .int .i64 0]) ?_ 0 _ rfl; (with_reducible repeat (first | refine blk_drewN ?_ _ | refine blk_drew ?_ | refine blk_alloc ?_ _)); exact BK187.out) Try.underlying36 rfl (by kernel_rfl)) rfl ?_
  exact ⟨_, _, by first | rfl | (simp [errW_none, errW_some] <;> rfl) | (simp only [← hji3, ← hji17]; first | rfl | (simp [errW_none, errW_some] <;> rfl)) | (simp [*, errW_none, errW_some] <;> rfl), by (with_reducible repeat (first | apply Kd.R_alloc | apply Kd.R_drewN | apply Kd.R_drew)); exact Kd.R_mono (Kd.R_far (p := ⟨gb187, 3, none⟩) (Kd.R_far (p := ⟨gb187, 2, none⟩) (Kd.R_far (p := ⟨gb187, 1, none⟩) (Kd.R_far (p := ⟨gb187, 0, none⟩) (Kd.R_types HO_190000.out BK187.out (by decide)) (fun _ hk => hk.2) (.slice Ao45 x190000_1.length co45)) (fun _ hk => hk.2) (.slice Ao47 x190001_2.length co47)) (fun _ hk => hk.2) (.int .i64 t205)) (fun _ hk => hk.2) (.int .i64 t209)) (fun _ hk => trivial), by (with_reducible repeat (first | apply Kd.R_alloc | apply Kd.R_drewN | apply Kd.R_drew)); exact Kd.R_mono (Kd.R_far (p := ⟨gb187, 3, none⟩) (Kd.R_far (p := ⟨gb187, 2, none⟩) (Kd.R_far (p := ⟨gb187, 1, none⟩) (Kd.R_far (p := ⟨gb187, 0, none⟩) (Kd.R_types HO_190001.out BK187.out (by decide)) (fun _ hk => hk.2) (.slice Ao45 x190000_1.length co45)) (fun _ hk => hk.2) (.slice Ao47 x190001_2.length co47)) (fun _ hk => hk.2) (.int .i64 t205)) (fun _ hk => hk.2) (.int .i64 t209)) (fun _ hk => trivial), by repeat (first | (with_reducible first | exact HB.out | apply below_alloc | apply pw_below_drewN | apply below_drew1 | refine below_set ?_ (IsS90.ge HI188.out) | refine below_set ?_ GE187.out | refine below_set ?_ GE189.out) | exact HB.out)⟩

end Go.Proofs.Ytmbedgopceigaaa.P
