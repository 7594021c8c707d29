-- Printed by a changed copy of the kit's printer (wip/tools/ext.py); labels and more
import Derived.Test.YtggmgenofmfdpaaM0
import Derived.Test.YtggmgenofmfdpaaM3
import Derived.Test.YtggmgenofmfdpaaM5
import Derived.Test.YtggmgenofmfdpaaM6
namespace Go.Proofs.Ytggmgenofmfdpaa.P
open Go.RowKit Go.Proofs.YtggmgenofmfdpaaW.PrintWords Go.Proofs.YtggmgenofmfdpaaW.PrintLast Go.Proofs.YtggmgenofmfdpaaW.PrintMore
attribute [local go_sem] max2_int min2_int max_two min_two max_three min_three max_four min_four   -- for this text's walks alone
set_option linter.unusedVariables false
set_option linter.unusedSimpArgs false
set_option linter.unnecessarySimpa false

/-! ### ravelinlaw6_EntryOrders: function 5 -/
mutual
def ravelinlaw6_EntryOrders.j0 : Nat → List (S23) → Int → Bool → ByteArray → Int → Bool → ByteArray → ByteArray → Int → Bool → ByteArray → ByteArray → Int → Bool → ByteArray → Option (Bool)
  | 0, _, _, _, _, _, _, _, _, _, _, _, _, _, _, _ => none
  | k + 1, x3, x4, x26, x339000, x339001, x339002, x339003, x340000, x340001, x340002, x340003, x341000, x341001, x341002, x341003 => if x26 = true then (some true) else ((entry_Less.f k x339000 x339001 x339002 x339003 x340000 x340001 x340002 x340003).bind fun t347 => ((entry_Less.f k x340000 x340001 x340002 x340003 x339000 x339001 x339002 x339003).bind fun t348 => (if t347 = true then (if t348 = true then (ravelinlaw6_EntryOrders.j1 k x3 x4 true) else (if x339000.toList = x340000.toList then (if ((x339001 != x340001) != true) = true then (ravelinlaw6_EntryOrders.j1 k x3 x4 true) else ((entry_Less.f k x340000 x340001 x340002 x340003 x341000 x341001 x341002 x341003).bind fun t349 => (if t349 = true then ((entry_Less.f k x339000 x339001 x339002 x339003 x341000 x341001 x341002 x341003).bind fun t350 => (ravelinlaw6_EntryOrders.j1 k x3 x4 (!t350))) else (ravelinlaw6_EntryOrders.j1 k x3 x4 false)))) else (if (true != true) = true then (ravelinlaw6_EntryOrders.j1 k x3 x4 true) else ((entry_Less.f k x340000 x340001 x340002 x340003 x341000 x341001 x341002 x341003).bind fun t351 => (if t351 = true then ((entry_Less.f k x339000 x339001 x339002 x339003 x341000 x341001 x341002 x341003).bind fun t352 => (ravelinlaw6_EntryOrders.j1 k x3 x4 (!t352))) else (ravelinlaw6_EntryOrders.j1 k x3 x4 false)))))) else (if x339000.toList = x340000.toList then (if ((x339001 != x340001) != t348) = true then (ravelinlaw6_EntryOrders.j1 k x3 x4 true) else (ravelinlaw6_EntryOrders.j1 k x3 x4 false)) else (if (true != t348) = true then (ravelinlaw6_EntryOrders.j1 k x3 x4 true) else (ravelinlaw6_EntryOrders.j1 k x3 x4 false))))))
def ravelinlaw6_EntryOrders.j1 : Nat → List (S23) → Int → Bool → Option (Bool)
  | 0, _, _, _ => none
  | k + 1, x3, x4, x69 => if x69 = true then (some false) else (if (x3.length : Int) > 0 then (if (x3.length : Int) = 0 then (none) else ((entry_Sorted.f k x3).bind fun t353 => (if t353 = true then (if 0 ≤ (Int.tmod (wrap64 (x4)) (x3.length : Int)) then (if (Int.tmod (wrap64 (x4)) (x3.length : Int)) ≤ (x3.length : Int) then ((entry_Sorted.f k (x3.take ((Int.tmod (wrap64 (x4)) (x3.length : Int)) : Int).toNat)).bind fun t358 => (if t358 = true then ((entry_Sorted.f k (x3.drop ((Int.tmod (wrap64 (x4)) (x3.length : Int)) : Int).toNat)).bind fun t363 => (some t363)) else (some false))) else (none)) else (none)) else (some true)))) else ((entry_Sorted.f k x3).bind fun t364 => (if t364 = true then (if 0 ≤ (x3.length : Int) then ((entry_Sorted.f k (x3.take 0)).bind fun t369 => (if t369 = true then ((entry_Sorted.f k (x3.drop 0)).bind fun t374 => (some t374)) else (some false))) else (none)) else (some true))))
end
def ravelinlaw6_EntryOrders.f (k : Nat) (a0_0 : ByteArray) (a0_1 : Int) (a0_2 : Bool) (a0_3 : ByteArray) (a1_0 : ByteArray) (a1_1 : Int) (a1_2 : Bool) (a1_3 : ByteArray) (a2_0 : ByteArray) (a2_1 : Int) (a2_2 : Bool) (a2_3 : ByteArray) (l3 : List (S23)) (a4 : Int) : Option (Bool) := (ravelinlaw6_known.f k).bind fun t341 => (if t341 = true then ((ravelinlaw6_few.f k l3).bind fun t342 => (if t342 = true then ((ravelinlaw6_few.f k (([(⟨a0_0, a0_1, a0_2, a0_3⟩ : S23), (⟨a1_0, a1_1, a1_2, a1_3⟩ : S23), (⟨a2_0, a2_1, a2_2, a2_3⟩ : S23)] : List (S23)))).bind fun t346 => (ravelinlaw6_EntryOrders.j0 k l3 a4 (!t346) a0_0 a0_1 a0_2 a0_3 a1_0 a1_1 a1_2 a1_3 a2_0 a2_1 a2_2 a2_3)) else (ravelinlaw6_EntryOrders.j0 k l3 a4 true a0_0 a0_1 a0_2 a0_3 a1_0 a1_1 a1_2 a1_3 a2_0 a2_1 a2_2 a2_3))) else (some false))
theorem ravelinlaw6_EntryOrders.mono_l : ∀ k, (∀ y0 y1 y2 y3 y4 y5 y6 y7 y8 y9 y10 y11 y12 y13 y14, LeO (ravelinlaw6_EntryOrders.j0 k y0 y1 y2 y3 y4 y5 y6 y7 y8 y9 y10 y11 y12 y13 y14) (ravelinlaw6_EntryOrders.j0 (k + 1) y0 y1 y2 y3 y4 y5 y6 y7 y8 y9 y10 y11 y12 y13 y14)) ∧ (∀ y0 y1 y2, LeO (ravelinlaw6_EntryOrders.j1 k y0 y1 y2) (ravelinlaw6_EntryOrders.j1 (k + 1) y0 y1 y2))
  | 0 => ⟨fun _ _ _ _ _ _ _ _ _ _ _ _ _ _ _ r h => by simp [ravelinlaw6_EntryOrders.j0] at h, fun _ _ _ r h => by simp [ravelinlaw6_EntryOrders.j1] at h⟩
  | k + 1 => by
    obtain ⟨ih0, ih1⟩ := ravelinlaw6_EntryOrders.mono_l k
    refine ⟨?_, ?_⟩
    · intro y0 y1 y2 y3 y4 y5 y6 y7 y8 y9 y10 y11 y12 y13 y14
      unfold ravelinlaw6_EntryOrders.j0
      repeat' first
      | (with_reducible exact ih0 _ _ _ _ _ _ _ _ _ _ _ _ _ _ _)
      | (with_reducible exact ih1 _ _ _)
      | (with_reducible exact entry_Less.mono _ _ _ _ _ _ _ _ _)
      | (with_reducible exact entry_Sorted.mono _ _)
      | (with_reducible exact ravelinlaw6_few.mono _ _)
      | (with_reducible exact ravelinlaw6_known.mono _)
      | (with_reducible exact LeO.refl _)
      | (with_reducible exact LeO.none _)
      | (with_reducible refine LeO.ite ?_ ?_)
      | (with_reducible refine LeO.bind ?_ (fun _ => ?_))
      | exact ih0 _ _ _ _ _ _ _ _ _ _ _ _ _ _ _
      | exact ih1 _ _ _
      | exact entry_Less.mono _ _ _ _ _ _ _ _ _
      | exact entry_Sorted.mono _ _
      | exact ravelinlaw6_few.mono _ _
      | exact ravelinlaw6_known.mono _
      | exact LeO.none _
      | refine LeO.ite ?_ ?_
      | refine LeO.bind ?_ (fun _ => ?_)
    · intro y0 y1 y2
      unfold ravelinlaw6_EntryOrders.j1
      repeat' first
      | (with_reducible exact ih0 _ _ _ _ _ _ _ _ _ _ _ _ _ _ _)
      | (with_reducible exact ih1 _ _ _)
      | (with_reducible exact entry_Less.mono _ _ _ _ _ _ _ _ _)
      | (with_reducible exact entry_Sorted.mono _ _)
      | (with_reducible exact ravelinlaw6_few.mono _ _)
      | (with_reducible exact ravelinlaw6_known.mono _)
      | (with_reducible exact LeO.refl _)
      | (with_reducible exact LeO.none _)
      | (with_reducible refine LeO.ite ?_ ?_)
      | (with_reducible refine LeO.bind ?_ (fun _ => ?_))
      | exact ih0 _ _ _ _ _ _ _ _ _ _ _ _ _ _ _
      | exact ih1 _ _ _
      | exact entry_Less.mono _ _ _ _ _ _ _ _ _
      | exact entry_Sorted.mono _ _
      | exact ravelinlaw6_few.mono _ _
      | exact ravelinlaw6_known.mono _
      | exact LeO.none _
      | refine LeO.ite ?_ ?_
      | refine LeO.bind ?_ (fun _ => ?_)
theorem ravelinlaw6_EntryOrders.mono : ∀ a0 a1 a2 a3 a4 a5 a6 a7 a8 a9 a10 a11 a12 a13 k, LeO (ravelinlaw6_EntryOrders.f k a0 a1 a2 a3 a4 a5 a6 a7 a8 a9 a10 a11 a12 a13) (ravelinlaw6_EntryOrders.f (k + 1) a0 a1 a2 a3 a4 a5 a6 a7 a8 a9 a10 a11 a12 a13) := by
  intro a0 a1 a2 a3 a4 a5 a6 a7 a8 a9 a10 a11 a12 a13 k
  obtain ⟨ih0, ih1⟩ := ravelinlaw6_EntryOrders.mono_l k
  unfold ravelinlaw6_EntryOrders.f
  repeat' first
      | (with_reducible exact ih0 _ _ _ _ _ _ _ _ _ _ _ _ _ _ _)
      | (with_reducible exact ih1 _ _ _)
      | (with_reducible exact entry_Less.mono _ _ _ _ _ _ _ _ _)
      | (with_reducible exact entry_Sorted.mono _ _)
      | (with_reducible exact ravelinlaw6_few.mono _ _)
      | (with_reducible exact ravelinlaw6_known.mono _)
      | (with_reducible exact LeO.refl _)
      | (with_reducible exact LeO.none _)
      | (with_reducible refine LeO.ite ?_ ?_)
      | (with_reducible refine LeO.bind ?_ (fun _ => ?_))
      | exact ih0 _ _ _ _ _ _ _ _ _ _ _ _ _ _ _
      | exact ih1 _ _ _
      | exact entry_Less.mono _ _ _ _ _ _ _ _ _
      | exact entry_Sorted.mono _ _
      | exact ravelinlaw6_few.mono _ _
      | exact ravelinlaw6_known.mono _
      | exact LeO.none _
      | refine LeO.ite ?_ ?_
      | refine LeO.bind ?_ (fun _ => ?_)
def ravelinlaw6_EntryOrders.T5 : Bool × List (List Nat × List Nat) := (true, [([], []), ([], []), ([0, 1], [0, 1]), ([], []), ([], []), ([3, 4, 2], [3, 4]), ([2, 5, 0, 1, 2], [2]), ([5, 6, 0, 1, 2, 3, 4, 5, 6], [5])])
def ravelinlaw6_EntryOrders.B5 : List Nat := [0, 0, 3, 0, 0, 31, 63, 127]
theorem ravelinlaw6_EntryOrders.tab5 : rtab .any (opsOf Try.f5 5) = ravelinlaw6_EntryOrders.T5 := by kernel_rfl
theorem ravelinlaw6_EntryOrders.bits5 : waitsOk ravelinlaw6_EntryOrders.T5.2 ravelinlaw6_EntryOrders.B5 = true := by kernel_rfl
set_option maxHeartbeats 8000000 in
set_option maxRecDepth 100000 in
theorem ravelinlaw6_EntryOrders.calls (k : Nat) (a0_0 : ByteArray) (a0_1 : Int) (a0_2 : Bool) (a0_3 : ByteArray) (a1_0 : ByteArray) (a1_1 : Int) (a1_2 : Bool) (a1_3 : ByteArray) (a2_0 : ByteArray) (a2_1 : Int) (a2_2 : Bool) (a2_3 : ByteArray) (A3 : Option Addr) (c3 : Nat) (l3 : List (S23)) (a4 : Int) (r : Bool) (w : World) (hr3 : Kd.C k23 w A3 l3.length l3) (hc3 : l3.length ≤ c3) (h : ravelinlaw6_EntryOrders.f k a0_0 a0_1 a0_2 a0_3 a1_0 a1_1 a1_2 a1_3 a2_0 a2_1 a2_2 a2_3 l3 a4 = some r) (hr_ : r = true) :
    Calls Try.prog 5 #[.agg #[.string a0_0, .int .i64 a0_1, .bool a0_2, .string a0_3], .agg #[.string a1_0, .int .i64 a1_1, .bool a1_2, .string a1_3], .agg #[.string a2_0, .int .i64 a2_1, .bool a2_2, .string a2_3], .slice A3 l3.length c3, .int .u8 a4] w fun e w' => e = .returned (.bool r) ∧ Below w.heap.size w w' := by
  have hu23 := Try.underlying23
  have HR3 := Aside0.mk hr3
  have HC3 := Aside0.mk hc3
  clear hr3 hc3
  have HB := Aside0.mk (Below.refl w.heap.size w)
  have H : ((ravelinlaw6_known.f k).bind fun t341 => (if t341 = true then ((ravelinlaw6_few.f k l3).bind fun t342 => (if t342 = true then ((ravelinlaw6_few.f k (([(⟨a0_0, a0_1, a0_2, a0_3⟩ : S23), (⟨a1_0, a1_1, a1_2, a1_3⟩ : S23), (⟨a2_0, a2_1, a2_2, a2_3⟩ : S23)] : List (S23)))).bind fun t346 => (ravelinlaw6_EntryOrders.j0 k l3 a4 (!t346) a0_0 a0_1 a0_2 a0_3 a1_0 a1_1 a1_2 a1_3 a2_0 a2_1 a2_2 a2_3)) else (ravelinlaw6_EntryOrders.j0 k l3 a4 true a0_0 a0_1 a0_2 a0_3 a1_0 a1_1 a1_2 a1_3 a2_0 a2_1 a2_2 a2_3))) else (some false))) = some r := h
  clear h
  have HR_ := Aside0.mk hr_
  clear hr_
  replace H := Option.bind_eq_some_iff.mp H
  obtain ⟨t341, A60, H⟩ := H
  replace H : (if t341 = true then ((ravelinlaw6_few.f k l3).bind fun t342 => (if t342 = true then ((ravelinlaw6_few.f k (([(⟨a0_0, a0_1, a0_2, a0_3⟩ : S23), (⟨a1_0, a1_1, a1_2, a1_3⟩ : S23), (⟨a2_0, a2_1, a2_2, a2_3⟩ : S23)] : List (S23)))).bind fun t346 => (ravelinlaw6_EntryOrders.j0 k l3 a4 (!t346) a0_0 a0_1 a0_2 a0_3 a1_0 a1_1 a1_2 a1_3 a2_0 a2_1 a2_2 a2_3)) else (ravelinlaw6_EntryOrders.j0 k l3 a4 true a0_0 a0_1 a0_2 a0_3 a1_0 a1_1 a1_2 a1_3 a2_0 a2_1 a2_2 a2_3))) else (some false)) = some r := H
  have A6 := Aside0.mk A60
  clear A60
  by_cases c7 : t341 = true
  · subst c7
    have H1 : ((ravelinlaw6_few.f k l3).bind fun t342 => (if t342 = true then ((ravelinlaw6_few.f k (([(⟨a0_0, a0_1, a0_2, a0_3⟩ : S23), (⟨a1_0, a1_1, a1_2, a1_3⟩ : S23), (⟨a2_0, a2_1, a2_2, a2_3⟩ : S23)] : List (S23)))).bind fun t346 => (ravelinlaw6_EntryOrders.j0 k l3 a4 (!t346) a0_0 a0_1 a0_2 a0_3 a1_0 a1_1 a1_2 a1_3 a2_0 a2_1 a2_2 a2_3)) else (ravelinlaw6_EntryOrders.j0 k l3 a4 true a0_0 a0_1 a0_2 a0_3 a1_0 a1_1 a1_2 a1_3 a2_0 a2_1 a2_2 a2_3))) = some r := by rw [if_pos rfl] at H; exact H
    clear H
    have H := H1
    clear H1
    have HC8 := Aside0.mk H
    clear H
    go_enter Try.func5, Try.ntmps5
    go_upto_region 3 with (first | ((with_reducible refine gate_dst (N := 5) rfl ?_); (try (refine gate_guard (by rfl) ?_; dsimp only)); refine box_event ?hg (N := 5) ?hd (cs := #[.string a0_0, .int .i64 a0_1, .bool a0_2, .string a0_3]) (t := 23) ?hr ?_; (case hd => rfl); (case hg => rfl); (case hr => first | (go_simp; done) | (go_simp; rfl)); intro gb338 hg w9 hbox hb; have n0_ := Aside0.mk (below_step (by repeat (first | (with_reducible first | exact HB.out | apply below_alloc | apply pw_below_drewN | apply below_drew1) | exact HB.out)) hb); have n1_ := Aside0.mk (hbox); have n2_ := Aside0.mk ((by rw [hg]; exact (below_size (by repeat (first | (with_reducible first | exact HB.out | apply below_alloc | apply pw_below_drewN | apply below_drew1) | exact HB.out))) : w.heap.size ≤ gb338)); have n3_ := Aside0.mk ((by rw [hg]; exact (below_size (by repeat (first | (with_reducible first | exact HB.out | apply below_alloc | apply pw_below_drewN | apply below_drew1) | exact HB.out))) : w.heap.size ≤ gb338)); clear HB; have HB := n0_; have BK338 := n1_; have GW338 := n2_; have GE338 := n3_; clear n0_ n1_ n2_ n3_; clear hb hbox hg) | ((with_reducible refine gate_dst (N := 6) rfl ?_); (try (refine gate_guard (by rfl) ?_; dsimp only)); refine box_event ?hg (N := 6) ?hd (cs := #[.string a1_0, .int .i64 a1_1, .bool a1_2, .string a1_3]) (t := 23) ?hr ?_; (case hd => rfl); (case hg => rfl); (case hr => first | (go_simp; done) | (go_simp; rfl)); intro gb339 hg w10 hbox hb; have n0_ := Aside0.mk (blk_below (g := gb338) (o := .cells #[.string a0_0, .int .i64 a0_1, .bool a0_2, .string a0_3] 23 (0, 0)) (by (with_reducible repeat (first | refine blk_drewN ?_ _ | refine blk_drew ?_ | refine blk_alloc ?_ _)); exact BK338.out) hb); have n1_ := Aside0.mk (below_step (by repeat (first | (with_reducible first | exact HB.out | apply below_alloc | apply pw_below_drewN | apply below_drew1 | refine below_set ?_ GE338.out) | exact HB.out)) hb); have n2_ := Aside0.mk (hbox); have n3_ := Aside0.mk ((by rw [hg]; exact (below_size (by repeat (first | (with_reducible first | exact HB.out | apply below_alloc | apply pw_below_drewN | apply below_drew1 | refine below_set ?_ GE338.out) | exact HB.out))) : w.heap.size ≤ gb339)); have n4_ := Aside0.mk ((by rw [hg]; exact (below_size (by repeat (first | (with_reducible first | exact HB.out | apply below_alloc | apply pw_below_drewN | apply below_drew1 | refine below_set ?_ GE338.out) | exact HB.out))) : w.heap.size ≤ gb339)); have n5_ := Aside0.mk ((by rw [hg]; exact Nat.ne_of_lt (blk_lt (g := gb338) (o := .cells #[.string a0_0, .int .i64 a0_1, .bool a0_2, .string a0_3] 23 (0, 0)) (by (with_reducible repeat (first | refine blk_drewN ?_ _ | refine blk_drew ?_ | refine blk_alloc ?_ _)); exact BK338.out)) : gb338 ≠ gb339)); have n6_ := Aside0.mk ((by rw [hg]; exact Nat.ne_of_gt (blk_lt (g := gb338) (o := .cells #[.string a0_0, .int .i64 a0_1, .bool a0_2, .string a0_3] 23 (0, 0)) (by (with_reducible repeat (first | refine blk_drewN ?_ _ | refine blk_drew ?_ | refine blk_alloc ?_ _)); exact BK338.out)) : gb339 ≠ gb338)); clear BK338; clear HB; have BK338 := n0_; have HB := n1_; have BK339 := n2_; have GW339 := n3_; have GE339 := n4_; have NB338_339 := n5_; have NB339_338 := n6_; clear n0_ n1_ n2_ n3_ n4_ n5_ n6_; clear hb hbox hg) | ((with_reducible refine gate_dst (N := 7) rfl ?_); (try (refine gate_guard (by rfl) ?_; dsimp only)); refine box_event ?hg (N := 7) ?hd (cs := #[.string a2_0, .int .i64 a2_1, .bool a2_2, .string a2_3]) (t := 23) ?hr ?_; (case hd => rfl); (case hg => rfl); (case hr => first | (go_simp; done) | (go_simp; rfl)); intro gb340 hg w11 hbox hb; have n0_ := Aside0.mk (blk_below (g := gb338) (o := .cells #[.string a0_0, .int .i64 a0_1, .bool a0_2, .string a0_3] 23 (0, 0)) (by (with_reducible repeat (first | refine blk_drewN ?_ _ | refine blk_drew ?_ | refine blk_alloc ?_ _)); exact BK338.out) hb); have n1_ := Aside0.mk (blk_below (g := gb339) (o := .cells #[.string a1_0, .int .i64 a1_1, .bool a1_2, .string a1_3] 23 (0, 0)) (by (with_reducible repeat (first | refine blk_drewN ?_ _ | refine blk_drew ?_ | refine blk_alloc ?_ _)); exact BK339.out) hb); have n2_ := Aside0.mk (below_step (by repeat (first | (with_reducible first | exact HB.out | apply below_alloc | apply pw_below_drewN | apply below_drew1 | refine below_set ?_ GE338.out | refine below_set ?_ GE339.out) | exact HB.out)) hb); have n3_ := Aside0.mk (hbox); have n4_ := Aside0.mk ((by rw [hg]; exact (below_size (by repeat (first | (with_reducible first | exact HB.out | apply below_alloc | apply pw_below_drewN | apply below_drew1 | refine below_set ?_ GE338.out | refine below_set ?_ GE339.out) | exact HB.out))) : w.heap.size ≤ gb340)); have n5_ := Aside0.mk ((by rw [hg]; exact (below_size (by repeat (first | (with_reducible first | exact HB.out | apply below_alloc | apply pw_below_drewN | apply below_drew1 | refine below_set ?_ GE338.out | refine below_set ?_ GE339.out) | exact HB.out))) : w.heap.size ≤ gb340)); have n6_ := Aside0.mk ((by rw [hg]; exact Nat.ne_of_lt (blk_lt (g := gb338) (o := .cells #[.string a0_0, .int .i64 a0_1, .bool a0_2, .string a0_3] 23 (0, 0)) (by (with_reducible repeat (first | refine blk_drewN ?_ _ | refine blk_drew ?_ | refine blk_alloc ?_ _)); exact BK338.out)) : gb338 ≠ gb340)); have n7_ := Aside0.mk ((by rw [hg]; exact Nat.ne_of_gt (blk_lt (g := gb338) (o := .cells #[.string a0_0, .int .i64 a0_1, .bool a0_2, .string a0_3] 23 (0, 0)) (by (with_reducible repeat (first | refine blk_drewN ?_ _ | refine blk_drew ?_ | refine blk_alloc ?_ _)); exact BK338.out)) : gb340 ≠ gb338)); have n8_ := Aside0.mk ((by rw [hg]; exact Nat.ne_of_lt (blk_lt (g := gb339) (o := .cells #[.string a1_0, .int .i64 a1_1, .bool a1_2, .string a1_3] 23 (0, 0)) (by (with_reducible repeat (first | refine blk_drewN ?_ _ | refine blk_drew ?_ | refine blk_alloc ?_ _)); exact BK339.out)) : gb339 ≠ gb340)); have n9_ := Aside0.mk ((by rw [hg]; exact Nat.ne_of_gt (blk_lt (g := gb339) (o := .cells #[.string a1_0, .int .i64 a1_1, .bool a1_2, .string a1_3] 23 (0, 0)) (by (with_reducible repeat (first | refine blk_drewN ?_ _ | refine blk_drew ?_ | refine blk_alloc ?_ _)); exact BK339.out)) : gb340 ≠ gb339)); clear BK338; clear BK339; clear HB; have BK338 := n0_; have BK339 := n1_; have HB := n2_; have BK340 := n3_; have GW340 := n4_; have GE340 := n5_; have NB338_340 := n6_; have NB340_338 := n7_; have NB339_340 := n8_; have NB340_339 := n9_; clear n0_ n1_ n2_ n3_ n4_ n5_ n6_ n7_ n8_ n9_; clear hb hbox hg) | ((with_reducible refine gate_callee (f := 9) rfl ?_); refine goesL_ (some 14) rfl rfl Try.func9 (by kernel_rfl) rfl #[] rfl (by (try simp only [List.map_toArray, List.map_cons, List.map_nil]); first | done | rfl | (simp only [List.length_drop, List.length_take]; rfl)) ?_; (with_reducible refine (ravelinlaw6_known.calls k  true _ A6.out (by first | rfl | assumption | exact of_decide_eq_true (by assumption))).mono ?_); rintro e w12 ⟨rfl, hb⟩; refine ⟨_, rfl, ?_⟩; have n0_ := Aside0.mk (blk_below (g := gb338) (o := .cells #[.string a0_0, .int .i64 a0_1, .bool a0_2, .string a0_3] 23 (0, 0)) (by (with_reducible repeat (first | refine blk_drewN ?_ _ | refine blk_drew ?_ | refine blk_alloc ?_ _)); exact BK338.out) hb); have n1_ := Aside0.mk (blk_below (g := gb339) (o := .cells #[.string a1_0, .int .i64 a1_1, .bool a1_2, .string a1_3] 23 (0, 0)) (by (with_reducible repeat (first | refine blk_drewN ?_ _ | refine blk_drew ?_ | refine blk_alloc ?_ _)); exact BK339.out) hb); have n2_ := Aside0.mk (blk_below (g := gb340) (o := .cells #[.string a2_0, .int .i64 a2_1, .bool a2_2, .string a2_3] 23 (0, 0)) (by (with_reducible repeat (first | refine blk_drewN ?_ _ | refine blk_drew ?_ | refine blk_alloc ?_ _)); exact BK340.out) hb); have n3_ := Aside0.mk (below_step (by repeat (first | (with_reducible first | exact HB.out | apply below_alloc | apply pw_below_drewN | apply below_drew1 | refine below_set ?_ GE338.out | refine below_set ?_ GE339.out | refine below_set ?_ GE340.out) | exact HB.out)) hb); clear BK338; clear BK339; clear BK340; clear HB; have BK338 := n0_; have BK339 := n1_; have BK340 := n2_; have HB := n3_; clear n0_ n1_ n2_ n3_; (try clear hb); (try clear hb2); (try clear hk); (try clear hi)))
    (try simp only [Act.put, List.setIfInBounds_toArray, List.set_cons_zero, List.set_cons_succ])
    go_cut [26] (fun v26 wc => ∃ (kq : Nat) (x26_7 : Bool), v26 = .bool x26_7 ∧ Aside0 (ravelinlaw6_EntryOrders.j0 kq l3 a4 x26_7 a0_0 a0_1 a0_2 a0_3 a1_0 a1_1 a1_2 a1_3 a2_0 a2_1 a2_2 a2_3 = some r) ∧ Aside0 (kq ≤ k) ∧ Aside0 (wc.heap[gb338]? = some (.cells #[.string a0_0, .int .i64 a0_1, .bool a0_2, .string a0_3] 23 (0, 0))) ∧ Aside0 (wc.heap[gb339]? = some (.cells #[.string a1_0, .int .i64 a1_1, .bool a1_2, .string a1_3] 23 (0, 0))) ∧ Aside0 (wc.heap[gb340]? = some (.cells #[.string a2_0, .int .i64 a2_1, .bool a2_2, .string a2_3] 23 (0, 0))) ∧ Aside0 (Below w.heap.size w wc))
    case first =>
      have H := HC8.out
      clear HC8
      replace H := Option.bind_eq_some_iff.mp H
      obtain ⟨t342, A130, H⟩ := H
      replace H : (if t342 = true then ((ravelinlaw6_few.f k (([(⟨a0_0, a0_1, a0_2, a0_3⟩ : S23), (⟨a1_0, a1_1, a1_2, a1_3⟩ : S23), (⟨a2_0, a2_1, a2_2, a2_3⟩ : S23)] : List (S23)))).bind fun t346 => (ravelinlaw6_EntryOrders.j0 k l3 a4 (!t346) a0_0 a0_1 a0_2 a0_3 a1_0 a1_1 a1_2 a1_3 a2_0 a2_1 a2_2 a2_3)) else (ravelinlaw6_EntryOrders.j0 k l3 a4 true a0_0 a0_1 a0_2 a0_3 a1_0 a1_1 a1_2 a1_3 a2_0 a2_1 a2_2 a2_3)) = some r := H
      have A13 := Aside0.mk A130
      clear A130
      by_cases c14 : t342 = true
      · subst c14
        have H1 : ((ravelinlaw6_few.f k (([(⟨a0_0, a0_1, a0_2, a0_3⟩ : S23), (⟨a1_0, a1_1, a1_2, a1_3⟩ : S23), (⟨a2_0, a2_1, a2_2, a2_3⟩ : S23)] : List (S23)))).bind fun t346 => (ravelinlaw6_EntryOrders.j0 k l3 a4 (!t346) a0_0 a0_1 a0_2 a0_3 a1_0 a1_1 a1_2 a1_3 a2_0 a2_1 a2_2 a2_3)) = some r := by rw [if_pos rfl] at H; exact H
        clear H
        have H := H1
        clear H1
        obtain ⟨y343, hy343⟩ : ∃ y_ : List (S23), y_ = (([(⟨a0_0, a0_1, a0_2, a0_3⟩ : S23), (⟨a1_0, a1_1, a1_2, a1_3⟩ : S23), (⟨a2_0, a2_1, a2_2, a2_3⟩ : S23)] : List (S23))) := ⟨_, rfl⟩
        replace H : ((ravelinlaw6_few.f k y343).bind fun t346 => (ravelinlaw6_EntryOrders.j0 k l3 a4 (!t346) a0_0 a0_1 a0_2 a0_3 a1_0 a1_1 a1_2 a1_3 a2_0 a2_1 a2_2 a2_3)) = some r := by first | (rw [hy343]; with_reducible exact H) | (have H2_ := (Option.bind_some _ _).symm.trans H; rw [hy343]; with_reducible exact H2_) | (have H2_ := (Option.bind_some _ _).symm.trans H; with_reducible exact H2_) | with_reducible exact H | (rw [hy343]; exact H) | exact H
        have Ny343 := Aside0.mk hy343
        clear hy343
        replace H := Option.bind_eq_some_iff.mp H
        obtain ⟨t346, A150, H⟩ := H
        replace H : (ravelinlaw6_EntryOrders.j0 k l3 a4 (!t346) a0_0 a0_1 a0_2 a0_3 a1_0 a1_1 a1_2 a1_3 a2_0 a2_1 a2_2 a2_3) = some r := H
        have A15 := Aside0.mk A150
        clear A150
        have H' := Aside0.mk H
        clear H
        go_wp2_with (first | ((with_reducible refine gate_callee (f := 10) rfl ?_); refine goesL_ (some 17) rfl rfl Try.func10 (by kernel_rfl) rfl #[.slice A3 l3.length c3] rfl (by (try simp only [List.map_toArray, List.map_cons, List.map_nil]); first | done | rfl | (simp only [List.length_drop, List.length_take]; rfl)) ?_; (with_reducible refine (ravelinlaw6_few.calls k _ _ l3 true _ ?side1 ?side2 A13.out).mono ?_); (case side1 => repeat (first | exact (Kd.C_below HR3.out HB.out) | (with_reducible refine Kd.C_alloc ?_ _) | (with_reducible refine Kd.C_drewN ?_ _) | (with_reducible refine Kd.C_drew ?_))); (case side2 => exact HC3.out); rintro e w' ⟨rfl, ⟨nd, rfl⟩⟩; refine ⟨_, rfl, ?_⟩; have hnb16 := NB338_339.out; have hnc16 := NB339_338.out; have hnb17 := NB338_340.out; have hnc17 := NB340_338.out; have hcz18_0 : w12.cell? ⟨gb338, 0, none⟩ = some (.string a0_0) := (blk_cell BK338.out 0).trans rfl; have hcz18_1 : w12.cell? ⟨gb338, 1, none⟩ = some (.int .i64 a0_1) := (blk_cell BK338.out 1).trans rfl; have hcz18_2 : w12.cell? ⟨gb338, 2, none⟩ = some (.bool a0_2) := (blk_cell BK338.out 2).trans rfl; have hcz18_3 : w12.cell? ⟨gb338, 3, none⟩ = some (.string a0_3) := (blk_cell BK338.out 3).trans rfl; have hfz18_0 := blk_frozen BK338.out 0; have hfz18_1 := blk_frozen BK338.out 1; have hfz18_2 := blk_frozen BK338.out 2; have hfz18_3 := blk_frozen BK338.out 3; have hnb19 := NB339_340.out; have hnc19 := NB340_339.out; have hcz20_0 : w12.cell? ⟨gb339, 0, none⟩ = some (.string a1_0) := (blk_cell BK339.out 0).trans rfl; have hcz20_1 : w12.cell? ⟨gb339, 1, none⟩ = some (.int .i64 a1_1) := (blk_cell BK339.out 1).trans rfl; have hcz20_2 : w12.cell? ⟨gb339, 2, none⟩ = some (.bool a1_2) := (blk_cell BK339.out 2).trans rfl; have hcz20_3 : w12.cell? ⟨gb339, 3, none⟩ = some (.string a1_3) := (blk_cell BK339.out 3).trans rfl; have hfz20_0 := blk_frozen BK339.out 0; have hfz20_1 := blk_frozen BK339.out 1; have hfz20_2 := blk_frozen BK339.out 2; have hfz20_3 := blk_frozen BK339.out 3; have hcz21_0 : w12.cell? ⟨gb340, 0, none⟩ = some (.string a2_0) := (blk_cell BK340.out 0).trans rfl; have hcz21_1 : w12.cell? ⟨gb340, 1, none⟩ = some (.int .i64 a2_1) := (blk_cell BK340.out 1).trans rfl; have hcz21_2 : w12.cell? ⟨gb340, 2, none⟩ = some (.bool a2_2) := (blk_cell BK340.out 2).trans rfl; have hcz21_3 : w12.cell? ⟨gb340, 3, none⟩ = some (.string a2_3) := (blk_cell BK340.out 3).trans rfl; have hfz21_0 := blk_frozen BK340.out 0; have hfz21_1 := blk_frozen BK340.out 1; have hfz21_2 := blk_frozen BK340.out 2; have hfz21_3 := blk_frozen BK340.out 3) | ((with_reducible refine gate_dst (N := 23) rfl ?_); (try (refine gate_guard (by rfl) ?_; dsimp only)); refine Kd.R_lit k23 _ 23 ?hg (N := 23) ?hd (xs := ([(⟨a0_0, a0_1, a0_2, a0_3⟩ : S23), (⟨a1_0, a1_1, a1_2, a1_3⟩ : S23), (⟨a2_0, a2_1, a2_2, a2_3⟩ : S23)] : List (S23))) (inner := [.string a0_0, .int .i64 a0_1, .bool a0_2, .string a0_3, .string a1_0, .int .i64 a1_1, .bool a1_2, .string a1_3, .string a2_0, .int .i64 a2_1, .bool a2_2, .string a2_3]) (ok := fun _ => True) (okp := fun _ => True) ?hr ?hp (fun _ hk => hk) trivial (Below.refl _ _) (Nat.le_refl _) (by simp) ?_; (case hd => rfl); (case hg => rfl); (case hr => first | (go_simp; done) | (go_simp; rfl)); (case hp => exact (Reps.c4 (show Kd.M k23 _ _ _ (⟨a0_0, a0_1, a0_2, a0_3⟩ : S23) [.string a0_0, .int .i64 a0_1, .bool a0_2, .string a0_3] from (k23_mkM _ _ _ (⟨a0_0, a0_1, a0_2, a0_3⟩ : S23) )) (Reps.c4 (show Kd.M k23 _ _ _ (⟨a1_0, a1_1, a1_2, a1_3⟩ : S23) [.string a1_0, .int .i64 a1_1, .bool a1_2, .string a1_3] from (k23_mkM _ _ _ (⟨a1_0, a1_1, a1_2, a1_3⟩ : S23) )) (Reps.c4 (show Kd.M k23 _ _ _ (⟨a2_0, a2_1, a2_2, a2_3⟩ : S23) [.string a2_0, .int .i64 a2_1, .bool a2_2, .string a2_3] from (k23_mkM _ _ _ (⟨a2_0, a2_1, a2_2, a2_3⟩ : S23) )) (Reps.none _ _))))); intro v344 w22 ho23 hb hg_ hnew_; clear hg_ hnew_; (first | rw [← Ny343.out] at ho23 | (simp only [Int.reduceToNat] at ho23; rw [← Ny343.out] at ho23)); have n0_ := Aside0.mk (Kd.R_lower (Kd.R_newB (Kd.R_newB (Kd.R_newB ho23 (g := gb338) (o := .cells #[.string a0_0, .int .i64 a0_1, .bool a0_2, .string a0_3] 23 (0, 0)) (by (with_reducible repeat (first | refine blk_drewN ?_ _ | refine blk_drew ?_ | refine blk_alloc ?_ _)); exact BK338.out)) (g := gb339) (o := .cells #[.string a1_0, .int .i64 a1_1, .bool a1_2, .string a1_3] 23 (0, 0)) (by (with_reducible repeat (first | refine blk_drewN ?_ _ | refine blk_drew ?_ | refine blk_alloc ?_ _)); exact BK339.out)) (g := gb340) (o := .cells #[.string a2_0, .int .i64 a2_1, .bool a2_2, .string a2_3] 23 (0, 0)) (by (with_reducible repeat (first | refine blk_drewN ?_ _ | refine blk_drew ?_ | refine blk_alloc ?_ _)); exact BK340.out)) (below_size (by repeat (first | (with_reducible first | exact HB.out | apply below_alloc | apply pw_below_drewN | apply below_drew1 | refine below_set ?_ GE338.out | refine below_set ?_ GE339.out | refine below_set ?_ GE340.out) | exact HB.out)))); have n1_ := Aside0.mk (blk_below (g := gb338) (o := .cells #[.string a0_0, .int .i64 a0_1, .bool a0_2, .string a0_3] 23 (0, 0)) (by (with_reducible repeat (first | refine blk_drewN ?_ _ | refine blk_drew ?_ | refine blk_alloc ?_ _)); exact BK338.out) hb); have n2_ := Aside0.mk (blk_below (g := gb339) (o := .cells #[.string a1_0, .int .i64 a1_1, .bool a1_2, .string a1_3] 23 (0, 0)) (by (with_reducible repeat (first | refine blk_drewN ?_ _ | refine blk_drew ?_ | refine blk_alloc ?_ _)); exact BK339.out) hb); have n3_ := Aside0.mk (blk_below (g := gb340) (o := .cells #[.string a2_0, .int .i64 a2_1, .bool a2_2, .string a2_3] 23 (0, 0)) (by (with_reducible repeat (first | refine blk_drewN ?_ _ | refine blk_drew ?_ | refine blk_alloc ?_ _)); exact BK340.out) hb); have n4_ := Aside0.mk (below_step (by repeat (first | (with_reducible first | exact HB.out | apply below_alloc | apply pw_below_drewN | apply below_drew1 | refine below_set ?_ GE338.out | refine below_set ?_ GE339.out | refine below_set ?_ GE340.out) | exact HB.out)) hb); clear BK338; clear BK339; clear BK340; clear HB; have HO345 := n0_; have BK338 := n1_; have BK339 := n2_; have BK340 := n3_; have HB := n4_; clear n0_ n1_ n2_ n3_ n4_; clear hb ho23; obtain ⟨Ao24, co24, eo24⟩ := Kd.R_slice HO345.out; subst eo24) | (go_at_call 10; (with_reducible refine (ravelinlaw6_few.calls k _ _ y343 t346 _ ?side1 ?side2 A15.out).mono ?_); (case side1 => repeat (first | exact (Kd.R_reads' HO345.out).2.2 | (with_reducible refine Kd.C_alloc ?_ _) | (with_reducible refine Kd.C_drewN ?_ _) | (with_reducible refine Kd.C_drew ?_))); (case side2 => exact (Kd.R_reads' HO345.out).2.1); rintro e w' ⟨rfl, ⟨nd, rfl⟩⟩))
        go_meet
        case rel => exact ⟨_, (!t346), (by first | rfl | (simp; done) | (simp [*]; done)), H', ⟨by first | omega | exact Nat.le_refl _⟩, ⟨by (with_reducible repeat (first | refine blk_drewN ?_ _ | refine blk_drew ?_ | refine blk_alloc ?_ _)); exact BK338.out⟩, ⟨by (with_reducible repeat (first | refine blk_drewN ?_ _ | refine blk_drew ?_ | refine blk_alloc ?_ _)); exact BK339.out⟩, ⟨by (with_reducible repeat (first | refine blk_drewN ?_ _ | refine blk_drew ?_ | refine blk_alloc ?_ _)); exact BK340.out⟩, ⟨by repeat (first | (with_reducible first | exact HB.out | apply below_alloc | apply pw_below_drewN | apply below_drew1 | refine below_set ?_ GE338.out | refine below_set ?_ GE339.out | refine below_set ?_ GE340.out) | exact HB.out)⟩⟩
      · replace c14 := Bool.eq_false_iff.mpr c14
        subst c14
        have H1 : (ravelinlaw6_EntryOrders.j0 k l3 a4 true a0_0 a0_1 a0_2 a0_3 a1_0 a1_1 a1_2 a1_3 a2_0 a2_1 a2_2 a2_3) = some r := by rw [if_neg (show ¬ (false = true) by decide)] at H; exact H
        clear H
        have H := H1
        clear H1
        have H' := Aside0.mk H
        clear H
        go_wp2_with (first | ((with_reducible refine gate_callee (f := 10) rfl ?_); refine goesL_ (some 17) rfl rfl Try.func10 (by kernel_rfl) rfl #[.slice A3 l3.length c3] rfl (by (try simp only [List.map_toArray, List.map_cons, List.map_nil]); first | done | rfl | (simp only [List.length_drop, List.length_take]; rfl)) ?_; (with_reducible refine (ravelinlaw6_few.calls k _ _ l3 false _ ?side1 ?side2 A13.out).mono ?_); (case side1 => repeat (first | exact (Kd.C_below HR3.out HB.out) | (with_reducible refine Kd.C_alloc ?_ _) | (with_reducible refine Kd.C_drewN ?_ _) | (with_reducible refine Kd.C_drew ?_))); (case side2 => exact HC3.out); rintro e w' ⟨rfl, ⟨nd, rfl⟩⟩; refine ⟨_, rfl, ?_⟩))
        go_meet
        case rel => exact ⟨_, (true), (by first | rfl | (simp; done) | (simp [*]; done)), H', ⟨by first | omega | exact Nat.le_refl _⟩, ⟨by (with_reducible repeat (first | refine blk_drewN ?_ _ | refine blk_drew ?_ | refine blk_alloc ?_ _)); exact BK338.out⟩, ⟨by (with_reducible repeat (first | refine blk_drewN ?_ _ | refine blk_drew ?_ | refine blk_alloc ?_ _)); exact BK339.out⟩, ⟨by (with_reducible repeat (first | refine blk_drewN ?_ _ | refine blk_drew ?_ | refine blk_alloc ?_ _)); exact BK340.out⟩, ⟨by repeat (first | (with_reducible first | exact HB.out | apply below_alloc | apply pw_below_drewN | apply below_drew1 | refine below_set ?_ GE338.out | refine below_set ?_ GE339.out | refine below_set ?_ GE340.out) | exact HB.out)⟩⟩
    case rest =>
      clear HC8
      try clear c1
      try clear p2
      try clear c3
      try clear c4
      try clear c5
      try clear c7
      try clear c9
      try clear c10
      try clear c14
      try clear c16
      try clear c17
      try clear c19
      try clear hcz18_0
      try clear hcz18_1
      try clear hcz18_2
      try clear hcz18_3
      try clear hcz20_0
      try clear hcz20_1
      try clear hcz20_2
      try clear hcz20_3
      try clear hcz21_0
      try clear hcz21_1
      try clear hcz21_2
      try clear hcz21_3
      try clear hfz18_0
      try clear hfz18_1
      try clear hfz18_2
      try clear hfz18_3
      try clear hfz20_0
      try clear hfz20_1
      try clear hfz20_2
      try clear hfz20_3
      try clear hfz21_0
      try clear hfz21_1
      try clear hfz21_2
      try clear hfz21_3
      obtain ⟨kq, x26_7, rfl, HA, HJ7, BK338, BK339, BK340, HB⟩ := hcut
      cases kq with
      | zero => exact absurd HA.out (by simp [ravelinlaw6_EntryOrders.j0])
      | succ kj7 =>
        have H := HA.out
        clear HA
        simp only [ravelinlaw6_EntryOrders.j0] at H
        by_cases c25 : x26_7 = true
        · subst c25
          have H1 : (some true) = some r := by rw [if_pos rfl] at H; exact H
          clear H
          have H := H1
          clear H1
          obtain rfl := Option.some.inj H
          go_wp2
          go_ret
          exact ⟨by first | rfl | (simp [errW_none, errW_some] <;> rfl) | (simp [*, errW_none, errW_some] <;> rfl), by repeat (first | (with_reducible first | exact HB.out | apply below_alloc | apply pw_below_drewN | apply below_drew1 | refine below_set ?_ GE338.out | refine below_set ?_ GE339.out | refine below_set ?_ GE340.out) | exact HB.out)⟩
        · replace c25 := Bool.eq_false_iff.mpr c25
          subst c25
          have H1 : ((entry_Less.f kj7 a0_0 a0_1 a0_2 a0_3 a1_0 a1_1 a1_2 a1_3).bind fun t347 => ((entry_Less.f kj7 a1_0 a1_1 a1_2 a1_3 a0_0 a0_1 a0_2 a0_3).bind fun t348 => (if t347 = true then (if t348 = true then (ravelinlaw6_EntryOrders.j1 kj7 l3 a4 true) else (if a0_0.toList = a1_0.toList then (if ((a0_1 != a1_1) != true) = true then (ravelinlaw6_EntryOrders.j1 kj7 l3 a4 true) else ((entry_Less.f kj7 a1_0 a1_1 a1_2 a1_3 a2_0 a2_1 a2_2 a2_3).bind fun t349 => (if t349 = true then ((entry_Less.f kj7 a0_0 a0_1 a0_2 a0_3 a2_0 a2_1 a2_2 a2_3).bind fun t350 => (ravelinlaw6_EntryOrders.j1 kj7 l3 a4 (!t350))) else (ravelinlaw6_EntryOrders.j1 kj7 l3 a4 false)))) else (if (true != true) = true then (ravelinlaw6_EntryOrders.j1 kj7 l3 a4 true) else ((entry_Less.f kj7 a1_0 a1_1 a1_2 a1_3 a2_0 a2_1 a2_2 a2_3).bind fun t351 => (if t351 = true then ((entry_Less.f kj7 a0_0 a0_1 a0_2 a0_3 a2_0 a2_1 a2_2 a2_3).bind fun t352 => (ravelinlaw6_EntryOrders.j1 kj7 l3 a4 (!t352))) else (ravelinlaw6_EntryOrders.j1 kj7 l3 a4 false)))))) else (if a0_0.toList = a1_0.toList then (if ((a0_1 != a1_1) != t348) = true then (ravelinlaw6_EntryOrders.j1 kj7 l3 a4 true) else (ravelinlaw6_EntryOrders.j1 kj7 l3 a4 false)) else (if (true != t348) = true then (ravelinlaw6_EntryOrders.j1 kj7 l3 a4 true) else (ravelinlaw6_EntryOrders.j1 kj7 l3 a4 false)))))) = some r := by rw [if_neg (show ¬ (false = true) by decide)] at H; exact H
          clear H
          have H := H1
          clear H1
          replace H := Option.bind_eq_some_iff.mp H
          obtain ⟨t347, A260, H⟩ := H
          replace H : ((entry_Less.f kj7 a1_0 a1_1 a1_2 a1_3 a0_0 a0_1 a0_2 a0_3).bind fun t348 => (if t347 = true then (if t348 = true then (ravelinlaw6_EntryOrders.j1 kj7 l3 a4 true) else (if a0_0.toList = a1_0.toList then (if ((a0_1 != a1_1) != true) = true then (ravelinlaw6_EntryOrders.j1 kj7 l3 a4 true) else ((entry_Less.f kj7 a1_0 a1_1 a1_2 a1_3 a2_0 a2_1 a2_2 a2_3).bind fun t349 => (if t349 = true then ((entry_Less.f kj7 a0_0 a0_1 a0_2 a0_3 a2_0 a2_1 a2_2 a2_3).bind fun t350 => (ravelinlaw6_EntryOrders.j1 kj7 l3 a4 (!t350))) else (ravelinlaw6_EntryOrders.j1 kj7 l3 a4 false)))) else (if (true != true) = true then (ravelinlaw6_EntryOrders.j1 kj7 l3 a4 true) else ((entry_Less.f kj7 a1_0 a1_1 a1_2 a1_3 a2_0 a2_1 a2_2 a2_3).bind fun t351 => (if t351 = true then ((entry_Less.f kj7 a0_0 a0_1 a0_2 a0_3 a2_0 a2_1 a2_2 a2_3).bind fun t352 => (ravelinlaw6_EntryOrders.j1 kj7 l3 a4 (!t352))) else (ravelinlaw6_EntryOrders.j1 kj7 l3 a4 false)))))) else (if a0_0.toList = a1_0.toList then (if ((a0_1 != a1_1) != t348) = true then (ravelinlaw6_EntryOrders.j1 kj7 l3 a4 true) else (ravelinlaw6_EntryOrders.j1 kj7 l3 a4 false)) else (if (true != t348) = true then (ravelinlaw6_EntryOrders.j1 kj7 l3 a4 true) else (ravelinlaw6_EntryOrders.j1 kj7 l3 a4 false))))) = some r := H
          have A26 := Aside0.mk A260
          clear A260
          replace H := Option.bind_eq_some_iff.mp H
          obtain ⟨t348, A270, H⟩ := H
          replace H : (if t347 = true then (if t348 = true then (ravelinlaw6_EntryOrders.j1 kj7 l3 a4 true) else (if a0_0.toList = a1_0.toList then (if ((a0_1 != a1_1) != true) = true then (ravelinlaw6_EntryOrders.j1 kj7 l3 a4 true) else ((entry_Less.f kj7 a1_0 a1_1 a1_2 a1_3 a2_0 a2_1 a2_2 a2_3).bind fun t349 => (if t349 = true then ((entry_Less.f kj7 a0_0 a0_1 a0_2 a0_3 a2_0 a2_1 a2_2 a2_3).bind fun t350 => (ravelinlaw6_EntryOrders.j1 kj7 l3 a4 (!t350))) else (ravelinlaw6_EntryOrders.j1 kj7 l3 a4 false)))) else (if (true != true) = true then (ravelinlaw6_EntryOrders.j1 kj7 l3 a4 true) else ((entry_Less.f kj7 a1_0 a1_1 a1_2 a1_3 a2_0 a2_1 a2_2 a2_3).bind fun t351 => (if t351 = true then ((entry_Less.f kj7 a0_0 a0_1 a0_2 a0_3 a2_0 a2_1 a2_2 a2_3).bind fun t352 => (ravelinlaw6_EntryOrders.j1 kj7 l3 a4 (!t352))) else (ravelinlaw6_EntryOrders.j1 kj7 l3 a4 false)))))) else (if a0_0.toList = a1_0.toList then (if ((a0_1 != a1_1) != t348) = true then (ravelinlaw6_EntryOrders.j1 kj7 l3 a4 true) else (ravelinlaw6_EntryOrders.j1 kj7 l3 a4 false)) else (if (true != t348) = true then (ravelinlaw6_EntryOrders.j1 kj7 l3 a4 true) else (ravelinlaw6_EntryOrders.j1 kj7 l3 a4 false)))) = some r := H
          have A27 := Aside0.mk A270
          clear A270
          have HC28 := Aside0.mk H
          clear H
          try go_wp2
          have n0_ := Aside0.mk (blk_drew BK338.out)
          have n1_ := Aside0.mk (blk_drew BK339.out)
          have n2_ := Aside0.mk (blk_drew BK340.out)
          have n3_ := Aside0.mk (below_drew1 HB.out)
          clear BK338
          clear BK339
          clear BK340
          clear HB
          have BK338 := n0_
          have BK339 := n1_
          have BK340 := n2_
          have HB := n3_
          clear n0_ n1_ n2_ n3_
          refine start_ (n := 8) (S := fun w' => w'.cell? ⟨gb338, 0, none⟩ = some (.string a0_0) ∧ w'.cell? ⟨gb338, 1, none⟩ = some (.int .i64 a0_1) ∧ w'.cell? ⟨gb338, 2, none⟩ = some (.bool a0_2) ∧ w'.cell? ⟨gb338, 3, none⟩ = some (.string a0_3) ∧ w'.cell? ⟨gb339, 0, none⟩ = some (.string a1_0) ∧ w'.cell? ⟨gb339, 1, none⟩ = some (.int .i64 a1_1) ∧ w'.cell? ⟨gb339, 2, none⟩ = some (.bool a1_2) ∧ w'.cell? ⟨gb339, 3, none⟩ = some (.string a1_3)) (ds := []) #[false, false, false, false, false, false, false, false] (by kernel_rfl) rfl rfl ⟨(blk_cell BK338.out 0).trans rfl, (blk_cell BK338.out 1).trans rfl, (blk_cell BK338.out 2).trans rfl, (blk_cell BK338.out 3).trans rfl, (blk_cell BK339.out 0).trans rfl, (blk_cell BK339.out 1).trans rfl, (blk_cell BK339.out 2).trans rfl, (blk_cell BK339.out 3).trans rfl⟩ (fun hHeld => ?_); refine with_tabW ravelinlaw6_EntryOrders.tab5 ravelinlaw6_EntryOrders.bits5 (fun HT_ HW_ => ?_)
          generalize wc.drew = w29 at BK338 BK339 BK340 HB hHeld ⊢
          refine take_ (i := 0) (N := some 27) (v := ?_) (a' := ?_) #[true, false, false, false, false, false, false, false] rfl rfl (take_ofW HT_.out HW_.out (by kernel_rfl)) (fun _ _ _ h => h) (Or.inl ⟨by rfl, ?_⟩) hHeld ?_ ?_
          rotate_left
          · rintro w' ⟨s0, s1, s2, s3, s4, s5, s6, s7⟩
            go_simp
            with_reducible rfl
          rotate_left
          · simp only [Act.put, List.setIfInBounds_toArray, List.set_cons_zero, List.set_cons_succ, i64_w, i32_w]
            rfl
          refine take_ (i := 1) (N := some 28) (v := ?_) (a' := ?_) #[true, true, false, false, false, false, false, false] rfl rfl (take_ofW HT_.out HW_.out (by kernel_rfl)) (fun _ _ _ h => h) (Or.inl ⟨by rfl, ?_⟩) hHeld ?_ ?_
          rotate_left
          · rintro w' ⟨s0, s1, s2, s3, s4, s5, s6, s7⟩
            go_simp
            with_reducible rfl
          rotate_left
          · simp only [Act.put, List.setIfInBounds_toArray, List.set_cons_zero, List.set_cons_succ, i64_w, i32_w]
            rfl
          refine take_ (i := 3) (N := some 30) (v := ?_) (a' := ?_) #[true, true, false, true, false, false, false, false] rfl rfl (take_ofW HT_.out HW_.out (by kernel_rfl)) (fun _ _ _ h => h) (Or.inl ⟨by rfl, ?_⟩) hHeld ?_ ?_
          rotate_left
          · rintro w' ⟨s0, s1, s2, s3, s4, s5, s6, s7⟩
            go_simp
            with_reducible rfl
          rotate_left
          · simp only [Act.put, List.setIfInBounds_toArray, List.set_cons_zero, List.set_cons_succ, i64_w, i32_w]
            rfl
          refine take_ (i := 4) (N := some 31) (v := ?_) (a' := ?_) #[true, true, false, true, true, false, false, false] rfl rfl (take_ofW HT_.out HW_.out (by kernel_rfl)) (fun _ _ _ h => h) (Or.inl ⟨by rfl, ?_⟩) hHeld ?_ ?_
          rotate_left
          · rintro w' ⟨s0, s1, s2, s3, s4, s5, s6, s7⟩
            go_simp
            with_reducible rfl
          rotate_left
          · simp only [Act.put, List.setIfInBounds_toArray, List.set_cons_zero, List.set_cons_succ, i64_w, i32_w]
            rfl
          refine one_ (i := 2) (N := some 29) #[true, true, true, true, true, false, false, false] rfl rfl (one_of HT_.out (by kernel_rfl)) (by decide) (fun K hK => ?_)
          refine goes_ Try.func17 (by kernel_rfl) rfl #[.agg #[.string a0_0, .int .i64 a0_1, .bool a0_2, .string a0_3], .agg #[.string a1_0, .int .i64 a1_1, .bool a1_2, .string a1_3]] (by rfl) rfl rfl (by (try simp only [List.map_toArray, List.map_cons, List.map_nil]); first | done | rfl | (simp only [List.length_drop, List.length_take]; rfl)) ?_
          with_reducible refine (entry_Less.calls kj7 a0_0 a0_1 a0_2 a0_3 a1_0 a1_1 a1_2 a1_3 t347 _ A26.out).mono ?_
          rintro e w30 ⟨rfl, hb⟩
          refine ⟨_, rfl, ?_⟩
          have n0_ := Aside0.mk (blk_below (g := gb338) (o := .cells #[.string a0_0, .int .i64 a0_1, .bool a0_2, .string a0_3] 23 (0, 0)) (by (with_reducible repeat (first | refine blk_drewN ?_ _ | refine blk_drew ?_ | refine blk_alloc ?_ _)); exact BK338.out) hb)
          have n1_ := Aside0.mk (blk_below (g := gb339) (o := .cells #[.string a1_0, .int .i64 a1_1, .bool a1_2, .string a1_3] 23 (0, 0)) (by (with_reducible repeat (first | refine blk_drewN ?_ _ | refine blk_drew ?_ | refine blk_alloc ?_ _)); exact BK339.out) hb)
          have n2_ := Aside0.mk (blk_below (g := gb340) (o := .cells #[.string a2_0, .int .i64 a2_1, .bool a2_2, .string a2_3] 23 (0, 0)) (by (with_reducible repeat (first | refine blk_drewN ?_ _ | refine blk_drew ?_ | refine blk_alloc ?_ _)); exact BK340.out) hb)
          have n3_ := Aside0.mk (below_step (by repeat (first | (with_reducible first | exact HB.out | apply below_alloc | apply pw_below_drewN | apply below_drew1 | refine below_set ?_ GE338.out | refine below_set ?_ GE339.out | refine below_set ?_ GE340.out) | exact HB.out)) hb)
          clear BK338
          clear BK339
          clear BK340
          clear HB
          have BK338 := n0_
          have BK339 := n1_
          have BK340 := n2_
          have HB := n3_
          clear n0_ n1_ n2_ n3_
          (try clear hb)
          (try clear hb2)
          (try clear hk)
          (try clear hi)
          refine hK.out _ _ ⟨(blk_cell BK338.out 0).trans rfl, (blk_cell BK338.out 1).trans rfl, (blk_cell BK338.out 2).trans rfl, (blk_cell BK338.out 3).trans rfl, (blk_cell BK339.out 0).trans rfl, (blk_cell BK339.out 1).trans rfl, (blk_cell BK339.out 2).trans rfl, (blk_cell BK339.out 3).trans rfl⟩ (fun hHeld => ?_)
          clear hK K
          refine norm_ (a' := ?_) ?_ ?_
          rotate_left
          · show Act.put _ (some 29) _ = _
            simp only [Act.put, List.setIfInBounds_toArray, List.set_cons_zero, List.set_cons_succ, i64_w, i32_w]
            rfl
          refine one_ (i := 5) (N := some 32) #[true, true, true, true, true, true, false, false] rfl rfl (one_of HT_.out (by kernel_rfl)) (by decide) (fun K hK => ?_)
          refine goes_ Try.func17 (by kernel_rfl) rfl #[.agg #[.string a1_0, .int .i64 a1_1, .bool a1_2, .string a1_3], .agg #[.string a0_0, .int .i64 a0_1, .bool a0_2, .string a0_3]] (by rfl) rfl rfl (by (try simp only [List.map_toArray, List.map_cons, List.map_nil]); first | done | rfl | (simp only [List.length_drop, List.length_take]; rfl)) ?_
          with_reducible refine (entry_Less.calls kj7 a1_0 a1_1 a1_2 a1_3 a0_0 a0_1 a0_2 a0_3 t348 _ A27.out).mono ?_
          rintro e w31 ⟨rfl, hb⟩
          refine ⟨_, rfl, ?_⟩
          have n0_ := Aside0.mk (blk_below (g := gb338) (o := .cells #[.string a0_0, .int .i64 a0_1, .bool a0_2, .string a0_3] 23 (0, 0)) (by (with_reducible repeat (first | refine blk_drewN ?_ _ | refine blk_drew ?_ | refine blk_alloc ?_ _)); exact BK338.out) hb)
          have n1_ := Aside0.mk (blk_below (g := gb339) (o := .cells #[.string a1_0, .int .i64 a1_1, .bool a1_2, .string a1_3] 23 (0, 0)) (by (with_reducible repeat (first | refine blk_drewN ?_ _ | refine blk_drew ?_ | refine blk_alloc ?_ _)); exact BK339.out) hb)
          have n2_ := Aside0.mk (blk_below (g := gb340) (o := .cells #[.string a2_0, .int .i64 a2_1, .bool a2_2, .string a2_3] 23 (0, 0)) (by (with_reducible repeat (first | refine blk_drewN ?_ _ | refine blk_drew ?_ | refine blk_alloc ?_ _)); exact BK340.out) hb)
          have n3_ := Aside0.mk (below_step (by repeat (first | (with_reducible first | exact HB.out | apply below_alloc | apply pw_below_drewN | apply below_drew1 | refine below_set ?_ GE338.out | refine below_set ?_ GE339.out | refine below_set ?_ GE340.out) | exact HB.out)) hb)
          clear BK338
          clear BK339
          clear BK340
          clear HB
          have BK338 := n0_
          have BK339 := n1_
          have BK340 := n2_
          have HB := n3_
          clear n0_ n1_ n2_ n3_
          (try clear hb)
          (try clear hb2)
          (try clear hk)
          (try clear hi)
          refine hK.out _ _ ⟨(blk_cell BK338.out 0).trans rfl, (blk_cell BK338.out 1).trans rfl, (blk_cell BK338.out 2).trans rfl, (blk_cell BK338.out 3).trans rfl, (blk_cell BK339.out 0).trans rfl, (blk_cell BK339.out 1).trans rfl, (blk_cell BK339.out 2).trans rfl, (blk_cell BK339.out 3).trans rfl⟩ (fun hHeld => ?_)
          clear hK K
          refine norm_ (a' := ?_) ?_ ?_
          rotate_left
          · show Act.put _ (some 32) _ = _
            simp only [Act.put, List.setIfInBounds_toArray, List.set_cons_zero, List.set_cons_succ, i64_w, i32_w]
            rfl
          refine pure_ (i := 6) (N := some 11) (v := ?_) (a' := ?_) #[true, true, true, true, true, true, true, false] rfl rfl (any_of HT_.out (by kernel_rfl)) (fun _ _ _ h => h) (Or.inl ⟨by rfl, ?_⟩) ?_ ?_
          rotate_left
          · intro w'
            go_simp
            with_reducible rfl
          rotate_left
          · simp only [Act.put, List.setIfInBounds_toArray, List.set_cons_zero, List.set_cons_succ, i64_w, i32_w]
            rfl
          refine pure_ (i := 7) (N := some 12) (v := ?_) (a' := ?_) #[true, true, true, true, true, true, true, true] rfl rfl (any_of HT_.out (by kernel_rfl)) (fun _ _ _ h => h) (Or.inl ⟨by rfl, ?_⟩) ?_ ?_
          rotate_left
          · intro w'
            go_simp
            with_reducible rfl
          rotate_left
          · simp only [Act.put, List.setIfInBounds_toArray, List.set_cons_zero, List.set_cons_succ, i64_w, i32_w]
            rfl
          refine done_ (done_of HT_.out (by kernel_rfl)) ?_
          go_upto_region 6 with (fail)
          go_cut [69] (fun v69 wc => ∃ (kq : Nat) (x69_27 : Bool), v69 = .bool x69_27 ∧ Aside0 (ravelinlaw6_EntryOrders.j1 kq l3 a4 x69_27 = some r) ∧ Aside0 (kq ≤ kj7) ∧ Aside0 (wc.heap[gb338]? = some (.cells #[.string a0_0, .int .i64 a0_1, .bool a0_2, .string a0_3] 23 (0, 0))) ∧ Aside0 (wc.heap[gb339]? = some (.cells #[.string a1_0, .int .i64 a1_1, .bool a1_2, .string a1_3] 23 (0, 0))) ∧ Aside0 (wc.heap[gb340]? = some (.cells #[.string a2_0, .int .i64 a2_1, .bool a2_2, .string a2_3] 23 (0, 0))) ∧ Aside0 (Below w.heap.size w wc))
          case first =>
            have H := HC28.out
            clear HC28
            by_cases c32 : t347 = true
            · subst c32
              have H1 : (if t348 = true then (ravelinlaw6_EntryOrders.j1 kj7 l3 a4 true) else (if a0_0.toList = a1_0.toList then (if ((a0_1 != a1_1) != true) = true then (ravelinlaw6_EntryOrders.j1 kj7 l3 a4 true) else ((entry_Less.f kj7 a1_0 a1_1 a1_2 a1_3 a2_0 a2_1 a2_2 a2_3).bind fun t349 => (if t349 = true then ((entry_Less.f kj7 a0_0 a0_1 a0_2 a0_3 a2_0 a2_1 a2_2 a2_3).bind fun t350 => (ravelinlaw6_EntryOrders.j1 kj7 l3 a4 (!t350))) else (ravelinlaw6_EntryOrders.j1 kj7 l3 a4 false)))) else (if (true != true) = true then (ravelinlaw6_EntryOrders.j1 kj7 l3 a4 true) else ((entry_Less.f kj7 a1_0 a1_1 a1_2 a1_3 a2_0 a2_1 a2_2 a2_3).bind fun t351 => (if t351 = true then ((entry_Less.f kj7 a0_0 a0_1 a0_2 a0_3 a2_0 a2_1 a2_2 a2_3).bind fun t352 => (ravelinlaw6_EntryOrders.j1 kj7 l3 a4 (!t352))) else (ravelinlaw6_EntryOrders.j1 kj7 l3 a4 false)))))) = some r := by rw [if_pos rfl] at H; exact H
              clear H
              have H := H1
              clear H1
              by_cases c33 : t348 = true
              · subst c33
                have H1 : (ravelinlaw6_EntryOrders.j1 kj7 l3 a4 true) = some r := by rw [if_pos rfl] at H; exact H
                clear H
                have H := H1
                clear H1
                have H' := Aside0.mk H
                clear H
                go_wp2
                go_meet
                case rel => exact ⟨_, (true), (by first | rfl | (simp; done) | (simp [*]; done)), H', ⟨by have := HJ7.out; first | omega | exact Nat.le_refl _⟩, ⟨by (with_reducible repeat (first | refine blk_drewN ?_ _ | refine blk_drew ?_ | refine blk_alloc ?_ _)); exact BK338.out⟩, ⟨by (with_reducible repeat (first | refine blk_drewN ?_ _ | refine blk_drew ?_ | refine blk_alloc ?_ _)); exact BK339.out⟩, ⟨by (with_reducible repeat (first | refine blk_drewN ?_ _ | refine blk_drew ?_ | refine blk_alloc ?_ _)); exact BK340.out⟩, ⟨by repeat (first | (with_reducible first | exact HB.out | apply below_alloc | apply pw_below_drewN | apply below_drew1 | refine below_set ?_ GE338.out | refine below_set ?_ GE339.out | refine below_set ?_ GE340.out) | exact HB.out)⟩⟩
              · replace c33 := Bool.eq_false_iff.mpr c33
                subst c33
                have H1 : (if a0_0.toList = a1_0.toList then (if ((a0_1 != a1_1) != true) = true then (ravelinlaw6_EntryOrders.j1 kj7 l3 a4 true) else ((entry_Less.f kj7 a1_0 a1_1 a1_2 a1_3 a2_0 a2_1 a2_2 a2_3).bind fun t349 => (if t349 = true then ((entry_Less.f kj7 a0_0 a0_1 a0_2 a0_3 a2_0 a2_1 a2_2 a2_3).bind fun t350 => (ravelinlaw6_EntryOrders.j1 kj7 l3 a4 (!t350))) else (ravelinlaw6_EntryOrders.j1 kj7 l3 a4 false)))) else (if (true != true) = true then (ravelinlaw6_EntryOrders.j1 kj7 l3 a4 true) else ((entry_Less.f kj7 a1_0 a1_1 a1_2 a1_3 a2_0 a2_1 a2_2 a2_3).bind fun t351 => (if t351 = true then ((entry_Less.f kj7 a0_0 a0_1 a0_2 a0_3 a2_0 a2_1 a2_2 a2_3).bind fun t352 => (ravelinlaw6_EntryOrders.j1 kj7 l3 a4 (!t352))) else (ravelinlaw6_EntryOrders.j1 kj7 l3 a4 false))))) = some r := by rw [if_neg (show ¬ (false = true) by decide)] at H; exact H
                clear H
                have H := H1
                clear H1
                by_cases c34 : a0_0.toList = a1_0.toList
                · rw [if_pos c34] at H
                  have c34b0 : (a0_0.toList == a1_0.toList) = true := beq_iff_eq.mpr c34
                  have c34b1 : (a0_0.toList != a1_0.toList) = false := bne_eq_false_iff_eq.mpr c34
                  clear c34
                  (first | rw [c34b0] | (simp only [i64_w, i32_w]; rw [c34b0]) | skip)
                  by_cases c35 : ((a0_1 != a1_1) != true) = true
                  · rw [if_pos c35] at H
                    have c35b0 : ((a0_1 != a1_1) != true) = true := c35
                    (try (have c35b1 : decide ((a0_1 != a1_1) = true) = false := by simpa using c35))
                    (try (have c35b2 : ((a0_1 != a1_1) == true) = false := by simpa using c35))
                    (try (have c35b3 : ¬ ((a0_1 != a1_1) = true) := by simpa using c35))
                    clear c35
                    have H' := Aside0.mk H
                    clear H
                    have hnb36 := NB338_339.out
                    have hnc36 := NB339_338.out
                    have hnb37 := NB338_340.out
                    have hnc37 := NB340_338.out
                    have hcz38_0 : w31.cell? ⟨gb338, 0, none⟩ = some (.string a0_0) := (blk_cell BK338.out 0).trans rfl
                    have hcz38_1 : w31.cell? ⟨gb338, 1, none⟩ = some (.int .i64 a0_1) := (blk_cell BK338.out 1).trans rfl
                    have hcz38_2 : w31.cell? ⟨gb338, 2, none⟩ = some (.bool a0_2) := (blk_cell BK338.out 2).trans rfl
                    have hcz38_3 : w31.cell? ⟨gb338, 3, none⟩ = some (.string a0_3) := (blk_cell BK338.out 3).trans rfl
                    have hfz38_0 := blk_frozen BK338.out 0
                    have hfz38_1 := blk_frozen BK338.out 1
                    have hfz38_2 := blk_frozen BK338.out 2
                    have hfz38_3 := blk_frozen BK338.out 3
                    have hnb39 := NB339_340.out
                    have hnc39 := NB340_339.out
                    have hcz40_0 : w31.cell? ⟨gb339, 0, none⟩ = some (.string a1_0) := (blk_cell BK339.out 0).trans rfl
                    have hcz40_1 : w31.cell? ⟨gb339, 1, none⟩ = some (.int .i64 a1_1) := (blk_cell BK339.out 1).trans rfl
                    have hcz40_2 : w31.cell? ⟨gb339, 2, none⟩ = some (.bool a1_2) := (blk_cell BK339.out 2).trans rfl
                    have hcz40_3 : w31.cell? ⟨gb339, 3, none⟩ = some (.string a1_3) := (blk_cell BK339.out 3).trans rfl
                    have hfz40_0 := blk_frozen BK339.out 0
                    have hfz40_1 := blk_frozen BK339.out 1
                    have hfz40_2 := blk_frozen BK339.out 2
                    have hfz40_3 := blk_frozen BK339.out 3
                    go_wp2
                    go_meet
                    case rel => exact ⟨_, (true), (by first | rfl | (simp; done) | (simp [*]; done)), H', ⟨by have := HJ7.out; first | omega | exact Nat.le_refl _⟩, ⟨by (with_reducible repeat (first | refine blk_drewN ?_ _ | refine blk_drew ?_ | refine blk_alloc ?_ _)); exact BK338.out⟩, ⟨by (with_reducible repeat (first | refine blk_drewN ?_ _ | refine blk_drew ?_ | refine blk_alloc ?_ _)); exact BK339.out⟩, ⟨by (with_reducible repeat (first | refine blk_drewN ?_ _ | refine blk_drew ?_ | refine blk_alloc ?_ _)); exact BK340.out⟩, ⟨by repeat (first | (with_reducible first | exact HB.out | apply below_alloc | apply pw_below_drewN | apply below_drew1 | refine below_set ?_ GE338.out | refine below_set ?_ GE339.out | refine below_set ?_ GE340.out) | exact HB.out)⟩⟩
                  · rw [if_neg c35] at H
                    have c35b0 : ((a0_1 != a1_1) != true) = false := by simpa using c35
                    (try (have c35b1 : decide ((a0_1 != a1_1) = true) = true := by simpa using c35))
                    (try (have c35b2 : ((a0_1 != a1_1) == true) = true := by simpa using c35))
                    clear c35
                    replace H := Option.bind_eq_some_iff.mp H
                    obtain ⟨t349, A410, H⟩ := H
                    replace H : (if t349 = true then ((entry_Less.f kj7 a0_0 a0_1 a0_2 a0_3 a2_0 a2_1 a2_2 a2_3).bind fun t350 => (ravelinlaw6_EntryOrders.j1 kj7 l3 a4 (!t350))) else (ravelinlaw6_EntryOrders.j1 kj7 l3 a4 false)) = some r := H
                    have A41 := Aside0.mk A410
                    clear A410
                    by_cases c42 : t349 = true
                    · subst c42
                      have H1 : ((entry_Less.f kj7 a0_0 a0_1 a0_2 a0_3 a2_0 a2_1 a2_2 a2_3).bind fun t350 => (ravelinlaw6_EntryOrders.j1 kj7 l3 a4 (!t350))) = some r := by rw [if_pos rfl] at H; exact H
                      clear H
                      have H := H1
                      clear H1
                      replace H := Option.bind_eq_some_iff.mp H
                      obtain ⟨t350, A430, H⟩ := H
                      replace H : (ravelinlaw6_EntryOrders.j1 kj7 l3 a4 (!t350)) = some r := H
                      have A43 := Aside0.mk A430
                      clear A430
                      have H' := Aside0.mk H
                      clear H
                      have hnb44 := NB338_339.out
                      have hnc44 := NB339_338.out
                      have hnb45 := NB338_340.out
                      have hnc45 := NB340_338.out
                      have hcz46_0 : w31.cell? ⟨gb338, 0, none⟩ = some (.string a0_0) := (blk_cell BK338.out 0).trans rfl
                      have hcz46_1 : w31.cell? ⟨gb338, 1, none⟩ = some (.int .i64 a0_1) := (blk_cell BK338.out 1).trans rfl
                      have hcz46_2 : w31.cell? ⟨gb338, 2, none⟩ = some (.bool a0_2) := (blk_cell BK338.out 2).trans rfl
                      have hcz46_3 : w31.cell? ⟨gb338, 3, none⟩ = some (.string a0_3) := (blk_cell BK338.out 3).trans rfl
                      have hfz46_0 := blk_frozen BK338.out 0
                      have hfz46_1 := blk_frozen BK338.out 1
                      have hfz46_2 := blk_frozen BK338.out 2
                      have hfz46_3 := blk_frozen BK338.out 3
                      have hnb47 := NB339_340.out
                      have hnc47 := NB340_339.out
                      have hcz48_0 : w31.cell? ⟨gb339, 0, none⟩ = some (.string a1_0) := (blk_cell BK339.out 0).trans rfl
                      have hcz48_1 : w31.cell? ⟨gb339, 1, none⟩ = some (.int .i64 a1_1) := (blk_cell BK339.out 1).trans rfl
                      have hcz48_2 : w31.cell? ⟨gb339, 2, none⟩ = some (.bool a1_2) := (blk_cell BK339.out 2).trans rfl
                      have hcz48_3 : w31.cell? ⟨gb339, 3, none⟩ = some (.string a1_3) := (blk_cell BK339.out 3).trans rfl
                      have hfz48_0 := blk_frozen BK339.out 0
                      have hfz48_1 := blk_frozen BK339.out 1
                      have hfz48_2 := blk_frozen BK339.out 2
                      have hfz48_3 := blk_frozen BK339.out 3
                      have hcz49_0 : w31.cell? ⟨gb340, 0, none⟩ = some (.string a2_0) := (blk_cell BK340.out 0).trans rfl
                      have hcz49_1 : w31.cell? ⟨gb340, 1, none⟩ = some (.int .i64 a2_1) := (blk_cell BK340.out 1).trans rfl
                      have hcz49_2 : w31.cell? ⟨gb340, 2, none⟩ = some (.bool a2_2) := (blk_cell BK340.out 2).trans rfl
                      have hcz49_3 : w31.cell? ⟨gb340, 3, none⟩ = some (.string a2_3) := (blk_cell BK340.out 3).trans rfl
                      have hfz49_0 := blk_frozen BK340.out 0
                      have hfz49_1 := blk_frozen BK340.out 1
                      have hfz49_2 := blk_frozen BK340.out 2
                      have hfz49_3 := blk_frozen BK340.out 3
                      go_wp2_with (first | (go_at_call 17; (with_reducible refine (entry_Less.calls kj7 a1_0 a1_1 a1_2 a1_3 a2_0 a2_1 a2_2 a2_3 true _ A41.out).mono ?_); rintro e w50 ⟨rfl, hb⟩; have n0_ := Aside0.mk (blk_below (g := gb338) (o := .cells #[.string a0_0, .int .i64 a0_1, .bool a0_2, .string a0_3] 23 (0, 0)) (by (with_reducible repeat (first | refine blk_drewN ?_ _ | refine blk_drew ?_ | refine blk_alloc ?_ _)); exact BK338.out) hb); have n1_ := Aside0.mk (blk_below (g := gb339) (o := .cells #[.string a1_0, .int .i64 a1_1, .bool a1_2, .string a1_3] 23 (0, 0)) (by (with_reducible repeat (first | refine blk_drewN ?_ _ | refine blk_drew ?_ | refine blk_alloc ?_ _)); exact BK339.out) hb); have n2_ := Aside0.mk (blk_below (g := gb340) (o := .cells #[.string a2_0, .int .i64 a2_1, .bool a2_2, .string a2_3] 23 (0, 0)) (by (with_reducible repeat (first | refine blk_drewN ?_ _ | refine blk_drew ?_ | refine blk_alloc ?_ _)); exact BK340.out) hb); have n3_ := Aside0.mk (below_step (by repeat (first | (with_reducible first | exact HB.out | apply below_alloc | apply pw_below_drewN | apply below_drew1 | refine below_set ?_ GE338.out | refine below_set ?_ GE339.out | refine below_set ?_ GE340.out) | exact HB.out)) hb); clear BK338; clear BK339; clear BK340; clear HB; have BK338 := n0_; have BK339 := n1_; have BK340 := n2_; have HB := n3_; clear n0_ n1_ n2_ n3_; (try clear hb); (try clear hb2); (try clear hk); (try clear hi); have hcz51_0 : w50.cell? ⟨gb338, 0, none⟩ = some (.string a0_0) := (blk_cell BK338.out 0).trans rfl; have hcz51_1 : w50.cell? ⟨gb338, 1, none⟩ = some (.int .i64 a0_1) := (blk_cell BK338.out 1).trans rfl; have hcz51_2 : w50.cell? ⟨gb338, 2, none⟩ = some (.bool a0_2) := (blk_cell BK338.out 2).trans rfl; have hcz51_3 : w50.cell? ⟨gb338, 3, none⟩ = some (.string a0_3) := (blk_cell BK338.out 3).trans rfl; have hfz51_0 := blk_frozen BK338.out 0; have hfz51_1 := blk_frozen BK338.out 1; have hfz51_2 := blk_frozen BK338.out 2; have hfz51_3 := blk_frozen BK338.out 3; have hcz52_0 : w50.cell? ⟨gb340, 0, none⟩ = some (.string a2_0) := (blk_cell BK340.out 0).trans rfl; have hcz52_1 : w50.cell? ⟨gb340, 1, none⟩ = some (.int .i64 a2_1) := (blk_cell BK340.out 1).trans rfl; have hcz52_2 : w50.cell? ⟨gb340, 2, none⟩ = some (.bool a2_2) := (blk_cell BK340.out 2).trans rfl; have hcz52_3 : w50.cell? ⟨gb340, 3, none⟩ = some (.string a2_3) := (blk_cell BK340.out 3).trans rfl; have hfz52_0 := blk_frozen BK340.out 0; have hfz52_1 := blk_frozen BK340.out 1; have hfz52_2 := blk_frozen BK340.out 2; have hfz52_3 := blk_frozen BK340.out 3) | (go_at_call 17; (with_reducible refine (entry_Less.calls kj7 a0_0 a0_1 a0_2 a0_3 a2_0 a2_1 a2_2 a2_3 t350 _ A43.out).mono ?_); rintro e w53 ⟨rfl, hb⟩; have n0_ := Aside0.mk (blk_below (g := gb338) (o := .cells #[.string a0_0, .int .i64 a0_1, .bool a0_2, .string a0_3] 23 (0, 0)) (by (with_reducible repeat (first | refine blk_drewN ?_ _ | refine blk_drew ?_ | refine blk_alloc ?_ _)); exact BK338.out) hb); have n1_ := Aside0.mk (blk_below (g := gb339) (o := .cells #[.string a1_0, .int .i64 a1_1, .bool a1_2, .string a1_3] 23 (0, 0)) (by (with_reducible repeat (first | refine blk_drewN ?_ _ | refine blk_drew ?_ | refine blk_alloc ?_ _)); exact BK339.out) hb); have n2_ := Aside0.mk (blk_below (g := gb340) (o := .cells #[.string a2_0, .int .i64 a2_1, .bool a2_2, .string a2_3] 23 (0, 0)) (by (with_reducible repeat (first | refine blk_drewN ?_ _ | refine blk_drew ?_ | refine blk_alloc ?_ _)); exact BK340.out) hb); have n3_ := Aside0.mk (below_step (by repeat (first | (with_reducible first | exact HB.out | apply below_alloc | apply pw_below_drewN | apply below_drew1 | refine below_set ?_ GE338.out | refine below_set ?_ GE339.out | refine below_set ?_ GE340.out) | exact HB.out)) hb); clear BK338; clear BK339; clear BK340; clear HB; have BK338 := n0_; have BK339 := n1_; have BK340 := n2_; have HB := n3_; clear n0_ n1_ n2_ n3_; (try clear hb); (try clear hb2); (try clear hk); (try clear hi)))
                      go_meet
                      case rel => exact ⟨_, (!t350), (by first | rfl | (simp; done) | (simp [*]; done)), H', ⟨by have := HJ7.out; first | omega | exact Nat.le_refl _⟩, ⟨by (with_reducible repeat (first | refine blk_drewN ?_ _ | refine blk_drew ?_ | refine blk_alloc ?_ _)); exact BK338.out⟩, ⟨by (with_reducible repeat (first | refine blk_drewN ?_ _ | refine blk_drew ?_ | refine blk_alloc ?_ _)); exact BK339.out⟩, ⟨by (with_reducible repeat (first | refine blk_drewN ?_ _ | refine blk_drew ?_ | refine blk_alloc ?_ _)); exact BK340.out⟩, ⟨by repeat (first | (with_reducible first | exact HB.out | apply below_alloc | apply pw_below_drewN | apply below_drew1 | refine below_set ?_ GE338.out | refine below_set ?_ GE339.out | refine below_set ?_ GE340.out) | exact HB.out)⟩⟩
                    · replace c42 := Bool.eq_false_iff.mpr c42
                      subst c42
                      have H1 : (ravelinlaw6_EntryOrders.j1 kj7 l3 a4 false) = some r := by rw [if_neg (show ¬ (false = true) by decide)] at H; exact H
                      clear H
                      have H := H1
                      clear H1
                      have H' := Aside0.mk H
                      clear H
                      have hnb54 := NB338_339.out
                      have hnc54 := NB339_338.out
                      have hnb55 := NB338_340.out
                      have hnc55 := NB340_338.out
                      have hcz56_0 : w31.cell? ⟨gb338, 0, none⟩ = some (.string a0_0) := (blk_cell BK338.out 0).trans rfl
                      have hcz56_1 : w31.cell? ⟨gb338, 1, none⟩ = some (.int .i64 a0_1) := (blk_cell BK338.out 1).trans rfl
                      have hcz56_2 : w31.cell? ⟨gb338, 2, none⟩ = some (.bool a0_2) := (blk_cell BK338.out 2).trans rfl
                      have hcz56_3 : w31.cell? ⟨gb338, 3, none⟩ = some (.string a0_3) := (blk_cell BK338.out 3).trans rfl
                      have hfz56_0 := blk_frozen BK338.out 0
                      have hfz56_1 := blk_frozen BK338.out 1
                      have hfz56_2 := blk_frozen BK338.out 2
                      have hfz56_3 := blk_frozen BK338.out 3
                      have hnb57 := NB339_340.out
                      have hnc57 := NB340_339.out
                      have hcz58_0 : w31.cell? ⟨gb339, 0, none⟩ = some (.string a1_0) := (blk_cell BK339.out 0).trans rfl
                      have hcz58_1 : w31.cell? ⟨gb339, 1, none⟩ = some (.int .i64 a1_1) := (blk_cell BK339.out 1).trans rfl
                      have hcz58_2 : w31.cell? ⟨gb339, 2, none⟩ = some (.bool a1_2) := (blk_cell BK339.out 2).trans rfl
                      have hcz58_3 : w31.cell? ⟨gb339, 3, none⟩ = some (.string a1_3) := (blk_cell BK339.out 3).trans rfl
                      have hfz58_0 := blk_frozen BK339.out 0
                      have hfz58_1 := blk_frozen BK339.out 1
                      have hfz58_2 := blk_frozen BK339.out 2
                      have hfz58_3 := blk_frozen BK339.out 3
                      have hcz59_0 : w31.cell? ⟨gb340, 0, none⟩ = some (.string a2_0) := (blk_cell BK340.out 0).trans rfl
                      have hcz59_1 : w31.cell? ⟨gb340, 1, none⟩ = some (.int .i64 a2_1) := (blk_cell BK340.out 1).trans rfl
                      have hcz59_2 : w31.cell? ⟨gb340, 2, none⟩ = some (.bool a2_2) := (blk_cell BK340.out 2).trans rfl
                      have hcz59_3 : w31.cell? ⟨gb340, 3, none⟩ = some (.string a2_3) := (blk_cell BK340.out 3).trans rfl
                      have hfz59_0 := blk_frozen BK340.out 0
                      have hfz59_1 := blk_frozen BK340.out 1
                      have hfz59_2 := blk_frozen BK340.out 2
                      have hfz59_3 := blk_frozen BK340.out 3
                      go_wp2_with (first | (go_at_call 17; (with_reducible refine (entry_Less.calls kj7 a1_0 a1_1 a1_2 a1_3 a2_0 a2_1 a2_2 a2_3 false _ A41.out).mono ?_); rintro e w60 ⟨rfl, hb⟩; have n0_ := Aside0.mk (blk_below (g := gb338) (o := .cells #[.string a0_0, .int .i64 a0_1, .bool a0_2, .string a0_3] 23 (0, 0)) (by (with_reducible repeat (first | refine blk_drewN ?_ _ | refine blk_drew ?_ | refine blk_alloc ?_ _)); exact BK338.out) hb); have n1_ := Aside0.mk (blk_below (g := gb339) (o := .cells #[.string a1_0, .int .i64 a1_1, .bool a1_2, .string a1_3] 23 (0, 0)) (by (with_reducible repeat (first | refine blk_drewN ?_ _ | refine blk_drew ?_ | refine blk_alloc ?_ _)); exact BK339.out) hb); have n2_ := Aside0.mk (blk_below (g := gb340) (o := .cells #[.string a2_0, .int .i64 a2_1, .bool a2_2, .string a2_3] 23 (0, 0)) (by (with_reducible repeat (first | refine blk_drewN ?_ _ | refine blk_drew ?_ | refine blk_alloc ?_ _)); exact BK340.out) hb); have n3_ := Aside0.mk (below_step (by repeat (first | (with_reducible first | exact HB.out | apply below_alloc | apply pw_below_drewN | apply below_drew1 | refine below_set ?_ GE338.out | refine below_set ?_ GE339.out | refine below_set ?_ GE340.out) | exact HB.out)) hb); clear BK338; clear BK339; clear BK340; clear HB; have BK338 := n0_; have BK339 := n1_; have BK340 := n2_; have HB := n3_; clear n0_ n1_ n2_ n3_; (try clear hb); (try clear hb2); (try clear hk); (try clear hi)))
                      go_meet
                      case rel => exact ⟨_, (false), (by first | rfl | (simp; done) | (simp [*]; done)), H', ⟨by have := HJ7.out; first | omega | exact Nat.le_refl _⟩, ⟨by (with_reducible repeat (first | refine blk_drewN ?_ _ | refine blk_drew ?_ | refine blk_alloc ?_ _)); exact BK338.out⟩, ⟨by (with_reducible repeat (first | refine blk_drewN ?_ _ | refine blk_drew ?_ | refine blk_alloc ?_ _)); exact BK339.out⟩, ⟨by (with_reducible repeat (first | refine blk_drewN ?_ _ | refine blk_drew ?_ | refine blk_alloc ?_ _)); exact BK340.out⟩, ⟨by repeat (first | (with_reducible first | exact HB.out | apply below_alloc | apply pw_below_drewN | apply below_drew1 | refine below_set ?_ GE338.out | refine below_set ?_ GE339.out | refine below_set ?_ GE340.out) | exact HB.out)⟩⟩
                · rw [if_neg c34] at H
                  have c34b0 : (a0_0.toList == a1_0.toList) = false := beq_eq_false_iff_ne.mpr c34
                  have c34b1 : (a0_0.toList != a1_0.toList) = true := bne_iff_ne.mpr c34
                  (first | rw [c34b0] | (simp only [i64_w, i32_w]; rw [c34b0]) | skip)
                  by_cases c61 : (true != true) = true
                  · exact absurd c61 (by decide)
                  · rw [if_neg c61] at H
                    have c61b0 : (true != true) = false := by simpa using c61
                    (try (have c61b1 : decide (true = true) = true := by simpa using c61))
                    (try (have c61b2 : (true == true) = true := by simpa using c61))
                    clear c61
                    replace H := Option.bind_eq_some_iff.mp H
                    obtain ⟨t351, A670, H⟩ := H
                    replace H : (if t351 = true then ((entry_Less.f kj7 a0_0 a0_1 a0_2 a0_3 a2_0 a2_1 a2_2 a2_3).bind fun t352 => (ravelinlaw6_EntryOrders.j1 kj7 l3 a4 (!t352))) else (ravelinlaw6_EntryOrders.j1 kj7 l3 a4 false)) = some r := H
                    have A67 := Aside0.mk A670
                    clear A670
                    by_cases c68 : t351 = true
                    · subst c68
                      have H1 : ((entry_Less.f kj7 a0_0 a0_1 a0_2 a0_3 a2_0 a2_1 a2_2 a2_3).bind fun t352 => (ravelinlaw6_EntryOrders.j1 kj7 l3 a4 (!t352))) = some r := by rw [if_pos rfl] at H; exact H
                      clear H
                      have H := H1
                      clear H1
                      replace H := Option.bind_eq_some_iff.mp H
                      obtain ⟨t352, A690, H⟩ := H
                      replace H : (ravelinlaw6_EntryOrders.j1 kj7 l3 a4 (!t352)) = some r := H
                      have A69 := Aside0.mk A690
                      clear A690
                      have H' := Aside0.mk H
                      clear H
                      have hnb70 := NB338_339.out
                      have hnc70 := NB339_338.out
                      have hnb71 := NB338_340.out
                      have hnc71 := NB340_338.out
                      have hcz72_0 : w31.cell? ⟨gb338, 0, none⟩ = some (.string a0_0) := (blk_cell BK338.out 0).trans rfl
                      have hcz72_1 : w31.cell? ⟨gb338, 1, none⟩ = some (.int .i64 a0_1) := (blk_cell BK338.out 1).trans rfl
                      have hcz72_2 : w31.cell? ⟨gb338, 2, none⟩ = some (.bool a0_2) := (blk_cell BK338.out 2).trans rfl
                      have hcz72_3 : w31.cell? ⟨gb338, 3, none⟩ = some (.string a0_3) := (blk_cell BK338.out 3).trans rfl
                      have hfz72_0 := blk_frozen BK338.out 0
                      have hfz72_1 := blk_frozen BK338.out 1
                      have hfz72_2 := blk_frozen BK338.out 2
                      have hfz72_3 := blk_frozen BK338.out 3
                      have hnb73 := NB339_340.out
                      have hnc73 := NB340_339.out
                      have hcz74_0 : w31.cell? ⟨gb339, 0, none⟩ = some (.string a1_0) := (blk_cell BK339.out 0).trans rfl
                      have hcz74_1 : w31.cell? ⟨gb339, 1, none⟩ = some (.int .i64 a1_1) := (blk_cell BK339.out 1).trans rfl
                      have hcz74_2 : w31.cell? ⟨gb339, 2, none⟩ = some (.bool a1_2) := (blk_cell BK339.out 2).trans rfl
                      have hcz74_3 : w31.cell? ⟨gb339, 3, none⟩ = some (.string a1_3) := (blk_cell BK339.out 3).trans rfl
                      have hfz74_0 := blk_frozen BK339.out 0
                      have hfz74_1 := blk_frozen BK339.out 1
                      have hfz74_2 := blk_frozen BK339.out 2
                      have hfz74_3 := blk_frozen BK339.out 3
                      have hcz75_0 : w31.cell? ⟨gb340, 0, none⟩ = some (.string a2_0) := (blk_cell BK340.out 0).trans rfl
                      have hcz75_1 : w31.cell? ⟨gb340, 1, none⟩ = some (.int .i64 a2_1) := (blk_cell BK340.out 1).trans rfl
                      have hcz75_2 : w31.cell? ⟨gb340, 2, none⟩ = some (.bool a2_2) := (blk_cell BK340.out 2).trans rfl
                      have hcz75_3 : w31.cell? ⟨gb340, 3, none⟩ = some (.string a2_3) := (blk_cell BK340.out 3).trans rfl
                      have hfz75_0 := blk_frozen BK340.out 0
                      have hfz75_1 := blk_frozen BK340.out 1
                      have hfz75_2 := blk_frozen BK340.out 2
                      have hfz75_3 := blk_frozen BK340.out 3
                      go_wp2_with (first | (go_at_call 17; (with_reducible refine (entry_Less.calls kj7 a1_0 a1_1 a1_2 a1_3 a2_0 a2_1 a2_2 a2_3 true _ A67.out).mono ?_); rintro e w76 ⟨rfl, hb⟩; have n0_ := Aside0.mk (blk_below (g := gb338) (o := .cells #[.string a0_0, .int .i64 a0_1, .bool a0_2, .string a0_3] 23 (0, 0)) (by (with_reducible repeat (first | refine blk_drewN ?_ _ | refine blk_drew ?_ | refine blk_alloc ?_ _)); exact BK338.out) hb); have n1_ := Aside0.mk (blk_below (g := gb339) (o := .cells #[.string a1_0, .int .i64 a1_1, .bool a1_2, .string a1_3] 23 (0, 0)) (by (with_reducible repeat (first | refine blk_drewN ?_ _ | refine blk_drew ?_ | refine blk_alloc ?_ _)); exact BK339.out) hb); have n2_ := Aside0.mk (blk_below (g := gb340) (o := .cells #[.string a2_0, .int .i64 a2_1, .bool a2_2, .string a2_3] 23 (0, 0)) (by (with_reducible repeat (first | refine blk_drewN ?_ _ | refine blk_drew ?_ | refine blk_alloc ?_ _)); exact BK340.out) hb); have n3_ := Aside0.mk (below_step (by repeat (first | (with_reducible first | exact HB.out | apply below_alloc | apply pw_below_drewN | apply below_drew1 | refine below_set ?_ GE338.out | refine below_set ?_ GE339.out | refine below_set ?_ GE340.out) | exact HB.out)) hb); clear BK338; clear BK339; clear BK340; clear HB; have BK338 := n0_; have BK339 := n1_; have BK340 := n2_; have HB := n3_; clear n0_ n1_ n2_ n3_; (try clear hb); (try clear hb2); (try clear hk); (try clear hi); have hcz77_0 : w76.cell? ⟨gb338, 0, none⟩ = some (.string a0_0) := (blk_cell BK338.out 0).trans rfl; have hcz77_1 : w76.cell? ⟨gb338, 1, none⟩ = some (.int .i64 a0_1) := (blk_cell BK338.out 1).trans rfl; have hcz77_2 : w76.cell? ⟨gb338, 2, none⟩ = some (.bool a0_2) := (blk_cell BK338.out 2).trans rfl; have hcz77_3 : w76.cell? ⟨gb338, 3, none⟩ = some (.string a0_3) := (blk_cell BK338.out 3).trans rfl; have hfz77_0 := blk_frozen BK338.out 0; have hfz77_1 := blk_frozen BK338.out 1; have hfz77_2 := blk_frozen BK338.out 2; have hfz77_3 := blk_frozen BK338.out 3; have hcz78_0 : w76.cell? ⟨gb340, 0, none⟩ = some (.string a2_0) := (blk_cell BK340.out 0).trans rfl; have hcz78_1 : w76.cell? ⟨gb340, 1, none⟩ = some (.int .i64 a2_1) := (blk_cell BK340.out 1).trans rfl; have hcz78_2 : w76.cell? ⟨gb340, 2, none⟩ = some (.bool a2_2) := (blk_cell BK340.out 2).trans rfl; have hcz78_3 : w76.cell? ⟨gb340, 3, none⟩ = some (.string a2_3) := (blk_cell BK340.out 3).trans rfl; have hfz78_0 := blk_frozen BK340.out 0; have hfz78_1 := blk_frozen BK340.out 1; have hfz78_2 := blk_frozen BK340.out 2; have hfz78_3 := blk_frozen BK340.out 3) | (go_at_call 17; (with_reducible refine (entry_Less.calls kj7 a0_0 a0_1 a0_2 a0_3 a2_0 a2_1 a2_2 a2_3 t352 _ A69.out).mono ?_); rintro e w79 ⟨rfl, hb⟩; have n0_ := Aside0.mk (blk_below (g := gb338) (o := .cells #[.string a0_0, .int .i64 a0_1, .bool a0_2, .string a0_3] 23 (0, 0)) (by (with_reducible repeat (first | refine blk_drewN ?_ _ | refine blk_drew ?_ | refine blk_alloc ?_ _)); exact BK338.out) hb); have n1_ := Aside0.mk (blk_below (g := gb339) (o := .cells #[.string a1_0, .int .i64 a1_1, .bool a1_2, .string a1_3] 23 (0, 0)) (by (with_reducible repeat (first | refine blk_drewN ?_ _ | refine blk_drew ?_ | refine blk_alloc ?_ _)); exact BK339.out) hb); have n2_ := Aside0.mk (blk_below (g := gb340) (o := .cells #[.string a2_0, .int .i64 a2_1, .bool a2_2, .string a2_3] 23 (0, 0)) (by (with_reducible repeat (first | refine blk_drewN ?_ _ | refine blk_drew ?_ | refine blk_alloc ?_ _)); exact BK340.out) hb); have n3_ := Aside0.mk (below_step (by repeat (first | (with_reducible first | exact HB.out | apply below_alloc | apply pw_below_drewN | apply below_drew1 | refine below_set ?_ GE338.out | refine below_set ?_ GE339.out | refine below_set ?_ GE340.out) | exact HB.out)) hb); clear BK338; clear BK339; clear BK340; clear HB; have BK338 := n0_; have BK339 := n1_; have BK340 := n2_; have HB := n3_; clear n0_ n1_ n2_ n3_; (try clear hb); (try clear hb2); (try clear hk); (try clear hi)))
                      go_meet
                      case rel => exact ⟨_, (!t352), (by first | rfl | (simp; done) | (simp [*]; done)), H', ⟨by have := HJ7.out; first | omega | exact Nat.le_refl _⟩, ⟨by (with_reducible repeat (first | refine blk_drewN ?_ _ | refine blk_drew ?_ | refine blk_alloc ?_ _)); exact BK338.out⟩, ⟨by (with_reducible repeat (first | refine blk_drewN ?_ _ | refine blk_drew ?_ | refine blk_alloc ?_ _)); exact BK339.out⟩, ⟨by (with_reducible repeat (first | refine blk_drewN ?_ _ | refine blk_drew ?_ | refine blk_alloc ?_ _)); exact BK340.out⟩, ⟨by repeat (first | (with_reducible first | exact HB.out | apply below_alloc | apply pw_below_drewN | apply below_drew1 | refine below_set ?_ GE338.out | refine below_set ?_ GE339.out | refine below_set ?_ GE340.out) | exact HB.out)⟩⟩
                    · replace c68 := Bool.eq_false_iff.mpr c68
                      subst c68
                      have H1 : (ravelinlaw6_EntryOrders.j1 kj7 l3 a4 false) = some r := by rw [if_neg (show ¬ (false = true) by decide)] at H; exact H
                      clear H
                      have H := H1
                      clear H1
                      have H' := Aside0.mk H
                      clear H
                      have hnb80 := NB338_339.out
                      have hnc80 := NB339_338.out
                      have hnb81 := NB338_340.out
                      have hnc81 := NB340_338.out
                      have hcz82_0 : w31.cell? ⟨gb338, 0, none⟩ = some (.string a0_0) := (blk_cell BK338.out 0).trans rfl
                      have hcz82_1 : w31.cell? ⟨gb338, 1, none⟩ = some (.int .i64 a0_1) := (blk_cell BK338.out 1).trans rfl
                      have hcz82_2 : w31.cell? ⟨gb338, 2, none⟩ = some (.bool a0_2) := (blk_cell BK338.out 2).trans rfl
                      have hcz82_3 : w31.cell? ⟨gb338, 3, none⟩ = some (.string a0_3) := (blk_cell BK338.out 3).trans rfl
                      have hfz82_0 := blk_frozen BK338.out 0
                      have hfz82_1 := blk_frozen BK338.out 1
                      have hfz82_2 := blk_frozen BK338.out 2
                      have hfz82_3 := blk_frozen BK338.out 3
                      have hnb83 := NB339_340.out
                      have hnc83 := NB340_339.out
                      have hcz84_0 : w31.cell? ⟨gb339, 0, none⟩ = some (.string a1_0) := (blk_cell BK339.out 0).trans rfl
                      have hcz84_1 : w31.cell? ⟨gb339, 1, none⟩ = some (.int .i64 a1_1) := (blk_cell BK339.out 1).trans rfl
                      have hcz84_2 : w31.cell? ⟨gb339, 2, none⟩ = some (.bool a1_2) := (blk_cell BK339.out 2).trans rfl
                      have hcz84_3 : w31.cell? ⟨gb339, 3, none⟩ = some (.string a1_3) := (blk_cell BK339.out 3).trans rfl
                      have hfz84_0 := blk_frozen BK339.out 0
                      have hfz84_1 := blk_frozen BK339.out 1
                      have hfz84_2 := blk_frozen BK339.out 2
                      have hfz84_3 := blk_frozen BK339.out 3
                      have hcz85_0 : w31.cell? ⟨gb340, 0, none⟩ = some (.string a2_0) := (blk_cell BK340.out 0).trans rfl
                      have hcz85_1 : w31.cell? ⟨gb340, 1, none⟩ = some (.int .i64 a2_1) := (blk_cell BK340.out 1).trans rfl
                      have hcz85_2 : w31.cell? ⟨gb340, 2, none⟩ = some (.bool a2_2) := (blk_cell BK340.out 2).trans rfl
                      have hcz85_3 : w31.cell? ⟨gb340, 3, none⟩ = some (.string a2_3) := (blk_cell BK340.out 3).trans rfl
                      have hfz85_0 := blk_frozen BK340.out 0
                      have hfz85_1 := blk_frozen BK340.out 1
                      have hfz85_2 := blk_frozen BK340.out 2
                      have hfz85_3 := blk_frozen BK340.out 3
                      go_wp2_with (first | (go_at_call 17; (with_reducible refine (entry_Less.calls kj7 a1_0 a1_1 a1_2 a1_3 a2_0 a2_1 a2_2 a2_3 false _ A67.out).mono ?_); rintro e w86 ⟨rfl, hb⟩; have n0_ := Aside0.mk (blk_below (g := gb338) (o := .cells #[.string a0_0, .int .i64 a0_1, .bool a0_2, .string a0_3] 23 (0, 0)) (by (with_reducible repeat (first | refine blk_drewN ?_ _ | refine blk_drew ?_ | refine blk_alloc ?_ _)); exact BK338.out) hb); have n1_ := Aside0.mk (blk_below (g := gb339) (o := .cells #[.string a1_0, .int .i64 a1_1, .bool a1_2, .string a1_3] 23 (0, 0)) (by (with_reducible repeat (first | refine blk_drewN ?_ _ | refine blk_drew ?_ | refine blk_alloc ?_ _)); exact BK339.out) hb); have n2_ := Aside0.mk (blk_below (g := gb340) (o := .cells #[.string a2_0, .int .i64 a2_1, .bool a2_2, .string a2_3] 23 (0, 0)) (by (with_reducible repeat (first | refine blk_drewN ?_ _ | refine blk_drew ?_ | refine blk_alloc ?_ _)); exact BK340.out) hb); have n3_ := Aside0.mk (below_step (by repeat (first | (with_reducible first | exact HB.out | apply below_alloc | apply pw_below_drewN | apply below_drew1 | refine below_set ?_ GE338.out | refine below_set ?_ GE339.out | refine below_set ?_ GE340.out) | exact HB.out)) hb); clear BK338; clear BK339; clear BK340; clear HB; have BK338 := n0_; have BK339 := n1_; have BK340 := n2_; have HB := n3_; clear n0_ n1_ n2_ n3_; (try clear hb); (try clear hb2); (try clear hk); (try clear hi)))
                      go_meet
                      case rel => exact ⟨_, (false), (by first | rfl | (simp; done) | (simp [*]; done)), H', ⟨by have := HJ7.out; first | omega | exact Nat.le_refl _⟩, ⟨by (with_reducible repeat (first | refine blk_drewN ?_ _ | refine blk_drew ?_ | refine blk_alloc ?_ _)); exact BK338.out⟩, ⟨by (with_reducible repeat (first | refine blk_drewN ?_ _ | refine blk_drew ?_ | refine blk_alloc ?_ _)); exact BK339.out⟩, ⟨by (with_reducible repeat (first | refine blk_drewN ?_ _ | refine blk_drew ?_ | refine blk_alloc ?_ _)); exact BK340.out⟩, ⟨by repeat (first | (with_reducible first | exact HB.out | apply below_alloc | apply pw_below_drewN | apply below_drew1 | refine below_set ?_ GE338.out | refine below_set ?_ GE339.out | refine below_set ?_ GE340.out) | exact HB.out)⟩⟩
            · replace c32 := Bool.eq_false_iff.mpr c32
              subst c32
              have H1 : (if a0_0.toList = a1_0.toList then (if ((a0_1 != a1_1) != t348) = true then (ravelinlaw6_EntryOrders.j1 kj7 l3 a4 true) else (ravelinlaw6_EntryOrders.j1 kj7 l3 a4 false)) else (if (true != t348) = true then (ravelinlaw6_EntryOrders.j1 kj7 l3 a4 true) else (ravelinlaw6_EntryOrders.j1 kj7 l3 a4 false))) = some r := by rw [if_neg (show ¬ (false = true) by decide)] at H; exact H
              clear H
              have H := H1
              clear H1
              by_cases c87 : a0_0.toList = a1_0.toList
              · rw [if_pos c87] at H
                have c87b0 : (a0_0.toList == a1_0.toList) = true := beq_iff_eq.mpr c87
                have c87b1 : (a0_0.toList != a1_0.toList) = false := bne_eq_false_iff_eq.mpr c87
                clear c87
                by_cases c88 : ((a0_1 != a1_1) != t348) = true
                · rw [if_pos c88] at H
                  have c88b0 : ((a0_1 != a1_1) != t348) = true := c88
                  (try (have c88b1 : decide ((a0_1 != a1_1) = t348) = false := by simpa using c88))
                  (try (have c88b2 : ((a0_1 != a1_1) == t348) = false := by simpa using c88))
                  (try (have c88b3 : ¬ ((a0_1 != a1_1) = t348) := by simpa using c88))
                  clear c88
                  have H' := Aside0.mk H
                  clear H
                  have hnb89 := NB338_339.out
                  have hnc89 := NB339_338.out
                  have hnb90 := NB338_340.out
                  have hnc90 := NB340_338.out
                  have hcz91_0 : w31.cell? ⟨gb338, 0, none⟩ = some (.string a0_0) := (blk_cell BK338.out 0).trans rfl
                  have hcz91_1 : w31.cell? ⟨gb338, 1, none⟩ = some (.int .i64 a0_1) := (blk_cell BK338.out 1).trans rfl
                  have hcz91_2 : w31.cell? ⟨gb338, 2, none⟩ = some (.bool a0_2) := (blk_cell BK338.out 2).trans rfl
                  have hcz91_3 : w31.cell? ⟨gb338, 3, none⟩ = some (.string a0_3) := (blk_cell BK338.out 3).trans rfl
                  have hfz91_0 := blk_frozen BK338.out 0
                  have hfz91_1 := blk_frozen BK338.out 1
                  have hfz91_2 := blk_frozen BK338.out 2
                  have hfz91_3 := blk_frozen BK338.out 3
                  have hnb92 := NB339_340.out
                  have hnc92 := NB340_339.out
                  have hcz93_0 : w31.cell? ⟨gb339, 0, none⟩ = some (.string a1_0) := (blk_cell BK339.out 0).trans rfl
                  have hcz93_1 : w31.cell? ⟨gb339, 1, none⟩ = some (.int .i64 a1_1) := (blk_cell BK339.out 1).trans rfl
                  have hcz93_2 : w31.cell? ⟨gb339, 2, none⟩ = some (.bool a1_2) := (blk_cell BK339.out 2).trans rfl
                  have hcz93_3 : w31.cell? ⟨gb339, 3, none⟩ = some (.string a1_3) := (blk_cell BK339.out 3).trans rfl
                  have hfz93_0 := blk_frozen BK339.out 0
                  have hfz93_1 := blk_frozen BK339.out 1
                  have hfz93_2 := blk_frozen BK339.out 2
                  have hfz93_3 := blk_frozen BK339.out 3
                  go_wp2
                  go_meet
                  case rel => exact ⟨_, (true), (by first | rfl | (simp; done) | (simp [*]; done)), H', ⟨by have := HJ7.out; first | omega | exact Nat.le_refl _⟩, ⟨by (with_reducible repeat (first | refine blk_drewN ?_ _ | refine blk_drew ?_ | refine blk_alloc ?_ _)); exact BK338.out⟩, ⟨by (with_reducible repeat (first | refine blk_drewN ?_ _ | refine blk_drew ?_ | refine blk_alloc ?_ _)); exact BK339.out⟩, ⟨by (with_reducible repeat (first | refine blk_drewN ?_ _ | refine blk_drew ?_ | refine blk_alloc ?_ _)); exact BK340.out⟩, ⟨by repeat (first | (with_reducible first | exact HB.out | apply below_alloc | apply pw_below_drewN | apply below_drew1 | refine below_set ?_ GE338.out | refine below_set ?_ GE339.out | refine below_set ?_ GE340.out) | exact HB.out)⟩⟩
                · rw [if_neg c88] at H
                  have c88b0 : ((a0_1 != a1_1) != t348) = false := by simpa using c88
                  (try (have c88b1 : decide ((a0_1 != a1_1) = t348) = true := by simpa using c88))
                  (try (have c88b2 : ((a0_1 != a1_1) == t348) = true := by simpa using c88))
                  clear c88
                  have H' := Aside0.mk H
                  clear H
                  have hnb94 := NB338_339.out
                  have hnc94 := NB339_338.out
                  have hnb95 := NB338_340.out
                  have hnc95 := NB340_338.out
                  have hcz96_0 : w31.cell? ⟨gb338, 0, none⟩ = some (.string a0_0) := (blk_cell BK338.out 0).trans rfl
                  have hcz96_1 : w31.cell? ⟨gb338, 1, none⟩ = some (.int .i64 a0_1) := (blk_cell BK338.out 1).trans rfl
                  have hcz96_2 : w31.cell? ⟨gb338, 2, none⟩ = some (.bool a0_2) := (blk_cell BK338.out 2).trans rfl
                  have hcz96_3 : w31.cell? ⟨gb338, 3, none⟩ = some (.string a0_3) := (blk_cell BK338.out 3).trans rfl
                  have hfz96_0 := blk_frozen BK338.out 0
                  have hfz96_1 := blk_frozen BK338.out 1
                  have hfz96_2 := blk_frozen BK338.out 2
                  have hfz96_3 := blk_frozen BK338.out 3
                  have hnb97 := NB339_340.out
                  have hnc97 := NB340_339.out
                  have hcz98_0 : w31.cell? ⟨gb339, 0, none⟩ = some (.string a1_0) := (blk_cell BK339.out 0).trans rfl
                  have hcz98_1 : w31.cell? ⟨gb339, 1, none⟩ = some (.int .i64 a1_1) := (blk_cell BK339.out 1).trans rfl
                  have hcz98_2 : w31.cell? ⟨gb339, 2, none⟩ = some (.bool a1_2) := (blk_cell BK339.out 2).trans rfl
                  have hcz98_3 : w31.cell? ⟨gb339, 3, none⟩ = some (.string a1_3) := (blk_cell BK339.out 3).trans rfl
                  have hfz98_0 := blk_frozen BK339.out 0
                  have hfz98_1 := blk_frozen BK339.out 1
                  have hfz98_2 := blk_frozen BK339.out 2
                  have hfz98_3 := blk_frozen BK339.out 3
                  go_wp2
                  go_meet
                  case rel => exact ⟨_, (false), (by first | rfl | (simp; done) | (simp [*]; done)), H', ⟨by have := HJ7.out; first | omega | exact Nat.le_refl _⟩, ⟨by (with_reducible repeat (first | refine blk_drewN ?_ _ | refine blk_drew ?_ | refine blk_alloc ?_ _)); exact BK338.out⟩, ⟨by (with_reducible repeat (first | refine blk_drewN ?_ _ | refine blk_drew ?_ | refine blk_alloc ?_ _)); exact BK339.out⟩, ⟨by (with_reducible repeat (first | refine blk_drewN ?_ _ | refine blk_drew ?_ | refine blk_alloc ?_ _)); exact BK340.out⟩, ⟨by repeat (first | (with_reducible first | exact HB.out | apply below_alloc | apply pw_below_drewN | apply below_drew1 | refine below_set ?_ GE338.out | refine below_set ?_ GE339.out | refine below_set ?_ GE340.out) | exact HB.out)⟩⟩
              · rw [if_neg c87] at H
                have c87b0 : (a0_0.toList == a1_0.toList) = false := beq_eq_false_iff_ne.mpr c87
                have c87b1 : (a0_0.toList != a1_0.toList) = true := bne_iff_ne.mpr c87
                by_cases c99 : (true != t348) = true
                · rw [if_pos c99] at H
                  have c99b0 : (true != t348) = true := c99
                  (try (have c99b1 : decide (true = t348) = false := by simpa using c99))
                  (try (have c99b2 : (true == t348) = false := by simpa using c99))
                  (try (have c99b3 : ¬ (true = t348) := by simpa using c99))
                  clear c99
                  have H' := Aside0.mk H
                  clear H
                  have hnb100 := NB338_339.out
                  have hnc100 := NB339_338.out
                  have hnb101 := NB338_340.out
                  have hnc101 := NB340_338.out
                  have hcz102_0 : w31.cell? ⟨gb338, 0, none⟩ = some (.string a0_0) := (blk_cell BK338.out 0).trans rfl
                  have hcz102_1 : w31.cell? ⟨gb338, 1, none⟩ = some (.int .i64 a0_1) := (blk_cell BK338.out 1).trans rfl
                  have hcz102_2 : w31.cell? ⟨gb338, 2, none⟩ = some (.bool a0_2) := (blk_cell BK338.out 2).trans rfl
                  have hcz102_3 : w31.cell? ⟨gb338, 3, none⟩ = some (.string a0_3) := (blk_cell BK338.out 3).trans rfl
                  have hfz102_0 := blk_frozen BK338.out 0
                  have hfz102_1 := blk_frozen BK338.out 1
                  have hfz102_2 := blk_frozen BK338.out 2
                  have hfz102_3 := blk_frozen BK338.out 3
                  have hnb103 := NB339_340.out
                  have hnc103 := NB340_339.out
                  have hcz104_0 : w31.cell? ⟨gb339, 0, none⟩ = some (.string a1_0) := (blk_cell BK339.out 0).trans rfl
                  have hcz104_1 : w31.cell? ⟨gb339, 1, none⟩ = some (.int .i64 a1_1) := (blk_cell BK339.out 1).trans rfl
                  have hcz104_2 : w31.cell? ⟨gb339, 2, none⟩ = some (.bool a1_2) := (blk_cell BK339.out 2).trans rfl
                  have hcz104_3 : w31.cell? ⟨gb339, 3, none⟩ = some (.string a1_3) := (blk_cell BK339.out 3).trans rfl
                  have hfz104_0 := blk_frozen BK339.out 0
                  have hfz104_1 := blk_frozen BK339.out 1
                  have hfz104_2 := blk_frozen BK339.out 2
                  have hfz104_3 := blk_frozen BK339.out 3
                  go_wp2
                  go_meet
                  case rel => exact ⟨_, (true), (by first | rfl | (simp; done) | (simp [*]; done)), H', ⟨by have := HJ7.out; first | omega | exact Nat.le_refl _⟩, ⟨by (with_reducible repeat (first | refine blk_drewN ?_ _ | refine blk_drew ?_ | refine blk_alloc ?_ _)); exact BK338.out⟩, ⟨by (with_reducible repeat (first | refine blk_drewN ?_ _ | refine blk_drew ?_ | refine blk_alloc ?_ _)); exact BK339.out⟩, ⟨by (with_reducible repeat (first | refine blk_drewN ?_ _ | refine blk_drew ?_ | refine blk_alloc ?_ _)); exact BK340.out⟩, ⟨by repeat (first | (with_reducible first | exact HB.out | apply below_alloc | apply pw_below_drewN | apply below_drew1 | refine below_set ?_ GE338.out | refine below_set ?_ GE339.out | refine below_set ?_ GE340.out) | exact HB.out)⟩⟩
                · rw [if_neg c99] at H
                  have c99b0 : (true != t348) = false := by simpa using c99
                  (try (have c99b1 : decide (true = t348) = true := by simpa using c99))
                  (try (have c99b2 : (true == t348) = true := by simpa using c99))
                  clear c99
                  have H' := Aside0.mk H
                  clear H
                  have hnb105 := NB338_339.out
                  have hnc105 := NB339_338.out
                  have hnb106 := NB338_340.out
                  have hnc106 := NB340_338.out
                  have hcz107_0 : w31.cell? ⟨gb338, 0, none⟩ = some (.string a0_0) := (blk_cell BK338.out 0).trans rfl
                  have hcz107_1 : w31.cell? ⟨gb338, 1, none⟩ = some (.int .i64 a0_1) := (blk_cell BK338.out 1).trans rfl
                  have hcz107_2 : w31.cell? ⟨gb338, 2, none⟩ = some (.bool a0_2) := (blk_cell BK338.out 2).trans rfl
                  have hcz107_3 : w31.cell? ⟨gb338, 3, none⟩ = some (.string a0_3) := (blk_cell BK338.out 3).trans rfl
                  have hfz107_0 := blk_frozen BK338.out 0
                  have hfz107_1 := blk_frozen BK338.out 1
                  have hfz107_2 := blk_frozen BK338.out 2
                  have hfz107_3 := blk_frozen BK338.out 3
                  have hnb108 := NB339_340.out
                  have hnc108 := NB340_339.out
                  have hcz109_0 : w31.cell? ⟨gb339, 0, none⟩ = some (.string a1_0) := (blk_cell BK339.out 0).trans rfl
                  have hcz109_1 : w31.cell? ⟨gb339, 1, none⟩ = some (.int .i64 a1_1) := (blk_cell BK339.out 1).trans rfl
                  have hcz109_2 : w31.cell? ⟨gb339, 2, none⟩ = some (.bool a1_2) := (blk_cell BK339.out 2).trans rfl
                  have hcz109_3 : w31.cell? ⟨gb339, 3, none⟩ = some (.string a1_3) := (blk_cell BK339.out 3).trans rfl
                  have hfz109_0 := blk_frozen BK339.out 0
                  have hfz109_1 := blk_frozen BK339.out 1
                  have hfz109_2 := blk_frozen BK339.out 2
                  have hfz109_3 := blk_frozen BK339.out 3
                  go_wp2
                  go_meet
                  case rel => exact ⟨_, (false), (by first | rfl | (simp; done) | (simp [*]; done)), H', ⟨by have := HJ7.out; first | omega | exact Nat.le_refl _⟩, ⟨by (with_reducible repeat (first | refine blk_drewN ?_ _ | refine blk_drew ?_ | refine blk_alloc ?_ _)); exact BK338.out⟩, ⟨by (with_reducible repeat (first | refine blk_drewN ?_ _ | refine blk_drew ?_ | refine blk_alloc ?_ _)); exact BK339.out⟩, ⟨by (with_reducible repeat (first | refine blk_drewN ?_ _ | refine blk_drew ?_ | refine blk_alloc ?_ _)); exact BK340.out⟩, ⟨by repeat (first | (with_reducible first | exact HB.out | apply below_alloc | apply pw_below_drewN | apply below_drew1 | refine below_set ?_ GE338.out | refine below_set ?_ GE339.out | refine below_set ?_ GE340.out) | exact HB.out)⟩⟩
          case rest =>
            clear HC28
            try clear c1
            try clear c2
            try clear p2
            try clear c3
            try clear c4
            try clear c5
            try clear c6
            try clear c7
            try clear c8
            try clear c9
            try clear c10
            try clear c17
            try clear c25
            try clear c32
            try clear c33
            try clear c34
            try clear c34b0
            try clear c34b1
            try clear c35
            try clear c35b0
            try clear c35b1
            try clear c35b2
            try clear c36
            try clear c37
            try clear c39
            try clear c42
            try clear c44
            try clear c45
            try clear c47
            try clear c54
            try clear c55
            try clear c57
            try clear c61
            try clear c61b0
            try clear c61b1
            try clear c61b2
            try clear c62
            try clear c63
            try clear c65
            try clear c68
            try clear c70
            try clear c71
            try clear c73
            try clear c80
            try clear c81
            try clear c83
            try clear c87
            try clear c87b0
            try clear c87b1
            try clear c88
            try clear c88b0
            try clear c88b1
            try clear c88b2
            try clear c89
            try clear c90
            try clear c92
            try clear c94
            try clear c95
            try clear c97
            try clear c99
            try clear c99b0
            try clear c99b1
            try clear c99b2
            try clear c100
            try clear c101
            try clear c103
            try clear c105
            try clear c106
            try clear c108
            try clear hcz102_0
            try clear hcz102_1
            try clear hcz102_2
            try clear hcz102_3
            try clear hcz104_0
            try clear hcz104_1
            try clear hcz104_2
            try clear hcz104_3
            try clear hcz107_0
            try clear hcz107_1
            try clear hcz107_2
            try clear hcz107_3
            try clear hcz109_0
            try clear hcz109_1
            try clear hcz109_2
            try clear hcz109_3
            try clear hcz38_0
            try clear hcz38_1
            try clear hcz38_2
            try clear hcz38_3
            try clear hcz40_0
            try clear hcz40_1
            try clear hcz40_2
            try clear hcz40_3
            try clear hcz46_0
            try clear hcz46_1
            try clear hcz46_2
            try clear hcz46_3
            try clear hcz48_0
            try clear hcz48_1
            try clear hcz48_2
            try clear hcz48_3
            try clear hcz49_0
            try clear hcz49_1
            try clear hcz49_2
            try clear hcz49_3
            try clear hcz51_0
            try clear hcz51_1
            try clear hcz51_2
            try clear hcz51_3
            try clear hcz52_0
            try clear hcz52_1
            try clear hcz52_2
            try clear hcz52_3
            try clear hcz56_0
            try clear hcz56_1
            try clear hcz56_2
            try clear hcz56_3
            try clear hcz58_0
            try clear hcz58_1
            try clear hcz58_2
            try clear hcz58_3
            try clear hcz59_0
            try clear hcz59_1
            try clear hcz59_2
            try clear hcz59_3
            try clear hcz64_0
            try clear hcz64_1
            try clear hcz64_2
            try clear hcz64_3
            try clear hcz66_0
            try clear hcz66_1
            try clear hcz66_2
            try clear hcz66_3
            try clear hcz72_0
            try clear hcz72_1
            try clear hcz72_2
            try clear hcz72_3
            try clear hcz74_0
            try clear hcz74_1
            try clear hcz74_2
            try clear hcz74_3
            try clear hcz75_0
            try clear hcz75_1
            try clear hcz75_2
            try clear hcz75_3
            try clear hcz77_0
            try clear hcz77_1
            try clear hcz77_2
            try clear hcz77_3
            try clear hcz78_0
            try clear hcz78_1
            try clear hcz78_2
            try clear hcz78_3
            try clear hcz82_0
            try clear hcz82_1
            try clear hcz82_2
            try clear hcz82_3
            try clear hcz84_0
            try clear hcz84_1
            try clear hcz84_2
            try clear hcz84_3
            try clear hcz85_0
            try clear hcz85_1
            try clear hcz85_2
            try clear hcz85_3
            try clear hcz91_0
            try clear hcz91_1
            try clear hcz91_2
            try clear hcz91_3
            try clear hcz93_0
            try clear hcz93_1
            try clear hcz93_2
            try clear hcz93_3
            try clear hcz96_0
            try clear hcz96_1
            try clear hcz96_2
            try clear hcz96_3
            try clear hcz98_0
            try clear hcz98_1
            try clear hcz98_2
            try clear hcz98_3
            try clear hfz102_0
            try clear hfz102_1
            try clear hfz102_2
            try clear hfz102_3
            try clear hfz104_0
            try clear hfz104_1
            try clear hfz104_2
            try clear hfz104_3
            try clear hfz107_0
            try clear hfz107_1
            try clear hfz107_2
            try clear hfz107_3
            try clear hfz109_0
            try clear hfz109_1
            try clear hfz109_2
            try clear hfz109_3
            try clear hfz38_0
            try clear hfz38_1
            try clear hfz38_2
            try clear hfz38_3
            try clear hfz40_0
            try clear hfz40_1
            try clear hfz40_2
            try clear hfz40_3
            try clear hfz46_0
            try clear hfz46_1
            try clear hfz46_2
            try clear hfz46_3
            try clear hfz48_0
            try clear hfz48_1
            try clear hfz48_2
            try clear hfz48_3
            try clear hfz49_0
            try clear hfz49_1
            try clear hfz49_2
            try clear hfz49_3
            try clear hfz51_0
            try clear hfz51_1
            try clear hfz51_2
            try clear hfz51_3
            try clear hfz52_0
            try clear hfz52_1
            try clear hfz52_2
            try clear hfz52_3
            try clear hfz56_0
            try clear hfz56_1
            try clear hfz56_2
            try clear hfz56_3
            try clear hfz58_0
            try clear hfz58_1
            try clear hfz58_2
            try clear hfz58_3
            try clear hfz59_0
            try clear hfz59_1
            try clear hfz59_2
            try clear hfz59_3
            try clear hfz64_0
            try clear hfz64_1
            try clear hfz64_2
            try clear hfz64_3
            try clear hfz66_0
            try clear hfz66_1
            try clear hfz66_2
            try clear hfz66_3
            try clear hfz72_0
            try clear hfz72_1
            try clear hfz72_2
            try clear hfz72_3
            try clear hfz74_0
            try clear hfz74_1
            try clear hfz74_2
            try clear hfz74_3
            try clear hfz75_0
            try clear hfz75_1
            try clear hfz75_2
            try clear hfz75_3
            try clear hfz77_0
            try clear hfz77_1
            try clear hfz77_2
            try clear hfz77_3
            try clear hfz78_0
            try clear hfz78_1
            try clear hfz78_2
            try clear hfz78_3
            try clear hfz82_0
            try clear hfz82_1
            try clear hfz82_2
            try clear hfz82_3
            try clear hfz84_0
            try clear hfz84_1
            try clear hfz84_2
            try clear hfz84_3
            try clear hfz85_0
            try clear hfz85_1
            try clear hfz85_2
            try clear hfz85_3
            try clear hfz91_0
            try clear hfz91_1
            try clear hfz91_2
            try clear hfz91_3
            try clear hfz93_0
            try clear hfz93_1
            try clear hfz93_2
            try clear hfz93_3
            try clear hfz96_0
            try clear hfz96_1
            try clear hfz96_2
            try clear hfz96_3
            try clear hfz98_0
            try clear hfz98_1
            try clear hfz98_2
            try clear hfz98_3
            obtain ⟨kq, x69_27, rfl, HA, HJ27, BK338, BK339, BK340, HB⟩ := hcut
            cases kq with
            | zero => exact absurd HA.out (by simp [ravelinlaw6_EntryOrders.j1])
            | succ kj27 =>
              have H := HA.out
              clear HA
              simp only [ravelinlaw6_EntryOrders.j1] at H
              by_cases c110 : x69_27 = true
              · subst c110
                have H1 : (some false) = some r := by rw [if_pos rfl] at H; exact H
                clear H
                have H := H1
                clear H1
                exact absurd ((Option.some.inj H).trans HR_.out) (by decide)
              · replace c110 := Bool.eq_false_iff.mpr c110
                subst c110
                have H1 : (if (l3.length : Int) > 0 then (if (l3.length : Int) = 0 then (none) else ((entry_Sorted.f kj27 l3).bind fun t353 => (if t353 = true then (if 0 ≤ (Int.tmod (wrap64 (a4)) (l3.length : Int)) then (if (Int.tmod (wrap64 (a4)) (l3.length : Int)) ≤ (l3.length : Int) then ((entry_Sorted.f kj27 (l3.take ((Int.tmod (wrap64 (a4)) (l3.length : Int)) : Int).toNat)).bind fun t358 => (if t358 = true then ((entry_Sorted.f kj27 (l3.drop ((Int.tmod (wrap64 (a4)) (l3.length : Int)) : Int).toNat)).bind fun t363 => (some t363)) else (some false))) else (none)) else (none)) else (some true)))) else ((entry_Sorted.f kj27 l3).bind fun t364 => (if t364 = true then (if 0 ≤ (l3.length : Int) then ((entry_Sorted.f kj27 (l3.take 0)).bind fun t369 => (if t369 = true then ((entry_Sorted.f kj27 (l3.drop 0)).bind fun t374 => (some t374)) else (some false))) else (none)) else (some true)))) = some r := by rw [if_neg (show ¬ (false = true) by decide)] at H; exact H
                clear H
                have H := H1
                clear H1
                by_cases c111 : (l3.length : Int) > 0
                · rw [if_pos c111] at H
                  have c111b0 : decide (0 < (l3.length : Int)) = true := decide_eq_true c111
                  have c111b1 : decide (0 < l3.length) = true := decide_eq_true (by omega)
                  clear c111
                  by_cases c112 : (l3.length : Int) = 0
                  · rw [if_pos c112] at H
                    exact absurd H (by simp)
                  · rw [if_neg c112] at H
                    have c112b0 : ((l3.length : Int) == 0) = false := beq_eq_false_iff_ne.mpr c112
                    have c112b1 : ((l3.length : Int) != 0) = true := bne_iff_ne.mpr c112
                    have c112b2 : ¬ (l3 = []) := fun h_ => c112 (by rw [h_]; rfl)
                    replace H := Option.bind_eq_some_iff.mp H
                    obtain ⟨t353, A1130, H⟩ := H
                    replace H : (if t353 = true then (if 0 ≤ (Int.tmod (wrap64 (a4)) (l3.length : Int)) then (if (Int.tmod (wrap64 (a4)) (l3.length : Int)) ≤ (l3.length : Int) then ((entry_Sorted.f kj27 (l3.take ((Int.tmod (wrap64 (a4)) (l3.length : Int)) : Int).toNat)).bind fun t358 => (if t358 = true then ((entry_Sorted.f kj27 (l3.drop ((Int.tmod (wrap64 (a4)) (l3.length : Int)) : Int).toNat)).bind fun t363 => (some t363)) else (some false))) else (none)) else (none)) else (some true)) = some r := H
                    have A113 := Aside0.mk A1130
                    clear A1130
                    by_cases c114 : t353 = true
                    · subst c114
                      have H1 : (if 0 ≤ (Int.tmod (wrap64 (a4)) (l3.length : Int)) then (if (Int.tmod (wrap64 (a4)) (l3.length : Int)) ≤ (l3.length : Int) then ((entry_Sorted.f kj27 (l3.take ((Int.tmod (wrap64 (a4)) (l3.length : Int)) : Int).toNat)).bind fun t358 => (if t358 = true then ((entry_Sorted.f kj27 (l3.drop ((Int.tmod (wrap64 (a4)) (l3.length : Int)) : Int).toNat)).bind fun t363 => (some t363)) else (some false))) else (none)) else (none)) = some r := by rw [if_pos rfl] at H; exact H
                      clear H
                      have H := H1
                      clear H1
                      obtain ⟨ji115, hji115⟩ : ∃ j_ : Int, (Int.tmod (wrap64 (a4)) (l3.length : Int)) = j_ := ⟨_, rfl⟩
                      replace H : (if 0 ≤ (ji115) then (if (ji115) ≤ (l3.length : Int) then ((entry_Sorted.f kj27 (l3.take ((ji115) : Int).toNat)).bind fun t358 => (if t358 = true then ((entry_Sorted.f kj27 (l3.drop ((ji115) : Int).toNat)).bind fun t363 => (some t363)) else (some false))) else (none)) else (none)) = some r := by first | (rw [hji115] at H; exact H) | (simp only [hji115] at H ⊢; exact H)
                      (try rw [hji115] at A113)
                      by_cases c116 : 0 ≤ (ji115)
                      · rw [if_pos c116] at H
                        have c116b0 := eq_true c116
                        have c116b1 : decide (0 ≤ (ji115)) = true := decide_eq_true c116
                        clear c116
                        by_cases c117 : (ji115) ≤ (l3.length : Int)
                        · rw [if_pos c117] at H
                          have c117b0 := eq_true c117
                          have c117b1 : decide ((ji115) ≤ (l3.length : Int)) = true := decide_eq_true c117
                          clear c117
                          obtain ⟨y354, hy354⟩ : ∃ y_ : List (S23), y_ = (l3.take ((ji115) : Int).toNat) := ⟨_, rfl⟩
                          replace H : ((entry_Sorted.f kj27 y354).bind fun t358 => (if t358 = true then ((entry_Sorted.f kj27 (l3.drop ((ji115) : Int).toNat)).bind fun t363 => (some t363)) else (some false))) = some r := by first | (rw [hy354]; with_reducible exact H) | (have H2_ := (Option.bind_some _ _).symm.trans H; rw [hy354]; with_reducible exact H2_) | (have H2_ := (Option.bind_some _ _).symm.trans H; with_reducible exact H2_) | with_reducible exact H | (rw [hy354]; exact H) | exact H
                          have Ny354 := Aside0.mk hy354
                          clear hy354
                          replace H := Option.bind_eq_some_iff.mp H
                          obtain ⟨t358, A1180, H⟩ := H
                          replace H : (if t358 = true then ((entry_Sorted.f kj27 (l3.drop ((ji115) : Int).toNat)).bind fun t363 => (some t363)) else (some false)) = some r := H
                          have A118 := Aside0.mk A1180
                          clear A1180
                          by_cases c119 : t358 = true
                          · subst c119
                            have H1 : ((entry_Sorted.f kj27 (l3.drop ((ji115) : Int).toNat)).bind fun t363 => (some t363)) = some r := by rw [if_pos rfl] at H; exact H
                            clear H
                            have H := H1
                            clear H1
                            have c120b0 := eq_true (of_decide_eq_true (by first | (with_reducible assumption) | assumption) : 0 ≤ (ji115))
                            have c121b0 := eq_true (of_decide_eq_true (by first | (with_reducible assumption) | assumption) : (ji115) ≤ (l3.length : Int))
                            obtain ⟨y359, hy359⟩ : ∃ y_ : List (S23), y_ = (l3.drop ((ji115) : Int).toNat) := ⟨_, rfl⟩
                            replace H : ((entry_Sorted.f kj27 y359).bind fun t363 => (some t363)) = some r := by first | (rw [hy359]; with_reducible exact H) | (have H2_ := (Option.bind_some _ _).symm.trans H; rw [hy359]; with_reducible exact H2_) | (have H2_ := (Option.bind_some _ _).symm.trans H; with_reducible exact H2_) | with_reducible exact H | (rw [hy359]; exact H) | exact H
                            have Ny359 := Aside0.mk hy359
                            clear hy359
                            replace H := Option.bind_eq_some_iff.mp H
                            obtain ⟨t363, A1220, H⟩ := H
                            replace H : (some t363) = some r := H
                            have A122 := Aside0.mk A1220
                            clear A1220
                            obtain rfl := Option.some.inj H
                            go_wp2_with (first | ((with_reducible refine gate_callee (f := 21) rfl ?_); refine goesL_ (some 79) rfl rfl Try.func21 (by kernel_rfl) rfl #[.slice A3 l3.length c3] rfl (by (try simp only [List.map_toArray, List.map_cons, List.map_nil]); first | done | rfl | (simp only [List.length_drop, List.length_take]; rfl)) ?_; (with_reducible refine (entry_Sorted.calls kj27 _ _ l3 true _ ?side1 ?side2 A113.out).mono ?_); (case side1 => repeat (first | exact (Kd.C_below HR3.out HB.out) | (with_reducible refine Kd.C_alloc ?_ _) | (with_reducible refine Kd.C_drewN ?_ _) | (with_reducible refine Kd.C_drew ?_))); (case side2 => exact HC3.out); rintro e w123 ⟨rfl, hb⟩; refine ⟨_, rfl, ?_⟩; have n0_ := Aside0.mk (blk_below (g := gb338) (o := .cells #[.string a0_0, .int .i64 a0_1, .bool a0_2, .string a0_3] 23 (0, 0)) (by (with_reducible repeat (first | refine blk_drewN ?_ _ | refine blk_drew ?_ | refine blk_alloc ?_ _)); exact BK338.out) hb); have n1_ := Aside0.mk (blk_below (g := gb339) (o := .cells #[.string a1_0, .int .i64 a1_1, .bool a1_2, .string a1_3] 23 (0, 0)) (by (with_reducible repeat (first | refine blk_drewN ?_ _ | refine blk_drew ?_ | refine blk_alloc ?_ _)); exact BK339.out) hb); have n2_ := Aside0.mk (blk_below (g := gb340) (o := .cells #[.string a2_0, .int .i64 a2_1, .bool a2_2, .string a2_3] 23 (0, 0)) (by (with_reducible repeat (first | refine blk_drewN ?_ _ | refine blk_drew ?_ | refine blk_alloc ?_ _)); exact BK340.out) hb); have n3_ := Aside0.mk (below_step (by repeat (first | (with_reducible first | exact HB.out | apply below_alloc | apply pw_below_drewN | apply below_drew1 | refine below_set ?_ GE338.out | refine below_set ?_ GE339.out | refine below_set ?_ GE340.out) | exact HB.out)) hb); clear BK338; clear BK339; clear BK340; clear HB; have BK338 := n0_; have BK339 := n1_; have BK340 := n2_; have HB := n3_; clear n0_ n1_ n2_ n3_; (try clear hb); (try clear hb2); (try clear hk); (try clear hi); have q124 : ((ji115) : Int) ≤ ((l3.length : Int) : Int) := of_decide_eq_true (by first | (with_reducible assumption) | assumption); obtain ⟨i0124, hi0124, _, hsz124, _⟩ := info_parts info23; have hroom124 : l3.length ≤ c3 := HC3.out; have hC124 : Kd.C k23 _ A3 l3.length l3 := HR3.out; have hcut124 := cut_to (P := Try.prog) 24 23 .i64 Try.underlying24 hi0124 A3 l3.length c3 (ji115) (of_decide_eq_true (by first | (with_reducible assumption) | assumption)) q124 hroom124; have hr124 := Kd.C_take (m := ((ji115) : Int).toNat) hC124 (by omega); have hy124 : y354.length = ((ji115) : Int).toNat := (by rw [Ny354.out, List.length_take]; omega); rw [← Ny354.out] at hr124; rw [← hy124] at hcut124; have HR357 := Aside0.mk hr124; have HC357 := Aside0.mk (show y354.length ≤ c3 from by omega); clear hr124 hC124 hroom124 hi0124 hsz124; have KY124 := Aside0.mk hy124; clear hy124; replace q124 := eq_true q124) | (go_at_call 21; (with_reducible refine (entry_Sorted.calls kj27 _ _ y354 true _ ?side1 ?side2 A118.out).mono ?_); (case side1 => repeat (first | exact (Kd.C_below HR357.out HB.out) | (with_reducible refine Kd.C_alloc ?_ _) | (with_reducible refine Kd.C_drewN ?_ _) | (with_reducible refine Kd.C_drew ?_))); (case side2 => exact HC357.out); rintro e w125 ⟨rfl, hb⟩; have n0_ := Aside0.mk (blk_below (g := gb338) (o := .cells #[.string a0_0, .int .i64 a0_1, .bool a0_2, .string a0_3] 23 (0, 0)) (by (with_reducible repeat (first | refine blk_drewN ?_ _ | refine blk_drew ?_ | refine blk_alloc ?_ _)); exact BK338.out) hb); have n1_ := Aside0.mk (blk_below (g := gb339) (o := .cells #[.string a1_0, .int .i64 a1_1, .bool a1_2, .string a1_3] 23 (0, 0)) (by (with_reducible repeat (first | refine blk_drewN ?_ _ | refine blk_drew ?_ | refine blk_alloc ?_ _)); exact BK339.out) hb); have n2_ := Aside0.mk (blk_below (g := gb340) (o := .cells #[.string a2_0, .int .i64 a2_1, .bool a2_2, .string a2_3] 23 (0, 0)) (by (with_reducible repeat (first | refine blk_drewN ?_ _ | refine blk_drew ?_ | refine blk_alloc ?_ _)); exact BK340.out) hb); have n3_ := Aside0.mk (below_step (by repeat (first | (with_reducible first | exact HB.out | apply below_alloc | apply pw_below_drewN | apply below_drew1 | refine below_set ?_ GE338.out | refine below_set ?_ GE339.out | refine below_set ?_ GE340.out) | exact HB.out)) hb); clear BK338; clear BK339; clear BK340; clear HB; have BK338 := n0_; have BK339 := n1_; have BK340 := n2_; have HB := n3_; clear n0_ n1_ n2_ n3_; (try clear hb); (try clear hb2); (try clear hk); (try clear hi); have q126 : ((ji115) : Int) ≤ ((l3.length : Int) : Int) := of_decide_eq_true (by first | (with_reducible assumption) | assumption); obtain ⟨i0126, hi0126, _, hsz126, _⟩ := info_parts info23; have hroom126 : l3.length ≤ c3 := HC3.out; have hC126 : Kd.C k23 _ A3 l3.length l3 := HR3.out; have q0126 : (0 : Int) ≤ ((ji115) : Int) := of_decide_eq_true (by first | (with_reducible assumption) | assumption); have hcut126 := cut_from (P := Try.prog) 24 23 .i64 Try.underlying24 hi0126 4 hsz126 A3 l3.length c3 (ji115) q0126 q126; have hr126 := Kd.C_drop (m := ((ji115) : Int).toNat) (c := c3) hC126 (by omega) hroom126; obtain ⟨A126, hA126⟩ : ∃ A1, A1 = (if c3 = ((ji115) : Int).toNat then A3 else (A3 : Option Addr).map (·.add (((ji115) : Int).toNat * 4))) := ⟨_, rfl⟩; obtain ⟨c126, hc126⟩ : ∃ c1, c1 = c3 - ((ji115) : Int).toNat := ⟨_, rfl⟩; have hy126 : y359.length = l3.length - ((ji115) : Int).toNat := (by rw [Ny359.out, List.length_drop] <;> omega); rw [show (l3).drop ((ji115) : Int).toNat = y359 from Ny359.out.symm] at hr126; replace hr126 : Kd.C k23 _ A126 y359.length y359 := (by rw [hA126]; exact hr126); rw [← hy126, ← hA126, ← hc126] at hcut126; have HR362 := Aside0.mk hr126; have HC362 := Aside0.mk (show y359.length ≤ c126 from by rw [hy126, hc126]; exact Nat.sub_le_sub_right hroom126 _); clear hr126 hC126 hroom126 hi0126 hsz126 hc126; have KY126 := Aside0.mk hy126; have KA126 := Aside0.mk hA126; clear hy126 hA126; replace q126 := eq_true q126) | (go_at_call 21; (with_reducible refine (entry_Sorted.calls kj27 _ _ y359 t363 _ ?side1 ?side2 A122.out).mono ?_); (case side1 => repeat (first | exact (Kd.C_below HR362.out HB.out) | (with_reducible refine Kd.C_alloc ?_ _) | (with_reducible refine Kd.C_drewN ?_ _) | (with_reducible refine Kd.C_drew ?_))); (case side2 => exact HC362.out); rintro e w127 ⟨rfl, hb⟩; have n0_ := Aside0.mk (blk_below (g := gb338) (o := .cells #[.string a0_0, .int .i64 a0_1, .bool a0_2, .string a0_3] 23 (0, 0)) (by (with_reducible repeat (first | refine blk_drewN ?_ _ | refine blk_drew ?_ | refine blk_alloc ?_ _)); exact BK338.out) hb); have n1_ := Aside0.mk (blk_below (g := gb339) (o := .cells #[.string a1_0, .int .i64 a1_1, .bool a1_2, .string a1_3] 23 (0, 0)) (by (with_reducible repeat (first | refine blk_drewN ?_ _ | refine blk_drew ?_ | refine blk_alloc ?_ _)); exact BK339.out) hb); have n2_ := Aside0.mk (blk_below (g := gb340) (o := .cells #[.string a2_0, .int .i64 a2_1, .bool a2_2, .string a2_3] 23 (0, 0)) (by (with_reducible repeat (first | refine blk_drewN ?_ _ | refine blk_drew ?_ | refine blk_alloc ?_ _)); exact BK340.out) hb); have n3_ := Aside0.mk (below_step (by repeat (first | (with_reducible first | exact HB.out | apply below_alloc | apply pw_below_drewN | apply below_drew1 | refine below_set ?_ GE338.out | refine below_set ?_ GE339.out | refine below_set ?_ GE340.out) | exact HB.out)) hb); clear BK338; clear BK339; clear BK340; clear HB; have BK338 := n0_; have BK339 := n1_; have BK340 := n2_; have HB := n3_; clear n0_ n1_ n2_ n3_; (try clear hb); (try clear hb2); (try clear hk); (try clear hi)))
                            go_ret
                            exact ⟨by first | rfl | (simp [errW_none, errW_some] <;> rfl) | (simp only [← hji115]; first | rfl | (simp [errW_none, errW_some] <;> rfl)) | (simp [*, errW_none, errW_some] <;> rfl), by repeat (first | (with_reducible first | exact HB.out | apply below_alloc | apply pw_below_drewN | apply below_drew1 | refine below_set ?_ GE338.out | refine below_set ?_ GE339.out | refine below_set ?_ GE340.out) | exact HB.out)⟩
                          · replace c119 := Bool.eq_false_iff.mpr c119
                            subst c119
                            have H1 : (some false) = some r := by rw [if_neg (show ¬ (false = true) by decide)] at H; exact H
                            clear H
                            have H := H1
                            clear H1
                            exact absurd ((Option.some.inj H).trans HR_.out) (by decide)
                        · rw [if_neg c117] at H
                          exact absurd H (by simp)
                      · rw [if_neg c116] at H
                        exact absurd H (by simp)
                    · replace c114 := Bool.eq_false_iff.mpr c114
                      subst c114
                      have H1 : (some true) = some r := by rw [if_neg (show ¬ (false = true) by decide)] at H; exact H
                      clear H
                      have H := H1
                      clear H1
                      obtain rfl := Option.some.inj H
                      go_wp2_with (first | ((with_reducible refine gate_callee (f := 21) rfl ?_); refine goesL_ (some 79) rfl rfl Try.func21 (by kernel_rfl) rfl #[.slice A3 l3.length c3] rfl (by (try simp only [List.map_toArray, List.map_cons, List.map_nil]); first | done | rfl | (simp only [List.length_drop, List.length_take]; rfl)) ?_; (with_reducible refine (entry_Sorted.calls kj27 _ _ l3 false _ ?side1 ?side2 A113.out).mono ?_); (case side1 => repeat (first | exact (Kd.C_below HR3.out HB.out) | (with_reducible refine Kd.C_alloc ?_ _) | (with_reducible refine Kd.C_drewN ?_ _) | (with_reducible refine Kd.C_drew ?_))); (case side2 => exact HC3.out); rintro e w128 ⟨rfl, hb⟩; refine ⟨_, rfl, ?_⟩; have n0_ := Aside0.mk (blk_below (g := gb338) (o := .cells #[.string a0_0, .int .i64 a0_1, .bool a0_2, .string a0_3] 23 (0, 0)) (by (with_reducible repeat (first | refine blk_drewN ?_ _ | refine blk_drew ?_ | refine blk_alloc ?_ _)); exact BK338.out) hb); have n1_ := Aside0.mk (blk_below (g := gb339) (o := .cells #[.string a1_0, .int .i64 a1_1, .bool a1_2, .string a1_3] 23 (0, 0)) (by (with_reducible repeat (first | refine blk_drewN ?_ _ | refine blk_drew ?_ | refine blk_alloc ?_ _)); exact BK339.out) hb); have n2_ := Aside0.mk (blk_below (g := gb340) (o := .cells #[.string a2_0, .int .i64 a2_1, .bool a2_2, .string a2_3] 23 (0, 0)) (by (with_reducible repeat (first | refine blk_drewN ?_ _ | refine blk_drew ?_ | refine blk_alloc ?_ _)); exact BK340.out) hb); have n3_ := Aside0.mk (below_step (by repeat (first | (with_reducible first | exact HB.out | apply below_alloc | apply pw_below_drewN | apply below_drew1 | refine below_set ?_ GE338.out | refine below_set ?_ GE339.out | refine below_set ?_ GE340.out) | exact HB.out)) hb); clear BK338; clear BK339; clear BK340; clear HB; have BK338 := n0_; have BK339 := n1_; have BK340 := n2_; have HB := n3_; clear n0_ n1_ n2_ n3_; (try clear hb); (try clear hb2); (try clear hk); (try clear hi)))
                      go_ret
                      exact ⟨by first | rfl | (simp [errW_none, errW_some] <;> rfl) | (simp [*, errW_none, errW_some] <;> rfl), by repeat (first | (with_reducible first | exact HB.out | apply below_alloc | apply pw_below_drewN | apply below_drew1 | refine below_set ?_ GE338.out | refine below_set ?_ GE339.out | refine below_set ?_ GE340.out) | exact HB.out)⟩
                · rw [if_neg c111] at H
                  have c111b0 : decide (0 < (l3.length : Int)) = false := decide_eq_false c111
                  have c111b1 : decide (0 < l3.length) = false := decide_eq_false (by omega)
                  clear c111
                  replace H := Option.bind_eq_some_iff.mp H
                  obtain ⟨t364, A1290, H⟩ := H
                  replace H : (if t364 = true then (if 0 ≤ (l3.length : Int) then ((entry_Sorted.f kj27 (l3.take 0)).bind fun t369 => (if t369 = true then ((entry_Sorted.f kj27 (l3.drop 0)).bind fun t374 => (some t374)) else (some false))) else (none)) else (some true)) = some r := H
                  have A129 := Aside0.mk A1290
                  clear A1290
                  by_cases c130 : t364 = true
                  · subst c130
                    have H1 : (if 0 ≤ (l3.length : Int) then ((entry_Sorted.f kj27 (l3.take 0)).bind fun t369 => (if t369 = true then ((entry_Sorted.f kj27 (l3.drop 0)).bind fun t374 => (some t374)) else (some false))) else (none)) = some r := by rw [if_pos rfl] at H; exact H
                    clear H
                    have H := H1
                    clear H1
                    by_cases c131 : 0 ≤ (l3.length : Int)
                    · rw [if_pos c131] at H
                      have c131b0 := eq_true c131
                      have c131b1 : decide (0 ≤ (l3.length : Int)) = true := decide_eq_true c131
                      clear c131
                      obtain ⟨y365, hy365⟩ : ∃ y_ : List (S23), y_ = (l3.take 0) := ⟨_, rfl⟩
                      replace H : ((entry_Sorted.f kj27 y365).bind fun t369 => (if t369 = true then ((entry_Sorted.f kj27 (l3.drop 0)).bind fun t374 => (some t374)) else (some false))) = some r := by first | (rw [hy365]; with_reducible exact H) | (have H2_ := (Option.bind_some _ _).symm.trans H; rw [hy365]; with_reducible exact H2_) | (have H2_ := (Option.bind_some _ _).symm.trans H; with_reducible exact H2_) | with_reducible exact H | (rw [hy365]; exact H) | exact H
                      have Ny365 := Aside0.mk hy365
                      clear hy365
                      replace H := Option.bind_eq_some_iff.mp H
                      obtain ⟨t369, A1320, H⟩ := H
                      replace H : (if t369 = true then ((entry_Sorted.f kj27 (l3.drop 0)).bind fun t374 => (some t374)) else (some false)) = some r := H
                      have A132 := Aside0.mk A1320
                      clear A1320
                      by_cases c133 : t369 = true
                      · subst c133
                        have H1 : ((entry_Sorted.f kj27 (l3.drop 0)).bind fun t374 => (some t374)) = some r := by rw [if_pos rfl] at H; exact H
                        clear H
                        have H := H1
                        clear H1
                        have c134b0 := eq_true (of_decide_eq_true (by first | (with_reducible assumption) | assumption) : 0 ≤ (l3.length : Int))
                        obtain ⟨y370, hy370⟩ : ∃ y_ : List (S23), y_ = (l3.drop 0) := ⟨_, rfl⟩
                        replace H : ((entry_Sorted.f kj27 y370).bind fun t374 => (some t374)) = some r := by first | (rw [hy370]; with_reducible exact H) | (have H2_ := (Option.bind_some _ _).symm.trans H; rw [hy370]; with_reducible exact H2_) | (have H2_ := (Option.bind_some _ _).symm.trans H; with_reducible exact H2_) | with_reducible exact H | (rw [hy370]; exact H) | exact H
                        have Ny370 := Aside0.mk hy370
                        clear hy370
                        replace H := Option.bind_eq_some_iff.mp H
                        obtain ⟨t374, A1350, H⟩ := H
                        replace H : (some t374) = some r := H
                        have A135 := Aside0.mk A1350
                        clear A1350
                        obtain rfl := Option.some.inj H
                        go_wp2_with (first | ((with_reducible refine gate_callee (f := 21) rfl ?_); refine goesL_ (some 79) rfl rfl Try.func21 (by kernel_rfl) rfl #[.slice A3 l3.length c3] rfl (by (try simp only [List.map_toArray, List.map_cons, List.map_nil]); first | done | rfl | (simp only [List.length_drop, List.length_take]; rfl)) ?_; (with_reducible refine (entry_Sorted.calls kj27 _ _ l3 true _ ?side1 ?side2 A129.out).mono ?_); (case side1 => repeat (first | exact (Kd.C_below HR3.out HB.out) | (with_reducible refine Kd.C_alloc ?_ _) | (with_reducible refine Kd.C_drewN ?_ _) | (with_reducible refine Kd.C_drew ?_))); (case side2 => exact HC3.out); rintro e w136 ⟨rfl, hb⟩; refine ⟨_, rfl, ?_⟩; have n0_ := Aside0.mk (blk_below (g := gb338) (o := .cells #[.string a0_0, .int .i64 a0_1, .bool a0_2, .string a0_3] 23 (0, 0)) (by (with_reducible repeat (first | refine blk_drewN ?_ _ | refine blk_drew ?_ | refine blk_alloc ?_ _)); exact BK338.out) hb); have n1_ := Aside0.mk (blk_below (g := gb339) (o := .cells #[.string a1_0, .int .i64 a1_1, .bool a1_2, .string a1_3] 23 (0, 0)) (by (with_reducible repeat (first | refine blk_drewN ?_ _ | refine blk_drew ?_ | refine blk_alloc ?_ _)); exact BK339.out) hb); have n2_ := Aside0.mk (blk_below (g := gb340) (o := .cells #[.string a2_0, .int .i64 a2_1, .bool a2_2, .string a2_3] 23 (0, 0)) (by (with_reducible repeat (first | refine blk_drewN ?_ _ | refine blk_drew ?_ | refine blk_alloc ?_ _)); exact BK340.out) hb); have n3_ := Aside0.mk (below_step (by repeat (first | (with_reducible first | exact HB.out | apply below_alloc | apply pw_below_drewN | apply below_drew1 | refine below_set ?_ GE338.out | refine below_set ?_ GE339.out | refine below_set ?_ GE340.out) | exact HB.out)) hb); clear BK338; clear BK339; clear BK340; clear HB; have BK338 := n0_; have BK339 := n1_; have BK340 := n2_; have HB := n3_; clear n0_ n1_ n2_ n3_; (try clear hb); (try clear hb2); (try clear hk); (try clear hi); have q137 : (0 : Int) ≤ ((l3.length : Int) : Int) := of_decide_eq_true (by first | (with_reducible assumption) | assumption); obtain ⟨i0137, hi0137, _, hsz137, _⟩ := info_parts info23; have hroom137 : l3.length ≤ c3 := HC3.out; have hC137 : Kd.C k23 _ A3 l3.length l3 := HR3.out; have hcut137 := cut_to (P := Try.prog) 24 23 .i64 Try.underlying24 hi0137 A3 l3.length c3 0 (by omega) q137 hroom137; have hr137 := Kd.C_take (m := 0) hC137 (by omega); have hy137 : y365.length = (0 : Int).toNat := (by rw [Ny365.out, List.length_take]; omega); rw [← Ny365.out] at hr137; rw [← hy137] at hcut137; have HR368 := Aside0.mk hr137; have HC368 := Aside0.mk (show y365.length ≤ c3 from by omega); clear hr137 hC137 hroom137 hi0137 hsz137; have KY137 := Aside0.mk hy137; clear hy137; replace q137 := eq_true q137) | (go_at_call 21; (with_reducible refine (entry_Sorted.calls kj27 _ _ y365 true _ ?side1 ?side2 A132.out).mono ?_); (case side1 => repeat (first | exact (Kd.C_below HR368.out HB.out) | (with_reducible refine Kd.C_alloc ?_ _) | (with_reducible refine Kd.C_drewN ?_ _) | (with_reducible refine Kd.C_drew ?_))); (case side2 => exact HC368.out); rintro e w138 ⟨rfl, hb⟩; have n0_ := Aside0.mk (blk_below (g := gb338) (o := .cells #[.string a0_0, .int .i64 a0_1, .bool a0_2, .string a0_3] 23 (0, 0)) (by (with_reducible repeat (first | refine blk_drewN ?_ _ | refine blk_drew ?_ | refine blk_alloc ?_ _)); exact BK338.out) hb); have n1_ := Aside0.mk (blk_below (g := gb339) (o := .cells #[.string a1_0, .int .i64 a1_1, .bool a1_2, .string a1_3] 23 (0, 0)) (by (with_reducible repeat (first | refine blk_drewN ?_ _ | refine blk_drew ?_ | refine blk_alloc ?_ _)); exact BK339.out) hb); have n2_ := Aside0.mk (blk_below (g := gb340) (o := .cells #[.string a2_0, .int .i64 a2_1, .bool a2_2, .string a2_3] 23 (0, 0)) (by (with_reducible repeat (first | refine blk_drewN ?_ _ | refine blk_drew ?_ | refine blk_alloc ?_ _)); exact BK340.out) hb); have n3_ := Aside0.mk (below_step (by repeat (first | (with_reducible first | exact HB.out | apply below_alloc | apply pw_below_drewN | apply below_drew1 | refine below_set ?_ GE338.out | refine below_set ?_ GE339.out | refine below_set ?_ GE340.out) | exact HB.out)) hb); clear BK338; clear BK339; clear BK340; clear HB; have BK338 := n0_; have BK339 := n1_; have BK340 := n2_; have HB := n3_; clear n0_ n1_ n2_ n3_; (try clear hb); (try clear hb2); (try clear hk); (try clear hi); have q139 : (0 : Int) ≤ ((l3.length : Int) : Int) := of_decide_eq_true (by first | (with_reducible assumption) | assumption); obtain ⟨i0139, hi0139, _, hsz139, _⟩ := info_parts info23; have hroom139 : l3.length ≤ c3 := HC3.out; have hC139 : Kd.C k23 _ A3 l3.length l3 := HR3.out; have hcut139 := cut_from (P := Try.prog) 24 23 .i64 Try.underlying24 hi0139 4 hsz139 A3 l3.length c3 0 (by omega) q139; have hr139 := Kd.C_drop (m := (0 : Int).toNat) (c := c3) hC139 (by omega) hroom139; obtain ⟨A139, hA139⟩ : ∃ A1, A1 = (if c3 = (0 : Int).toNat then A3 else (A3 : Option Addr).map (·.add ((0 : Int).toNat * 4))) := ⟨_, rfl⟩; obtain ⟨c139, hc139⟩ : ∃ c1, c1 = c3 - (0 : Int).toNat := ⟨_, rfl⟩; have hy139 : y370.length = l3.length - (0 : Int).toNat := (by rw [Ny370.out, List.length_drop] <;> omega); rw [show (l3).drop (0 : Int).toNat = y370 from Ny370.out.symm] at hr139; replace hr139 : Kd.C k23 _ A139 y370.length y370 := (by rw [hA139]; exact hr139); rw [← hy139, ← hA139, ← hc139] at hcut139; have HR373 := Aside0.mk hr139; have HC373 := Aside0.mk (show y370.length ≤ c139 from by rw [hy139, hc139]; exact Nat.sub_le_sub_right hroom139 _); clear hr139 hC139 hroom139 hi0139 hsz139 hc139; have KY139 := Aside0.mk hy139; have KA139 := Aside0.mk hA139; clear hy139 hA139; replace q139 := eq_true q139) | (go_at_call 21; (with_reducible refine (entry_Sorted.calls kj27 _ _ y370 t374 _ ?side1 ?side2 A135.out).mono ?_); (case side1 => repeat (first | exact (Kd.C_below HR373.out HB.out) | (with_reducible refine Kd.C_alloc ?_ _) | (with_reducible refine Kd.C_drewN ?_ _) | (with_reducible refine Kd.C_drew ?_))); (case side2 => exact HC373.out); rintro e w140 ⟨rfl, hb⟩; have n0_ := Aside0.mk (blk_below (g := gb338) (o := .cells #[.string a0_0, .int .i64 a0_1, .bool a0_2, .string a0_3] 23 (0, 0)) (by (with_reducible repeat (first | refine blk_drewN ?_ _ | refine blk_drew ?_ | refine blk_alloc ?_ _)); exact BK338.out) hb); have n1_ := Aside0.mk (blk_below (g := gb339) (o := .cells #[.string a1_0, .int .i64 a1_1, .bool a1_2, .string a1_3] 23 (0, 0)) (by (with_reducible repeat (first | refine blk_drewN ?_ _ | refine blk_drew ?_ | refine blk_alloc ?_ _)); exact BK339.out) hb); have n2_ := Aside0.mk (blk_below (g := gb340) (o := .cells #[.string a2_0, .int .i64 a2_1, .bool a2_2, .string a2_3] 23 (0, 0)) (by (with_reducible repeat (first | refine blk_drewN ?_ _ | refine blk_drew ?_ | refine blk_alloc ?_ _)); exact BK340.out) hb); have n3_ := Aside0.mk (below_step (by repeat (first | (with_reducible first | exact HB.out | apply below_alloc | apply pw_below_drewN | apply below_drew1 | refine below_set ?_ GE338.out | refine below_set ?_ GE339.out | refine below_set ?_ GE340.out) | exact HB.out)) hb); clear BK338; clear BK339; clear BK340; clear HB; have BK338 := n0_; have BK339 := n1_; have BK340 := n2_; have HB := n3_; clear n0_ n1_ n2_ n3_; (try clear hb); (try clear hb2); (try clear hk); (try clear hi)))
                        go_ret
                        exact ⟨by first | rfl | (simp [errW_none, errW_some] <;> rfl) | (simp [*, errW_none, errW_some] <;> rfl), by repeat (first | (with_reducible first | exact HB.out | apply below_alloc | apply pw_below_drewN | apply below_drew1 | refine below_set ?_ GE338.out | refine below_set ?_ GE339.out | refine below_set ?_ GE340.out) | exact HB.out)⟩
                      · replace c133 := Bool.eq_false_iff.mpr c133
                        subst c133
                        have H1 : (some false) = some r := by rw [if_neg (show ¬ (false = true) by decide)] at H; exact H
                        clear H
                        have H := H1
                        clear H1
                        exact absurd ((Option.some.inj H).trans HR_.out) (by decide)
                    · rw [if_neg c131] at H
                      exact absurd H (by simp)
                  · replace c130 := Bool.eq_false_iff.mpr c130
                    subst c130
                    have H1 : (some true) = some r := by rw [if_neg (show ¬ (false = true) by decide)] at H; exact H
                    clear H
                    have H := H1
                    clear H1
                    obtain rfl := Option.some.inj H
                    go_wp2_with (first | ((with_reducible refine gate_callee (f := 21) rfl ?_); refine goesL_ (some 79) rfl rfl Try.func21 (by kernel_rfl) rfl #[.slice A3 l3.length c3] rfl (by (try simp only [List.map_toArray, List.map_cons, List.map_nil]); first | done | rfl | (simp only [List.length_drop, List.length_take]; rfl)) ?_; (with_reducible refine (entry_Sorted.calls kj27 _ _ l3 false _ ?side1 ?side2 A129.out).mono ?_); (case side1 => repeat (first | exact (Kd.C_below HR3.out HB.out) | (with_reducible refine Kd.C_alloc ?_ _) | (with_reducible refine Kd.C_drewN ?_ _) | (with_reducible refine Kd.C_drew ?_))); (case side2 => exact HC3.out); rintro e w141 ⟨rfl, hb⟩; refine ⟨_, rfl, ?_⟩; have n0_ := Aside0.mk (blk_below (g := gb338) (o := .cells #[.string a0_0, .int .i64 a0_1, .bool a0_2, .string a0_3] 23 (0, 0)) (by (with_reducible repeat (first | refine blk_drewN ?_ _ | refine blk_drew ?_ | refine blk_alloc ?_ _)); exact BK338.out) hb); have n1_ := Aside0.mk (blk_below (g := gb339) (o := .cells #[.string a1_0, .int .i64 a1_1, .bool a1_2, .string a1_3] 23 (0, 0)) (by (with_reducible repeat (first | refine blk_drewN ?_ _ | refine blk_drew ?_ | refine blk_alloc ?_ _)); exact BK339.out) hb); have n2_ := Aside0.mk (blk_below (g := gb340) (o := .cells #[.string a2_0, .int .i64 a2_1, .bool a2_2, .string a2_3] 23 (0, 0)) (by (with_reducible repeat (first | refine blk_drewN ?_ _ | refine blk_drew ?_ | refine blk_alloc ?_ _)); exact BK340.out) hb); have n3_ := Aside0.mk (below_step (by repeat (first | (with_reducible first | exact HB.out | apply below_alloc | apply pw_below_drewN | apply below_drew1 | refine below_set ?_ GE338.out | refine below_set ?_ GE339.out | refine below_set ?_ GE340.out) | exact HB.out)) hb); clear BK338; clear BK339; clear BK340; clear HB; have BK338 := n0_; have BK339 := n1_; have BK340 := n2_; have HB := n3_; clear n0_ n1_ n2_ n3_; (try clear hb); (try clear hb2); (try clear hk); (try clear hi)))
                    go_ret
                    exact ⟨by first | rfl | (simp [errW_none, errW_some] <;> rfl) | (simp [*, errW_none, errW_some] <;> rfl), by repeat (first | (with_reducible first | exact HB.out | apply below_alloc | apply pw_below_drewN | apply below_drew1 | refine below_set ?_ GE338.out | refine below_set ?_ GE339.out | refine below_set ?_ GE340.out) | exact HB.out)⟩
  · replace c7 := Bool.eq_false_iff.mpr c7
    subst c7
    have H1 : (some false) = some r := by rw [if_neg (show ¬ (false = true) by decide)] at H; exact H
    clear H
    have H := H1
    clear H1
    exact absurd ((Option.some.inj H).trans HR_.out) (by decide)
def ravelinlaw6_EntryOrders.Pure : Prop := ∀ (a0_0 : ByteArray) (a0_1 : Int) (a0_2 : Bool) (a0_3 : ByteArray) (a1_0 : ByteArray) (a1_1 : Int) (a1_2 : Bool) (a1_3 : ByteArray) (a2_0 : ByteArray) (a2_1 : Int) (a2_2 : Bool) (a2_3 : ByteArray) (l3 : List (S23)) (a4 : Int), a0_0.size ≤ 9223372036854775807 → (Lit.int .i64 a0_1).wf = true → a0_3.size ≤ 9223372036854775807 → a1_0.size ≤ 9223372036854775807 → (Lit.int .i64 a1_1).wf = true → a1_3.size ≤ 9223372036854775807 → a2_0.size ≤ 9223372036854775807 → (Lit.int .i64 a2_1).wf = true → a2_3.size ≤ 9223372036854775807 → l3.length ≤ 9223372036854775807 → (∀ y_ ∈ l3, (y_.f0.size ≤ 9223372036854775807 ∧ (Lit.int .i64 y_.f1).wf = true ∧ True ∧ y_.f3.size ≤ 9223372036854775807)) → (Lit.int .u8 a4).wf = true → ∃ k, ravelinlaw6_EntryOrders.f k a0_0 a0_1 a0_2 a0_3 a1_0 a1_1 a1_2 a1_3 a2_0 a2_1 a2_2 a2_3 l3 a4 = some true

end Go.Proofs.Ytggmgenofmfdpaa.P
