-- Printed by a changed copy of the kit's printer (wip/tools/ext.py); labels and more
import Derived.Test.YtggmgenofmfdpaaM0
import Derived.Test.YtggmgenofmfdpaaM2
import Derived.Test.YtggmgenofmfdpaaM4
import Derived.Test.YtggmgenofmfdpaaM5
import Derived.Test.YtggmgenofmfdpaaM6
namespace Go.Proofs.Ytggmgenofmfdpaa.P
open Go.RowKit Go.Proofs.YtggmgenofmfdpaaW.PrintWords Go.Proofs.YtggmgenofmfdpaaW.PrintLast Go.Proofs.YtggmgenofmfdpaaW.PrintMore
attribute [local go_sem] max2_int min2_int max_two min_two max_three min_three max_four min_four   -- for this text's walks alone
set_option linter.unusedVariables false
set_option linter.unusedSimpArgs false

attribute [local go_sem high] eqA23
/-! ### ravelinlaw6_EntryBack: function 4 -/
def ravelinlaw6_EntryBack.j0 : Nat → ByteArray → Int → Bool → ByteArray → Int → Bool → ByteArray → ByteArray → Int → Bool → ByteArray → Option (Bool)
  | 0, _, _, _, _, _, _, _, _, _, _, _ => none
  | k + 1, x2, x3, x37, x314000, x314001, x314002, x314003, x315000, x315001, x315002, x315003 => if x37 = true then (some true) else ((entry_Bytes.f k x314000 x314001 x314002 x314003).bind fun t322 => (if t322.size + x2.size ≤ 9223372036854775807 then ((entry_Read.f k (t322 ++ x2)).bind fun bt323 => (if (t322.size : Int) = 0 then (some false) else (if 0 ≤ (Int.tmod (wrap64 (x3)) (t322.size : Int)) then (if (Int.tmod (wrap64 (x3)) (t322.size : Int)) ≤ (t322.size : Int) then ((entry_Read.f k (t322.extract 0 ((Int.tmod (wrap64 (x3)) (t322.size : Int)) : Int).toNat)).bind fun bt330 => (if bt323.2.2.2.2.2 = 0 then (if (bt323.1.toList == x314000.toList && (bt323.2.1 == x314001 && (bt323.2.2.1 == x314002 && (bt323.2.2.2.1.toList == x314003.toList)))) = true then (if bt323.2.2.2.2.1 = (t322.size : Int) then (if bt330.2.2.2.2.2 = 12 then ((entry_Bytes.f k x315000 x315001 x315002 x315003).bind fun t337 => (some ((t337.toList == t322.toList) == (x314000.toList == x315000.toList && (x314001 == x315001 && (x314002 == x315002 && (x314003.toList == x315003.toList))))))) else (some false)) else (some false)) else (some false)) else (some false))) else (none)) else (none)))) else (none)))
def ravelinlaw6_EntryBack.f (k : Nat) (a0_0 : ByteArray) (a0_1 : Int) (a0_2 : Bool) (a0_3 : ByteArray) (a1_0 : ByteArray) (a1_1 : Int) (a1_2 : Bool) (a1_3 : ByteArray) (a2 : ByteArray) (a3 : Int) : Option (Bool) := (ravelinlaw6_known.f k).bind fun t315 => (if t315 = true then ((ravelinlaw6_few.f k (([(⟨a0_0, a0_1, a0_2, a0_3⟩ : S23), (⟨a1_0, a1_1, a1_2, a1_3⟩ : S23)] : List (S23)))).bind fun t319 => (if t319 = true then ((entry_Is.f a0_0 a0_1 a0_2 a0_3).bind fun t320 => (if t320 = true then ((entry_Is.f a1_0 a1_1 a1_2 a1_3).bind fun t321 => (if t321 = true then (ravelinlaw6_EntryBack.j0 k a2 a3 (decide ((a2.size : Int) > 100)) a0_0 a0_1 a0_2 a0_3 a1_0 a1_1 a1_2 a1_3) else (ravelinlaw6_EntryBack.j0 k a2 a3 true a0_0 a0_1 a0_2 a0_3 a1_0 a1_1 a1_2 a1_3))) else (ravelinlaw6_EntryBack.j0 k a2 a3 true a0_0 a0_1 a0_2 a0_3 a1_0 a1_1 a1_2 a1_3))) else (ravelinlaw6_EntryBack.j0 k a2 a3 true a0_0 a0_1 a0_2 a0_3 a1_0 a1_1 a1_2 a1_3))) else (some false))
theorem ravelinlaw6_EntryBack.mono_l : ∀ k, (∀ y0 y1 y2 y3 y4 y5 y6 y7 y8 y9 y10, LeO (ravelinlaw6_EntryBack.j0 k y0 y1 y2 y3 y4 y5 y6 y7 y8 y9 y10) (ravelinlaw6_EntryBack.j0 (k + 1) y0 y1 y2 y3 y4 y5 y6 y7 y8 y9 y10))
  | 0 => fun _ _ _ _ _ _ _ _ _ _ _ r h => by simp [ravelinlaw6_EntryBack.j0] at h
  | k + 1 => by
    have ih0 := ravelinlaw6_EntryBack.mono_l k
    · intro y0 y1 y2 y3 y4 y5 y6 y7 y8 y9 y10
      unfold ravelinlaw6_EntryBack.j0
      repeat' first
      | (with_reducible exact ih0 _ _ _ _ _ _ _ _ _ _ _)
      | (with_reducible exact entry_Bytes.mono _ _ _ _ _)
      | (with_reducible exact entry_Read.mono _ _)
      | (with_reducible exact ravelinlaw6_few.mono _ _)
      | (with_reducible exact ravelinlaw6_known.mono _)
      | (with_reducible exact LeO.refl _)
      | (with_reducible exact LeO.none _)
      | (with_reducible refine LeO.ite ?_ ?_)
      | (with_reducible refine LeO.bind ?_ (fun _ => ?_))
      | exact ih0 _ _ _ _ _ _ _ _ _ _ _
      | exact entry_Bytes.mono _ _ _ _ _
      | exact entry_Read.mono _ _
      | exact ravelinlaw6_few.mono _ _
      | exact ravelinlaw6_known.mono _
      | exact LeO.none _
      | refine LeO.ite ?_ ?_
      | refine LeO.bind ?_ (fun _ => ?_)
theorem ravelinlaw6_EntryBack.mono : ∀ a0 a1 a2 a3 a4 a5 a6 a7 a8 a9 k, LeO (ravelinlaw6_EntryBack.f k a0 a1 a2 a3 a4 a5 a6 a7 a8 a9) (ravelinlaw6_EntryBack.f (k + 1) a0 a1 a2 a3 a4 a5 a6 a7 a8 a9) := by
  intro a0 a1 a2 a3 a4 a5 a6 a7 a8 a9 k
  have ih0 := ravelinlaw6_EntryBack.mono_l k
  unfold ravelinlaw6_EntryBack.f
  repeat' first
      | (with_reducible exact ih0 _ _ _ _ _ _ _ _ _ _ _)
      | (with_reducible exact entry_Bytes.mono _ _ _ _ _)
      | (with_reducible exact entry_Read.mono _ _)
      | (with_reducible exact ravelinlaw6_few.mono _ _)
      | (with_reducible exact ravelinlaw6_known.mono _)
      | (with_reducible exact LeO.refl _)
      | (with_reducible exact LeO.none _)
      | (with_reducible refine LeO.ite ?_ ?_)
      | (with_reducible refine LeO.bind ?_ (fun _ => ?_))
      | exact ih0 _ _ _ _ _ _ _ _ _ _ _
      | exact entry_Bytes.mono _ _ _ _ _
      | exact entry_Read.mono _ _
      | exact ravelinlaw6_few.mono _ _
      | exact ravelinlaw6_known.mono _
      | exact LeO.none _
      | refine LeO.ite ?_ ?_
      | refine LeO.bind ?_ (fun _ => ?_)
def ravelinlaw6_EntryBack.T10 : Bool × List (List Nat × List Nat) := (true, [([], []), ([0], [0]), ([1], [1]), ([2], [2]), ([2], [2]), ([3, 4, 2], [2, 3, 4]), ([2, 5], [2, 5]), ([6, 2], [6]), ([7], [7]), ([7], [7]), ([9, 7], [7, 9]), ([8, 10, 7], [7, 8, 10]), ([7, 11], [7, 11]), ([12, 7], [12]), ([13], [13]), ([14, 13], [13, 14]), ([13, 15], [13, 15]), ([16, 13], [16]), ([17], [17]), ([18, 17, 17], [17, 18]), ([17], [17]), ([19, 20, 17], [17, 19, 20]), ([17], [17]), ([17], [17]), ([22, 23, 17], [17, 22, 23]), ([21, 24, 17], [17, 21, 24]), ([17, 25], [17, 25]), ([26, 19, 0, 1, 2, 3, 4, 5, 6, 7, 8, 9, 10, 11, 12, 13, 14, 15, 16, 17, 18, 19, 20, 21, 22, 23, 24, 25, 26], [26])])
def ravelinlaw6_EntryBack.B10 : List Nat := [0, 1, 3, 7, 7, 31, 63, 127, 255, 255, 767, 2047, 4095, 8191, 16383, 32767, 65535, 131071, 262143, 524287, 262143, 2097151, 262143, 262143, 12845055, 33554431, 67108863, 134217727]
theorem ravelinlaw6_EntryBack.tab10 : rtab .any (opsOf Try.f4 10) = ravelinlaw6_EntryBack.T10 := by kernel_rfl
theorem ravelinlaw6_EntryBack.bits10 : waitsOk ravelinlaw6_EntryBack.T10.2 ravelinlaw6_EntryBack.B10 = true := by kernel_rfl
set_option maxHeartbeats 8000000 in
set_option maxRecDepth 100000 in
theorem ravelinlaw6_EntryBack.calls (k : Nat) (a0_0 : ByteArray) (a0_1 : Int) (a0_2 : Bool) (a0_3 : ByteArray) (a1_0 : ByteArray) (a1_1 : Int) (a1_2 : Bool) (a1_3 : ByteArray) (a2 : ByteArray) (a3 : Int) (r : Bool) (w : World) (h : ravelinlaw6_EntryBack.f k a0_0 a0_1 a0_2 a0_3 a1_0 a1_1 a1_2 a1_3 a2 a3 = some r) (hr_ : r = true) :
    Calls Try.prog 4 #[.agg #[.string a0_0, .int .i64 a0_1, .bool a0_2, .string a0_3], .agg #[.string a1_0, .int .i64 a1_1, .bool a1_2, .string a1_3], .string a2, .int .u8 a3] w fun e w' => e = .returned (.bool r) ∧ Below w.heap.size w w' := by
  have hu23 := Try.underlying23
  have HB := Aside0.mk (Below.refl w.heap.size w)
  have H : ((ravelinlaw6_known.f k).bind fun t315 => (if t315 = true then ((ravelinlaw6_few.f k (([(⟨a0_0, a0_1, a0_2, a0_3⟩ : S23), (⟨a1_0, a1_1, a1_2, a1_3⟩ : S23)] : List (S23)))).bind fun t319 => (if t319 = true then ((entry_Is.f a0_0 a0_1 a0_2 a0_3).bind fun t320 => (if t320 = true then ((entry_Is.f a1_0 a1_1 a1_2 a1_3).bind fun t321 => (if t321 = true then (ravelinlaw6_EntryBack.j0 k a2 a3 (decide ((a2.size : Int) > 100)) a0_0 a0_1 a0_2 a0_3 a1_0 a1_1 a1_2 a1_3) else (ravelinlaw6_EntryBack.j0 k a2 a3 true a0_0 a0_1 a0_2 a0_3 a1_0 a1_1 a1_2 a1_3))) else (ravelinlaw6_EntryBack.j0 k a2 a3 true a0_0 a0_1 a0_2 a0_3 a1_0 a1_1 a1_2 a1_3))) else (ravelinlaw6_EntryBack.j0 k a2 a3 true a0_0 a0_1 a0_2 a0_3 a1_0 a1_1 a1_2 a1_3))) else (some false))) = some r := h
  clear h
  have HR_ := Aside0.mk hr_
  clear hr_
  replace H := Option.bind_eq_some_iff.mp H
  obtain ⟨t315, A50, H⟩ := H
  replace H : (if t315 = true then ((ravelinlaw6_few.f k (([(⟨a0_0, a0_1, a0_2, a0_3⟩ : S23), (⟨a1_0, a1_1, a1_2, a1_3⟩ : S23)] : List (S23)))).bind fun t319 => (if t319 = true then ((entry_Is.f a0_0 a0_1 a0_2 a0_3).bind fun t320 => (if t320 = true then ((entry_Is.f a1_0 a1_1 a1_2 a1_3).bind fun t321 => (if t321 = true then (ravelinlaw6_EntryBack.j0 k a2 a3 (decide ((a2.size : Int) > 100)) a0_0 a0_1 a0_2 a0_3 a1_0 a1_1 a1_2 a1_3) else (ravelinlaw6_EntryBack.j0 k a2 a3 true a0_0 a0_1 a0_2 a0_3 a1_0 a1_1 a1_2 a1_3))) else (ravelinlaw6_EntryBack.j0 k a2 a3 true a0_0 a0_1 a0_2 a0_3 a1_0 a1_1 a1_2 a1_3))) else (ravelinlaw6_EntryBack.j0 k a2 a3 true a0_0 a0_1 a0_2 a0_3 a1_0 a1_1 a1_2 a1_3))) else (some false)) = some r := H
  have A5 := Aside0.mk A50
  clear A50
  by_cases c6 : t315 = true
  · subst c6
    have H1 : ((ravelinlaw6_few.f k (([(⟨a0_0, a0_1, a0_2, a0_3⟩ : S23), (⟨a1_0, a1_1, a1_2, a1_3⟩ : S23)] : List (S23)))).bind fun t319 => (if t319 = true then ((entry_Is.f a0_0 a0_1 a0_2 a0_3).bind fun t320 => (if t320 = true then ((entry_Is.f a1_0 a1_1 a1_2 a1_3).bind fun t321 => (if t321 = true then (ravelinlaw6_EntryBack.j0 k a2 a3 (decide ((a2.size : Int) > 100)) a0_0 a0_1 a0_2 a0_3 a1_0 a1_1 a1_2 a1_3) else (ravelinlaw6_EntryBack.j0 k a2 a3 true a0_0 a0_1 a0_2 a0_3 a1_0 a1_1 a1_2 a1_3))) else (ravelinlaw6_EntryBack.j0 k a2 a3 true a0_0 a0_1 a0_2 a0_3 a1_0 a1_1 a1_2 a1_3))) else (ravelinlaw6_EntryBack.j0 k a2 a3 true a0_0 a0_1 a0_2 a0_3 a1_0 a1_1 a1_2 a1_3))) = some r := by rw [if_pos rfl] at H; exact H
    clear H
    have H := H1
    clear H1
    have HC7 := Aside0.mk H
    clear H
    go_enter Try.func4, Try.ntmps4
    go_upto_region 3 with (first | ((with_reducible refine gate_dst (N := 4) rfl ?_); (try (refine gate_guard (by rfl) ?_; dsimp only)); refine box_event ?hg (N := 4) ?hd (cs := #[.string a0_0, .int .i64 a0_1, .bool a0_2, .string a0_3]) (t := 23) ?hr ?_; (case hd => rfl); (case hg => rfl); (case hr => first | (go_simp; done) | (go_simp; rfl)); intro gb313 hg w8 hbox hb; have n0_ := Aside0.mk (below_step (by repeat (first | (with_reducible first | exact HB.out | apply below_alloc | apply pw_below_drewN | apply below_drew1) | exact HB.out)) hb); have n1_ := Aside0.mk (hbox); have n2_ := Aside0.mk ((by rw [hg]; exact (below_size (by repeat (first | (with_reducible first | exact HB.out | apply below_alloc | apply pw_below_drewN | apply below_drew1) | exact HB.out))) : w.heap.size ≤ gb313)); have n3_ := Aside0.mk ((by rw [hg]; exact (below_size (by repeat (first | (with_reducible first | exact HB.out | apply below_alloc | apply pw_below_drewN | apply below_drew1) | exact HB.out))) : w.heap.size ≤ gb313)); clear HB; have HB := n0_; have BK313 := n1_; have GW313 := n2_; have GE313 := n3_; clear n0_ n1_ n2_ n3_; clear hb hbox hg) | ((with_reducible refine gate_dst (N := 5) rfl ?_); (try (refine gate_guard (by rfl) ?_; dsimp only)); refine box_event ?hg (N := 5) ?hd (cs := #[.string a1_0, .int .i64 a1_1, .bool a1_2, .string a1_3]) (t := 23) ?hr ?_; (case hd => rfl); (case hg => rfl); (case hr => first | (go_simp; done) | (go_simp; rfl)); intro gb314 hg w9 hbox hb; have n0_ := Aside0.mk (blk_below (g := gb313) (o := .cells #[.string a0_0, .int .i64 a0_1, .bool a0_2, .string a0_3] 23 (0, 0)) (by (with_reducible repeat (first | refine blk_drewN ?_ _ | refine blk_drew ?_ | refine blk_alloc ?_ _)); exact BK313.out) hb); have n1_ := Aside0.mk (below_step (by repeat (first | (with_reducible first | exact HB.out | apply below_alloc | apply pw_below_drewN | apply below_drew1 | refine below_set ?_ GE313.out) | exact HB.out)) hb); have n2_ := Aside0.mk (hbox); have n3_ := Aside0.mk ((by rw [hg]; exact (below_size (by repeat (first | (with_reducible first | exact HB.out | apply below_alloc | apply pw_below_drewN | apply below_drew1 | refine below_set ?_ GE313.out) | exact HB.out))) : w.heap.size ≤ gb314)); have n4_ := Aside0.mk ((by rw [hg]; exact (below_size (by repeat (first | (with_reducible first | exact HB.out | apply below_alloc | apply pw_below_drewN | apply below_drew1 | refine below_set ?_ GE313.out) | exact HB.out))) : w.heap.size ≤ gb314)); have n5_ := Aside0.mk ((by rw [hg]; exact Nat.ne_of_lt (blk_lt (g := gb313) (o := .cells #[.string a0_0, .int .i64 a0_1, .bool a0_2, .string a0_3] 23 (0, 0)) (by (with_reducible repeat (first | refine blk_drewN ?_ _ | refine blk_drew ?_ | refine blk_alloc ?_ _)); exact BK313.out)) : gb313 ≠ gb314)); have n6_ := Aside0.mk ((by rw [hg]; exact Nat.ne_of_gt (blk_lt (g := gb313) (o := .cells #[.string a0_0, .int .i64 a0_1, .bool a0_2, .string a0_3] 23 (0, 0)) (by (with_reducible repeat (first | refine blk_drewN ?_ _ | refine blk_drew ?_ | refine blk_alloc ?_ _)); exact BK313.out)) : gb314 ≠ gb313)); clear BK313; clear HB; have BK313 := n0_; have HB := n1_; have BK314 := n2_; have GW314 := n3_; have GE314 := n4_; have NB313_314 := n5_; have NB314_313 := n6_; clear n0_ n1_ n2_ n3_ n4_ n5_ n6_; clear hb hbox hg) | ((with_reducible refine gate_callee (f := 9) rfl ?_); refine goesL_ (some 16) rfl rfl Try.func9 (by kernel_rfl) rfl #[] rfl (by (try simp only [List.map_toArray, List.map_cons, List.map_nil]); first | done | rfl | (simp only [List.length_drop, List.length_take]; rfl)) ?_; (with_reducible refine (ravelinlaw6_known.calls k  true _ A5.out (by first | rfl | assumption | exact of_decide_eq_true (by assumption))).mono ?_); rintro e w10 ⟨rfl, hb⟩; refine ⟨_, rfl, ?_⟩; have n0_ := Aside0.mk (blk_below (g := gb313) (o := .cells #[.string a0_0, .int .i64 a0_1, .bool a0_2, .string a0_3] 23 (0, 0)) (by (with_reducible repeat (first | refine blk_drewN ?_ _ | refine blk_drew ?_ | refine blk_alloc ?_ _)); exact BK313.out) hb); have n1_ := Aside0.mk (blk_below (g := gb314) (o := .cells #[.string a1_0, .int .i64 a1_1, .bool a1_2, .string a1_3] 23 (0, 0)) (by (with_reducible repeat (first | refine blk_drewN ?_ _ | refine blk_drew ?_ | refine blk_alloc ?_ _)); exact BK314.out) hb); have n2_ := Aside0.mk (below_step (by repeat (first | (with_reducible first | exact HB.out | apply below_alloc | apply pw_below_drewN | apply below_drew1 | refine below_set ?_ GE313.out | refine below_set ?_ GE314.out) | exact HB.out)) hb); clear BK313; clear BK314; clear HB; have BK313 := n0_; have BK314 := n1_; have HB := n2_; clear n0_ n1_ n2_; (try clear hb); (try clear hb2); (try clear hk); (try clear hi)))
    (try simp only [Act.put, List.setIfInBounds_toArray, List.set_cons_zero, List.set_cons_succ])
    go_cut [37] (fun v37 wc => ∃ (kq : Nat) (x37_6 : Bool), v37 = .bool x37_6 ∧ Aside0 (ravelinlaw6_EntryBack.j0 kq a2 a3 x37_6 a0_0 a0_1 a0_2 a0_3 a1_0 a1_1 a1_2 a1_3 = some r) ∧ Aside0 (kq ≤ k) ∧ Aside0 (wc.heap[gb313]? = some (.cells #[.string a0_0, .int .i64 a0_1, .bool a0_2, .string a0_3] 23 (0, 0))) ∧ Aside0 (wc.heap[gb314]? = some (.cells #[.string a1_0, .int .i64 a1_1, .bool a1_2, .string a1_3] 23 (0, 0))) ∧ Aside0 (Below w.heap.size w wc))
    case first =>
      have H := HC7.out
      clear HC7
      obtain ⟨y316, hy316⟩ : ∃ y_ : List (S23), y_ = (([(⟨a0_0, a0_1, a0_2, a0_3⟩ : S23), (⟨a1_0, a1_1, a1_2, a1_3⟩ : S23)] : List (S23))) := ⟨_, rfl⟩
      replace H : ((ravelinlaw6_few.f k y316).bind fun t319 => (if t319 = true then ((entry_Is.f a0_0 a0_1 a0_2 a0_3).bind fun t320 => (if t320 = true then ((entry_Is.f a1_0 a1_1 a1_2 a1_3).bind fun t321 => (if t321 = true then (ravelinlaw6_EntryBack.j0 k a2 a3 (decide ((a2.size : Int) > 100)) a0_0 a0_1 a0_2 a0_3 a1_0 a1_1 a1_2 a1_3) else (ravelinlaw6_EntryBack.j0 k a2 a3 true a0_0 a0_1 a0_2 a0_3 a1_0 a1_1 a1_2 a1_3))) else (ravelinlaw6_EntryBack.j0 k a2 a3 true a0_0 a0_1 a0_2 a0_3 a1_0 a1_1 a1_2 a1_3))) else (ravelinlaw6_EntryBack.j0 k a2 a3 true a0_0 a0_1 a0_2 a0_3 a1_0 a1_1 a1_2 a1_3))) = some r := by first | (rw [hy316]; with_reducible exact H) | (have H2_ := (Option.bind_some _ _).symm.trans H; rw [hy316]; with_reducible exact H2_) | (have H2_ := (Option.bind_some _ _).symm.trans H; with_reducible exact H2_) | with_reducible exact H | (rw [hy316]; exact H) | exact H
      have Ny316 := Aside0.mk hy316
      clear hy316
      replace H := Option.bind_eq_some_iff.mp H
      obtain ⟨t319, A110, H⟩ := H
      replace H : (if t319 = true then ((entry_Is.f a0_0 a0_1 a0_2 a0_3).bind fun t320 => (if t320 = true then ((entry_Is.f a1_0 a1_1 a1_2 a1_3).bind fun t321 => (if t321 = true then (ravelinlaw6_EntryBack.j0 k a2 a3 (decide ((a2.size : Int) > 100)) a0_0 a0_1 a0_2 a0_3 a1_0 a1_1 a1_2 a1_3) else (ravelinlaw6_EntryBack.j0 k a2 a3 true a0_0 a0_1 a0_2 a0_3 a1_0 a1_1 a1_2 a1_3))) else (ravelinlaw6_EntryBack.j0 k a2 a3 true a0_0 a0_1 a0_2 a0_3 a1_0 a1_1 a1_2 a1_3))) else (ravelinlaw6_EntryBack.j0 k a2 a3 true a0_0 a0_1 a0_2 a0_3 a1_0 a1_1 a1_2 a1_3)) = some r := H
      have A11 := Aside0.mk A110
      clear A110
      by_cases c12 : t319 = true
      · subst c12
        have H1 : ((entry_Is.f a0_0 a0_1 a0_2 a0_3).bind fun t320 => (if t320 = true then ((entry_Is.f a1_0 a1_1 a1_2 a1_3).bind fun t321 => (if t321 = true then (ravelinlaw6_EntryBack.j0 k a2 a3 (decide ((a2.size : Int) > 100)) a0_0 a0_1 a0_2 a0_3 a1_0 a1_1 a1_2 a1_3) else (ravelinlaw6_EntryBack.j0 k a2 a3 true a0_0 a0_1 a0_2 a0_3 a1_0 a1_1 a1_2 a1_3))) else (ravelinlaw6_EntryBack.j0 k a2 a3 true a0_0 a0_1 a0_2 a0_3 a1_0 a1_1 a1_2 a1_3))) = some r := by rw [if_pos rfl] at H; exact H
        clear H
        have H := H1
        clear H1
        replace H := Option.bind_eq_some_iff.mp H
        obtain ⟨t320, A130, H⟩ := H
        replace H : (if t320 = true then ((entry_Is.f a1_0 a1_1 a1_2 a1_3).bind fun t321 => (if t321 = true then (ravelinlaw6_EntryBack.j0 k a2 a3 (decide ((a2.size : Int) > 100)) a0_0 a0_1 a0_2 a0_3 a1_0 a1_1 a1_2 a1_3) else (ravelinlaw6_EntryBack.j0 k a2 a3 true a0_0 a0_1 a0_2 a0_3 a1_0 a1_1 a1_2 a1_3))) else (ravelinlaw6_EntryBack.j0 k a2 a3 true a0_0 a0_1 a0_2 a0_3 a1_0 a1_1 a1_2 a1_3)) = some r := H
        have A13 := Aside0.mk A130
        clear A130
        by_cases c14 : t320 = true
        · subst c14
          have H1 : ((entry_Is.f a1_0 a1_1 a1_2 a1_3).bind fun t321 => (if t321 = true then (ravelinlaw6_EntryBack.j0 k a2 a3 (decide ((a2.size : Int) > 100)) a0_0 a0_1 a0_2 a0_3 a1_0 a1_1 a1_2 a1_3) else (ravelinlaw6_EntryBack.j0 k a2 a3 true a0_0 a0_1 a0_2 a0_3 a1_0 a1_1 a1_2 a1_3))) = some r := by rw [if_pos rfl] at H; exact H
          clear H
          have H := H1
          clear H1
          replace H := Option.bind_eq_some_iff.mp H
          obtain ⟨t321, A150, H⟩ := H
          replace H : (if t321 = true then (ravelinlaw6_EntryBack.j0 k a2 a3 (decide ((a2.size : Int) > 100)) a0_0 a0_1 a0_2 a0_3 a1_0 a1_1 a1_2 a1_3) else (ravelinlaw6_EntryBack.j0 k a2 a3 true a0_0 a0_1 a0_2 a0_3 a1_0 a1_1 a1_2 a1_3)) = some r := H
          have A15 := Aside0.mk A150
          clear A150
          by_cases c16 : t321 = true
          · subst c16
            have H1 : (ravelinlaw6_EntryBack.j0 k a2 a3 (decide ((a2.size : Int) > 100)) a0_0 a0_1 a0_2 a0_3 a1_0 a1_1 a1_2 a1_3) = some r := by rw [if_pos rfl] at H; exact H
            clear H
            have H := H1
            clear H1
            have H' := Aside0.mk H
            clear H
            have hnb17 := NB313_314.out
            have hnc17 := NB314_313.out
            have hcz18_0 : w10.cell? ⟨gb313, 0, none⟩ = some (.string a0_0) := (blk_cell BK313.out 0).trans rfl
            have hcz18_1 : w10.cell? ⟨gb313, 1, none⟩ = some (.int .i64 a0_1) := (blk_cell BK313.out 1).trans rfl
            have hcz18_2 : w10.cell? ⟨gb313, 2, none⟩ = some (.bool a0_2) := (blk_cell BK313.out 2).trans rfl
            have hcz18_3 : w10.cell? ⟨gb313, 3, none⟩ = some (.string a0_3) := (blk_cell BK313.out 3).trans rfl
            have hfz18_0 := blk_frozen BK313.out 0
            have hfz18_1 := blk_frozen BK313.out 1
            have hfz18_2 := blk_frozen BK313.out 2
            have hfz18_3 := blk_frozen BK313.out 3
            have hcz19_0 : w10.cell? ⟨gb314, 0, none⟩ = some (.string a1_0) := (blk_cell BK314.out 0).trans rfl
            have hcz19_1 : w10.cell? ⟨gb314, 1, none⟩ = some (.int .i64 a1_1) := (blk_cell BK314.out 1).trans rfl
            have hcz19_2 : w10.cell? ⟨gb314, 2, none⟩ = some (.bool a1_2) := (blk_cell BK314.out 2).trans rfl
            have hcz19_3 : w10.cell? ⟨gb314, 3, none⟩ = some (.string a1_3) := (blk_cell BK314.out 3).trans rfl
            have hfz19_0 := blk_frozen BK314.out 0
            have hfz19_1 := blk_frozen BK314.out 1
            have hfz19_2 := blk_frozen BK314.out 2
            have hfz19_3 := blk_frozen BK314.out 3
            go_wp2_with (first | ((with_reducible refine gate_dst (N := 20) rfl ?_); (try (refine gate_guard (by rfl) ?_; dsimp only)); refine Kd.R_lit k23 _ 23 ?hg (N := 20) ?hd (xs := ([(⟨a0_0, a0_1, a0_2, a0_3⟩ : S23), (⟨a1_0, a1_1, a1_2, a1_3⟩ : S23)] : List (S23))) (inner := [.string a0_0, .int .i64 a0_1, .bool a0_2, .string a0_3, .string a1_0, .int .i64 a1_1, .bool a1_2, .string a1_3]) (ok := fun _ => True) (okp := fun _ => True) ?hr ?hp (fun _ hk => hk) trivial (Below.refl _ _) (Nat.le_refl _) (by simp) ?_; (case hd => rfl); (case hg => rfl); (case hr => first | (go_simp; done) | (go_simp; rfl)); (case hp => exact (Reps.c4 (show Kd.M k23 _ _ _ (⟨a0_0, a0_1, a0_2, a0_3⟩ : S23) [.string a0_0, .int .i64 a0_1, .bool a0_2, .string a0_3] from (k23_mkM _ _ _ (⟨a0_0, a0_1, a0_2, a0_3⟩ : S23) )) (Reps.c4 (show Kd.M k23 _ _ _ (⟨a1_0, a1_1, a1_2, a1_3⟩ : S23) [.string a1_0, .int .i64 a1_1, .bool a1_2, .string a1_3] from (k23_mkM _ _ _ (⟨a1_0, a1_1, a1_2, a1_3⟩ : S23) )) (Reps.none _ _)))); intro v317 w20 ho21 hb hg_ hnew_; clear hg_ hnew_; (first | rw [← Ny316.out] at ho21 | (simp only [Int.reduceToNat] at ho21; rw [← Ny316.out] at ho21)); have n0_ := Aside0.mk (Kd.R_lower (Kd.R_newB (Kd.R_newB ho21 (g := gb313) (o := .cells #[.string a0_0, .int .i64 a0_1, .bool a0_2, .string a0_3] 23 (0, 0)) (by (with_reducible repeat (first | refine blk_drewN ?_ _ | refine blk_drew ?_ | refine blk_alloc ?_ _)); exact BK313.out)) (g := gb314) (o := .cells #[.string a1_0, .int .i64 a1_1, .bool a1_2, .string a1_3] 23 (0, 0)) (by (with_reducible repeat (first | refine blk_drewN ?_ _ | refine blk_drew ?_ | refine blk_alloc ?_ _)); exact BK314.out)) (below_size (by repeat (first | (with_reducible first | exact HB.out | apply below_alloc | apply pw_below_drewN | apply below_drew1 | refine below_set ?_ GE313.out | refine below_set ?_ GE314.out) | exact HB.out)))); have n1_ := Aside0.mk (blk_below (g := gb313) (o := .cells #[.string a0_0, .int .i64 a0_1, .bool a0_2, .string a0_3] 23 (0, 0)) (by (with_reducible repeat (first | refine blk_drewN ?_ _ | refine blk_drew ?_ | refine blk_alloc ?_ _)); exact BK313.out) hb); have n2_ := Aside0.mk (blk_below (g := gb314) (o := .cells #[.string a1_0, .int .i64 a1_1, .bool a1_2, .string a1_3] 23 (0, 0)) (by (with_reducible repeat (first | refine blk_drewN ?_ _ | refine blk_drew ?_ | refine blk_alloc ?_ _)); exact BK314.out) hb); have n3_ := Aside0.mk (below_step (by repeat (first | (with_reducible first | exact HB.out | apply below_alloc | apply pw_below_drewN | apply below_drew1 | refine below_set ?_ GE313.out | refine below_set ?_ GE314.out) | exact HB.out)) hb); clear BK313; clear BK314; clear HB; have HO318 := n0_; have BK313 := n1_; have BK314 := n2_; have HB := n3_; clear n0_ n1_ n2_ n3_; clear hb ho21; obtain ⟨Ao22, co22, eo22⟩ := Kd.R_slice HO318.out; subst eo22) | ((with_reducible refine gate_callee (f := 10) rfl ?_); refine goesL_ (some 21) rfl rfl Try.func10 (by kernel_rfl) rfl #[.slice Ao22 y316.length co22] rfl (by (try simp only [List.map_toArray, List.map_cons, List.map_nil]); first | done | rfl | (simp only [List.length_drop, List.length_take]; rfl)) ?_; (with_reducible refine (ravelinlaw6_few.calls k _ _ y316 true _ ?side1 ?side2 A11.out).mono ?_); (case side1 => repeat (first | exact (Kd.R_reads' HO318.out).2.2 | (with_reducible refine Kd.C_alloc ?_ _) | (with_reducible refine Kd.C_drewN ?_ _) | (with_reducible refine Kd.C_drew ?_))); (case side2 => exact (Kd.R_reads' HO318.out).2.1); rintro e w' ⟨rfl, ⟨nd, rfl⟩⟩; refine ⟨_, rfl, ?_⟩; have hcz23_0 : w20.cell? ⟨gb313, 0, none⟩ = some (.string a0_0) := (blk_cell BK313.out 0).trans rfl; have hcz23_1 : w20.cell? ⟨gb313, 1, none⟩ = some (.int .i64 a0_1) := (blk_cell BK313.out 1).trans rfl; have hcz23_2 : w20.cell? ⟨gb313, 2, none⟩ = some (.bool a0_2) := (blk_cell BK313.out 2).trans rfl; have hcz23_3 : w20.cell? ⟨gb313, 3, none⟩ = some (.string a0_3) := (blk_cell BK313.out 3).trans rfl; have hfz23_0 := blk_frozen BK313.out 0; have hfz23_1 := blk_frozen BK313.out 1; have hfz23_2 := blk_frozen BK313.out 2; have hfz23_3 := blk_frozen BK313.out 3) | (go_at_call 15; (with_reducible refine (entry_Is.calls a0_0 a0_1 a0_2 a0_3 true _ A13.out).mono ?_); rintro e w24 ⟨rfl, hb⟩; have n0_ := Aside0.mk (Kd.R_below (by (with_reducible repeat (first | apply Kd.R_alloc | apply Kd.R_drewN | apply Kd.R_drew)); exact HO318.out) hb); have n1_ := Aside0.mk (blk_below (g := gb313) (o := .cells #[.string a0_0, .int .i64 a0_1, .bool a0_2, .string a0_3] 23 (0, 0)) (by (with_reducible repeat (first | refine blk_drewN ?_ _ | refine blk_drew ?_ | refine blk_alloc ?_ _)); exact BK313.out) hb); have n2_ := Aside0.mk (blk_below (g := gb314) (o := .cells #[.string a1_0, .int .i64 a1_1, .bool a1_2, .string a1_3] 23 (0, 0)) (by (with_reducible repeat (first | refine blk_drewN ?_ _ | refine blk_drew ?_ | refine blk_alloc ?_ _)); exact BK314.out) hb); have n3_ := Aside0.mk (below_step (by repeat (first | (with_reducible first | exact HB.out | apply below_alloc | apply pw_below_drewN | apply below_drew1 | refine below_set ?_ GE313.out | refine below_set ?_ GE314.out) | exact HB.out)) hb); clear HO318; clear BK313; clear BK314; clear HB; have HO318 := n0_; have BK313 := n1_; have BK314 := n2_; have HB := n3_; clear n0_ n1_ n2_ n3_; (try clear hb); (try clear hb2); (try clear hk); (try clear hi); have hcz25_0 : w24.cell? ⟨gb314, 0, none⟩ = some (.string a1_0) := (blk_cell BK314.out 0).trans rfl; have hcz25_1 : w24.cell? ⟨gb314, 1, none⟩ = some (.int .i64 a1_1) := (blk_cell BK314.out 1).trans rfl; have hcz25_2 : w24.cell? ⟨gb314, 2, none⟩ = some (.bool a1_2) := (blk_cell BK314.out 2).trans rfl; have hcz25_3 : w24.cell? ⟨gb314, 3, none⟩ = some (.string a1_3) := (blk_cell BK314.out 3).trans rfl; have hfz25_0 := blk_frozen BK314.out 0; have hfz25_1 := blk_frozen BK314.out 1; have hfz25_2 := blk_frozen BK314.out 2; have hfz25_3 := blk_frozen BK314.out 3) | (go_at_call 15; (with_reducible refine (entry_Is.calls a1_0 a1_1 a1_2 a1_3 true _ A15.out).mono ?_); rintro e w26 ⟨rfl, hb⟩; have n0_ := Aside0.mk (Kd.R_below (by (with_reducible repeat (first | apply Kd.R_alloc | apply Kd.R_drewN | apply Kd.R_drew)); exact HO318.out) hb); have n1_ := Aside0.mk (blk_below (g := gb313) (o := .cells #[.string a0_0, .int .i64 a0_1, .bool a0_2, .string a0_3] 23 (0, 0)) (by (with_reducible repeat (first | refine blk_drewN ?_ _ | refine blk_drew ?_ | refine blk_alloc ?_ _)); exact BK313.out) hb); have n2_ := Aside0.mk (blk_below (g := gb314) (o := .cells #[.string a1_0, .int .i64 a1_1, .bool a1_2, .string a1_3] 23 (0, 0)) (by (with_reducible repeat (first | refine blk_drewN ?_ _ | refine blk_drew ?_ | refine blk_alloc ?_ _)); exact BK314.out) hb); have n3_ := Aside0.mk (below_step (by repeat (first | (with_reducible first | exact HB.out | apply below_alloc | apply pw_below_drewN | apply below_drew1 | refine below_set ?_ GE313.out | refine below_set ?_ GE314.out) | exact HB.out)) hb); clear HO318; clear BK313; clear BK314; clear HB; have HO318 := n0_; have BK313 := n1_; have BK314 := n2_; have HB := n3_; clear n0_ n1_ n2_ n3_; (try clear hb); (try clear hb2); (try clear hk); (try clear hi)))
            go_meet
            case rel => exact ⟨_, (decide ((a2.size : Int) > 100)), (by first | rfl | (simp; done) | (simp [*]; done)), H', ⟨by first | omega | exact Nat.le_refl _⟩, ⟨by (with_reducible repeat (first | refine blk_drewN ?_ _ | refine blk_drew ?_ | refine blk_alloc ?_ _)); exact BK313.out⟩, ⟨by (with_reducible repeat (first | refine blk_drewN ?_ _ | refine blk_drew ?_ | refine blk_alloc ?_ _)); exact BK314.out⟩, ⟨by repeat (first | (with_reducible first | exact HB.out | apply below_alloc | apply pw_below_drewN | apply below_drew1 | refine below_set ?_ GE313.out | refine below_set ?_ GE314.out) | exact HB.out)⟩⟩
          · replace c16 := Bool.eq_false_iff.mpr c16
            subst c16
            have H1 : (ravelinlaw6_EntryBack.j0 k a2 a3 true a0_0 a0_1 a0_2 a0_3 a1_0 a1_1 a1_2 a1_3) = some r := by rw [if_neg (show ¬ (false = true) by decide)] at H; exact H
            clear H
            have H := H1
            clear H1
            have H' := Aside0.mk H
            clear H
            have hnb27 := NB313_314.out
            have hnc27 := NB314_313.out
            have hcz28_0 : w10.cell? ⟨gb313, 0, none⟩ = some (.string a0_0) := (blk_cell BK313.out 0).trans rfl
            have hcz28_1 : w10.cell? ⟨gb313, 1, none⟩ = some (.int .i64 a0_1) := (blk_cell BK313.out 1).trans rfl
            have hcz28_2 : w10.cell? ⟨gb313, 2, none⟩ = some (.bool a0_2) := (blk_cell BK313.out 2).trans rfl
            have hcz28_3 : w10.cell? ⟨gb313, 3, none⟩ = some (.string a0_3) := (blk_cell BK313.out 3).trans rfl
            have hfz28_0 := blk_frozen BK313.out 0
            have hfz28_1 := blk_frozen BK313.out 1
            have hfz28_2 := blk_frozen BK313.out 2
            have hfz28_3 := blk_frozen BK313.out 3
            have hcz29_0 : w10.cell? ⟨gb314, 0, none⟩ = some (.string a1_0) := (blk_cell BK314.out 0).trans rfl
            have hcz29_1 : w10.cell? ⟨gb314, 1, none⟩ = some (.int .i64 a1_1) := (blk_cell BK314.out 1).trans rfl
            have hcz29_2 : w10.cell? ⟨gb314, 2, none⟩ = some (.bool a1_2) := (blk_cell BK314.out 2).trans rfl
            have hcz29_3 : w10.cell? ⟨gb314, 3, none⟩ = some (.string a1_3) := (blk_cell BK314.out 3).trans rfl
            have hfz29_0 := blk_frozen BK314.out 0
            have hfz29_1 := blk_frozen BK314.out 1
            have hfz29_2 := blk_frozen BK314.out 2
            have hfz29_3 := blk_frozen BK314.out 3
            go_wp2_with (first | ((with_reducible refine gate_dst (N := 20) rfl ?_); (try (refine gate_guard (by rfl) ?_; dsimp only)); refine Kd.R_lit k23 _ 23 ?hg (N := 20) ?hd (xs := ([(⟨a0_0, a0_1, a0_2, a0_3⟩ : S23), (⟨a1_0, a1_1, a1_2, a1_3⟩ : S23)] : List (S23))) (inner := [.string a0_0, .int .i64 a0_1, .bool a0_2, .string a0_3, .string a1_0, .int .i64 a1_1, .bool a1_2, .string a1_3]) (ok := fun _ => True) (okp := fun _ => True) ?hr ?hp (fun _ hk => hk) trivial (Below.refl _ _) (Nat.le_refl _) (by simp) ?_; (case hd => rfl); (case hg => rfl); (case hr => first | (go_simp; done) | (go_simp; rfl)); (case hp => exact (Reps.c4 (show Kd.M k23 _ _ _ (⟨a0_0, a0_1, a0_2, a0_3⟩ : S23) [.string a0_0, .int .i64 a0_1, .bool a0_2, .string a0_3] from (k23_mkM _ _ _ (⟨a0_0, a0_1, a0_2, a0_3⟩ : S23) )) (Reps.c4 (show Kd.M k23 _ _ _ (⟨a1_0, a1_1, a1_2, a1_3⟩ : S23) [.string a1_0, .int .i64 a1_1, .bool a1_2, .string a1_3] from (k23_mkM _ _ _ (⟨a1_0, a1_1, a1_2, a1_3⟩ : S23) )) (Reps.none _ _)))); intro v317 w30 ho31 hb hg_ hnew_; clear hg_ hnew_; (first | rw [← Ny316.out] at ho31 | (simp only [Int.reduceToNat] at ho31; rw [← Ny316.out] at ho31)); have n0_ := Aside0.mk (Kd.R_lower (Kd.R_newB (Kd.R_newB ho31 (g := gb313) (o := .cells #[.string a0_0, .int .i64 a0_1, .bool a0_2, .string a0_3] 23 (0, 0)) (by (with_reducible repeat (first | refine blk_drewN ?_ _ | refine blk_drew ?_ | refine blk_alloc ?_ _)); exact BK313.out)) (g := gb314) (o := .cells #[.string a1_0, .int .i64 a1_1, .bool a1_2, .string a1_3] 23 (0, 0)) (by (with_reducible repeat (first | refine blk_drewN ?_ _ | refine blk_drew ?_ | refine blk_alloc ?_ _)); exact BK314.out)) (below_size (by repeat (first | (with_reducible first | exact HB.out | apply below_alloc | apply pw_below_drewN | apply below_drew1 | refine below_set ?_ GE313.out | refine below_set ?_ GE314.out) | exact HB.out)))); have n1_ := Aside0.mk (blk_below (g := gb313) (o := .cells #[.string a0_0, .int .i64 a0_1, .bool a0_2, .string a0_3] 23 (0, 0)) (by (with_reducible repeat (first | refine blk_drewN ?_ _ | refine blk_drew ?_ | refine blk_alloc ?_ _)); exact BK313.out) hb); have n2_ := Aside0.mk (blk_below (g := gb314) (o := .cells #[.string a1_0, .int .i64 a1_1, .bool a1_2, .string a1_3] 23 (0, 0)) (by (with_reducible repeat (first | refine blk_drewN ?_ _ | refine blk_drew ?_ | refine blk_alloc ?_ _)); exact BK314.out) hb); have n3_ := Aside0.mk (below_step (by repeat (first | (with_reducible first | exact HB.out | apply below_alloc | apply pw_below_drewN | apply below_drew1 | refine below_set ?_ GE313.out | refine below_set ?_ GE314.out) | exact HB.out)) hb); clear BK313; clear BK314; clear HB; have HO318 := n0_; have BK313 := n1_; have BK314 := n2_; have HB := n3_; clear n0_ n1_ n2_ n3_; clear hb ho31; obtain ⟨Ao32, co32, eo32⟩ := Kd.R_slice HO318.out; subst eo32) | ((with_reducible refine gate_callee (f := 10) rfl ?_); refine goesL_ (some 21) rfl rfl Try.func10 (by kernel_rfl) rfl #[.slice Ao32 y316.length co32] rfl (by (try simp only [List.map_toArray, List.map_cons, List.map_nil]); first | done | rfl | (simp only [List.length_drop, List.length_take]; rfl)) ?_; (with_reducible refine (ravelinlaw6_few.calls k _ _ y316 true _ ?side1 ?side2 A11.out).mono ?_); (case side1 => repeat (first | exact (Kd.R_reads' HO318.out).2.2 | (with_reducible refine Kd.C_alloc ?_ _) | (with_reducible refine Kd.C_drewN ?_ _) | (with_reducible refine Kd.C_drew ?_))); (case side2 => exact (Kd.R_reads' HO318.out).2.1); rintro e w' ⟨rfl, ⟨nd, rfl⟩⟩; refine ⟨_, rfl, ?_⟩; have hcz33_0 : w30.cell? ⟨gb313, 0, none⟩ = some (.string a0_0) := (blk_cell BK313.out 0).trans rfl; have hcz33_1 : w30.cell? ⟨gb313, 1, none⟩ = some (.int .i64 a0_1) := (blk_cell BK313.out 1).trans rfl; have hcz33_2 : w30.cell? ⟨gb313, 2, none⟩ = some (.bool a0_2) := (blk_cell BK313.out 2).trans rfl; have hcz33_3 : w30.cell? ⟨gb313, 3, none⟩ = some (.string a0_3) := (blk_cell BK313.out 3).trans rfl; have hfz33_0 := blk_frozen BK313.out 0; have hfz33_1 := blk_frozen BK313.out 1; have hfz33_2 := blk_frozen BK313.out 2; have hfz33_3 := blk_frozen BK313.out 3) | (go_at_call 15; (with_reducible refine (entry_Is.calls a0_0 a0_1 a0_2 a0_3 true _ A13.out).mono ?_); rintro e w34 ⟨rfl, hb⟩; have n0_ := Aside0.mk (Kd.R_below (by (with_reducible repeat (first | apply Kd.R_alloc | apply Kd.R_drewN | apply Kd.R_drew)); exact HO318.out) hb); have n1_ := Aside0.mk (blk_below (g := gb313) (o := .cells #[.string a0_0, .int .i64 a0_1, .bool a0_2, .string a0_3] 23 (0, 0)) (by (with_reducible repeat (first | refine blk_drewN ?_ _ | refine blk_drew ?_ | refine blk_alloc ?_ _)); exact BK313.out) hb); have n2_ := Aside0.mk (blk_below (g := gb314) (o := .cells #[.string a1_0, .int .i64 a1_1, .bool a1_2, .string a1_3] 23 (0, 0)) (by (with_reducible repeat (first | refine blk_drewN ?_ _ | refine blk_drew ?_ | refine blk_alloc ?_ _)); exact BK314.out) hb); have n3_ := Aside0.mk (below_step (by repeat (first | (with_reducible first | exact HB.out | apply below_alloc | apply pw_below_drewN | apply below_drew1 | refine below_set ?_ GE313.out | refine below_set ?_ GE314.out) | exact HB.out)) hb); clear HO318; clear BK313; clear BK314; clear HB; have HO318 := n0_; have BK313 := n1_; have BK314 := n2_; have HB := n3_; clear n0_ n1_ n2_ n3_; (try clear hb); (try clear hb2); (try clear hk); (try clear hi); have hcz35_0 : w34.cell? ⟨gb314, 0, none⟩ = some (.string a1_0) := (blk_cell BK314.out 0).trans rfl; have hcz35_1 : w34.cell? ⟨gb314, 1, none⟩ = some (.int .i64 a1_1) := (blk_cell BK314.out 1).trans rfl; have hcz35_2 : w34.cell? ⟨gb314, 2, none⟩ = some (.bool a1_2) := (blk_cell BK314.out 2).trans rfl; have hcz35_3 : w34.cell? ⟨gb314, 3, none⟩ = some (.string a1_3) := (blk_cell BK314.out 3).trans rfl; have hfz35_0 := blk_frozen BK314.out 0; have hfz35_1 := blk_frozen BK314.out 1; have hfz35_2 := blk_frozen BK314.out 2; have hfz35_3 := blk_frozen BK314.out 3) | (go_at_call 15; (with_reducible refine (entry_Is.calls a1_0 a1_1 a1_2 a1_3 false _ A15.out).mono ?_); rintro e w36 ⟨rfl, hb⟩; have n0_ := Aside0.mk (Kd.R_below (by (with_reducible repeat (first | apply Kd.R_alloc | apply Kd.R_drewN | apply Kd.R_drew)); exact HO318.out) hb); have n1_ := Aside0.mk (blk_below (g := gb313) (o := .cells #[.string a0_0, .int .i64 a0_1, .bool a0_2, .string a0_3] 23 (0, 0)) (by (with_reducible repeat (first | refine blk_drewN ?_ _ | refine blk_drew ?_ | refine blk_alloc ?_ _)); exact BK313.out) hb); have n2_ := Aside0.mk (blk_below (g := gb314) (o := .cells #[.string a1_0, .int .i64 a1_1, .bool a1_2, .string a1_3] 23 (0, 0)) (by (with_reducible repeat (first | refine blk_drewN ?_ _ | refine blk_drew ?_ | refine blk_alloc ?_ _)); exact BK314.out) hb); have n3_ := Aside0.mk (below_step (by repeat (first | (with_reducible first | exact HB.out | apply below_alloc | apply pw_below_drewN | apply below_drew1 | refine below_set ?_ GE313.out | refine below_set ?_ GE314.out) | exact HB.out)) hb); clear HO318; clear BK313; clear BK314; clear HB; have HO318 := n0_; have BK313 := n1_; have BK314 := n2_; have HB := n3_; clear n0_ n1_ n2_ n3_; (try clear hb); (try clear hb2); (try clear hk); (try clear hi)))
            go_meet
            case rel => exact ⟨_, (true), (by first | rfl | (simp; done) | (simp [*]; done)), H', ⟨by first | omega | exact Nat.le_refl _⟩, ⟨by (with_reducible repeat (first | refine blk_drewN ?_ _ | refine blk_drew ?_ | refine blk_alloc ?_ _)); exact BK313.out⟩, ⟨by (with_reducible repeat (first | refine blk_drewN ?_ _ | refine blk_drew ?_ | refine blk_alloc ?_ _)); exact BK314.out⟩, ⟨by repeat (first | (with_reducible first | exact HB.out | apply below_alloc | apply pw_below_drewN | apply below_drew1 | refine below_set ?_ GE313.out | refine below_set ?_ GE314.out) | exact HB.out)⟩⟩
        · replace c14 := Bool.eq_false_iff.mpr c14
          subst c14
          have H1 : (ravelinlaw6_EntryBack.j0 k a2 a3 true a0_0 a0_1 a0_2 a0_3 a1_0 a1_1 a1_2 a1_3) = some r := by rw [if_neg (show ¬ (false = true) by decide)] at H; exact H
          clear H
          have H := H1
          clear H1
          have H' := Aside0.mk H
          clear H
          have hnb37 := NB313_314.out
          have hnc37 := NB314_313.out
          have hcz38_0 : w10.cell? ⟨gb313, 0, none⟩ = some (.string a0_0) := (blk_cell BK313.out 0).trans rfl
          have hcz38_1 : w10.cell? ⟨gb313, 1, none⟩ = some (.int .i64 a0_1) := (blk_cell BK313.out 1).trans rfl
          have hcz38_2 : w10.cell? ⟨gb313, 2, none⟩ = some (.bool a0_2) := (blk_cell BK313.out 2).trans rfl
          have hcz38_3 : w10.cell? ⟨gb313, 3, none⟩ = some (.string a0_3) := (blk_cell BK313.out 3).trans rfl
          have hfz38_0 := blk_frozen BK313.out 0
          have hfz38_1 := blk_frozen BK313.out 1
          have hfz38_2 := blk_frozen BK313.out 2
          have hfz38_3 := blk_frozen BK313.out 3
          have hcz39_0 : w10.cell? ⟨gb314, 0, none⟩ = some (.string a1_0) := (blk_cell BK314.out 0).trans rfl
          have hcz39_1 : w10.cell? ⟨gb314, 1, none⟩ = some (.int .i64 a1_1) := (blk_cell BK314.out 1).trans rfl
          have hcz39_2 : w10.cell? ⟨gb314, 2, none⟩ = some (.bool a1_2) := (blk_cell BK314.out 2).trans rfl
          have hcz39_3 : w10.cell? ⟨gb314, 3, none⟩ = some (.string a1_3) := (blk_cell BK314.out 3).trans rfl
          have hfz39_0 := blk_frozen BK314.out 0
          have hfz39_1 := blk_frozen BK314.out 1
          have hfz39_2 := blk_frozen BK314.out 2
          have hfz39_3 := blk_frozen BK314.out 3
          go_wp2_with (first | ((with_reducible refine gate_dst (N := 20) rfl ?_); (try (refine gate_guard (by rfl) ?_; dsimp only)); refine Kd.R_lit k23 _ 23 ?hg (N := 20) ?hd (xs := ([(⟨a0_0, a0_1, a0_2, a0_3⟩ : S23), (⟨a1_0, a1_1, a1_2, a1_3⟩ : S23)] : List (S23))) (inner := [.string a0_0, .int .i64 a0_1, .bool a0_2, .string a0_3, .string a1_0, .int .i64 a1_1, .bool a1_2, .string a1_3]) (ok := fun _ => True) (okp := fun _ => True) ?hr ?hp (fun _ hk => hk) trivial (Below.refl _ _) (Nat.le_refl _) (by simp) ?_; (case hd => rfl); (case hg => rfl); (case hr => first | (go_simp; done) | (go_simp; rfl)); (case hp => exact (Reps.c4 (show Kd.M k23 _ _ _ (⟨a0_0, a0_1, a0_2, a0_3⟩ : S23) [.string a0_0, .int .i64 a0_1, .bool a0_2, .string a0_3] from (k23_mkM _ _ _ (⟨a0_0, a0_1, a0_2, a0_3⟩ : S23) )) (Reps.c4 (show Kd.M k23 _ _ _ (⟨a1_0, a1_1, a1_2, a1_3⟩ : S23) [.string a1_0, .int .i64 a1_1, .bool a1_2, .string a1_3] from (k23_mkM _ _ _ (⟨a1_0, a1_1, a1_2, a1_3⟩ : S23) )) (Reps.none _ _)))); intro v317 w40 ho41 hb hg_ hnew_; clear hg_ hnew_; (first | rw [← Ny316.out] at ho41 | (simp only [Int.reduceToNat] at ho41; rw [← Ny316.out] at ho41)); have n0_ := Aside0.mk (Kd.R_lower (Kd.R_newB (Kd.R_newB ho41 (g := gb313) (o := .cells #[.string a0_0, .int .i64 a0_1, .bool a0_2, .string a0_3] 23 (0, 0)) (by (with_reducible repeat (first | refine blk_drewN ?_ _ | refine blk_drew ?_ | refine blk_alloc ?_ _)); exact BK313.out)) (g := gb314) (o := .cells #[.string a1_0, .int .i64 a1_1, .bool a1_2, .string a1_3] 23 (0, 0)) (by (with_reducible repeat (first | refine blk_drewN ?_ _ | refine blk_drew ?_ | refine blk_alloc ?_ _)); exact BK314.out)) (below_size (by repeat (first | (with_reducible first | exact HB.out | apply below_alloc | apply pw_below_drewN | apply below_drew1 | refine below_set ?_ GE313.out | refine below_set ?_ GE314.out) | exact HB.out)))); have n1_ := Aside0.mk (blk_below (g := gb313) (o := .cells #[.string a0_0, .int .i64 a0_1, .bool a0_2, .string a0_3] 23 (0, 0)) (by (with_reducible repeat (first | refine blk_drewN ?_ _ | refine blk_drew ?_ | refine blk_alloc ?_ _)); exact BK313.out) hb); have n2_ := Aside0.mk (blk_below (g := gb314) (o := .cells #[.string a1_0, .int .i64 a1_1, .bool a1_2, .string a1_3] 23 (0, 0)) (by (with_reducible repeat (first | refine blk_drewN ?_ _ | refine blk_drew ?_ | refine blk_alloc ?_ _)); exact BK314.out) hb); have n3_ := Aside0.mk (below_step (by repeat (first | (with_reducible first | exact HB.out | apply below_alloc | apply pw_below_drewN | apply below_drew1 | refine below_set ?_ GE313.out | refine below_set ?_ GE314.out) | exact HB.out)) hb); clear BK313; clear BK314; clear HB; have HO318 := n0_; have BK313 := n1_; have BK314 := n2_; have HB := n3_; clear n0_ n1_ n2_ n3_; clear hb ho41; obtain ⟨Ao42, co42, eo42⟩ := Kd.R_slice HO318.out; subst eo42) | ((with_reducible refine gate_callee (f := 10) rfl ?_); refine goesL_ (some 21) rfl rfl Try.func10 (by kernel_rfl) rfl #[.slice Ao42 y316.length co42] rfl (by (try simp only [List.map_toArray, List.map_cons, List.map_nil]); first | done | rfl | (simp only [List.length_drop, List.length_take]; rfl)) ?_; (with_reducible refine (ravelinlaw6_few.calls k _ _ y316 true _ ?side1 ?side2 A11.out).mono ?_); (case side1 => repeat (first | exact (Kd.R_reads' HO318.out).2.2 | (with_reducible refine Kd.C_alloc ?_ _) | (with_reducible refine Kd.C_drewN ?_ _) | (with_reducible refine Kd.C_drew ?_))); (case side2 => exact (Kd.R_reads' HO318.out).2.1); rintro e w' ⟨rfl, ⟨nd, rfl⟩⟩; refine ⟨_, rfl, ?_⟩; have hcz43_0 : w40.cell? ⟨gb313, 0, none⟩ = some (.string a0_0) := (blk_cell BK313.out 0).trans rfl; have hcz43_1 : w40.cell? ⟨gb313, 1, none⟩ = some (.int .i64 a0_1) := (blk_cell BK313.out 1).trans rfl; have hcz43_2 : w40.cell? ⟨gb313, 2, none⟩ = some (.bool a0_2) := (blk_cell BK313.out 2).trans rfl; have hcz43_3 : w40.cell? ⟨gb313, 3, none⟩ = some (.string a0_3) := (blk_cell BK313.out 3).trans rfl; have hfz43_0 := blk_frozen BK313.out 0; have hfz43_1 := blk_frozen BK313.out 1; have hfz43_2 := blk_frozen BK313.out 2; have hfz43_3 := blk_frozen BK313.out 3) | (go_at_call 15; (with_reducible refine (entry_Is.calls a0_0 a0_1 a0_2 a0_3 false _ A13.out).mono ?_); rintro e w44 ⟨rfl, hb⟩; have n0_ := Aside0.mk (Kd.R_below (by (with_reducible repeat (first | apply Kd.R_alloc | apply Kd.R_drewN | apply Kd.R_drew)); exact HO318.out) hb); have n1_ := Aside0.mk (blk_below (g := gb313) (o := .cells #[.string a0_0, .int .i64 a0_1, .bool a0_2, .string a0_3] 23 (0, 0)) (by (with_reducible repeat (first | refine blk_drewN ?_ _ | refine blk_drew ?_ | refine blk_alloc ?_ _)); exact BK313.out) hb); have n2_ := Aside0.mk (blk_below (g := gb314) (o := .cells #[.string a1_0, .int .i64 a1_1, .bool a1_2, .string a1_3] 23 (0, 0)) (by (with_reducible repeat (first | refine blk_drewN ?_ _ | refine blk_drew ?_ | refine blk_alloc ?_ _)); exact BK314.out) hb); have n3_ := Aside0.mk (below_step (by repeat (first | (with_reducible first | exact HB.out | apply below_alloc | apply pw_below_drewN | apply below_drew1 | refine below_set ?_ GE313.out | refine below_set ?_ GE314.out) | exact HB.out)) hb); clear HO318; clear BK313; clear BK314; clear HB; have HO318 := n0_; have BK313 := n1_; have BK314 := n2_; have HB := n3_; clear n0_ n1_ n2_ n3_; (try clear hb); (try clear hb2); (try clear hk); (try clear hi)))
          go_meet
          case rel => exact ⟨_, (true), (by first | rfl | (simp; done) | (simp [*]; done)), H', ⟨by first | omega | exact Nat.le_refl _⟩, ⟨by (with_reducible repeat (first | refine blk_drewN ?_ _ | refine blk_drew ?_ | refine blk_alloc ?_ _)); exact BK313.out⟩, ⟨by (with_reducible repeat (first | refine blk_drewN ?_ _ | refine blk_drew ?_ | refine blk_alloc ?_ _)); exact BK314.out⟩, ⟨by repeat (first | (with_reducible first | exact HB.out | apply below_alloc | apply pw_below_drewN | apply below_drew1 | refine below_set ?_ GE313.out | refine below_set ?_ GE314.out) | exact HB.out)⟩⟩
      · replace c12 := Bool.eq_false_iff.mpr c12
        subst c12
        have H1 : (ravelinlaw6_EntryBack.j0 k a2 a3 true a0_0 a0_1 a0_2 a0_3 a1_0 a1_1 a1_2 a1_3) = some r := by rw [if_neg (show ¬ (false = true) by decide)] at H; exact H
        clear H
        have H := H1
        clear H1
        have H' := Aside0.mk H
        clear H
        have hnb45 := NB313_314.out
        have hnc45 := NB314_313.out
        have hcz46_0 : w10.cell? ⟨gb313, 0, none⟩ = some (.string a0_0) := (blk_cell BK313.out 0).trans rfl
        have hcz46_1 : w10.cell? ⟨gb313, 1, none⟩ = some (.int .i64 a0_1) := (blk_cell BK313.out 1).trans rfl
        have hcz46_2 : w10.cell? ⟨gb313, 2, none⟩ = some (.bool a0_2) := (blk_cell BK313.out 2).trans rfl
        have hcz46_3 : w10.cell? ⟨gb313, 3, none⟩ = some (.string a0_3) := (blk_cell BK313.out 3).trans rfl
        have hfz46_0 := blk_frozen BK313.out 0
        have hfz46_1 := blk_frozen BK313.out 1
        have hfz46_2 := blk_frozen BK313.out 2
        have hfz46_3 := blk_frozen BK313.out 3
        have hcz47_0 : w10.cell? ⟨gb314, 0, none⟩ = some (.string a1_0) := (blk_cell BK314.out 0).trans rfl
        have hcz47_1 : w10.cell? ⟨gb314, 1, none⟩ = some (.int .i64 a1_1) := (blk_cell BK314.out 1).trans rfl
        have hcz47_2 : w10.cell? ⟨gb314, 2, none⟩ = some (.bool a1_2) := (blk_cell BK314.out 2).trans rfl
        have hcz47_3 : w10.cell? ⟨gb314, 3, none⟩ = some (.string a1_3) := (blk_cell BK314.out 3).trans rfl
        have hfz47_0 := blk_frozen BK314.out 0
        have hfz47_1 := blk_frozen BK314.out 1
        have hfz47_2 := blk_frozen BK314.out 2
        have hfz47_3 := blk_frozen BK314.out 3
        go_wp2_with (first | ((with_reducible refine gate_dst (N := 20) rfl ?_); (try (refine gate_guard (by rfl) ?_; dsimp only)); refine Kd.R_lit k23 _ 23 ?hg (N := 20) ?hd (xs := ([(⟨a0_0, a0_1, a0_2, a0_3⟩ : S23), (⟨a1_0, a1_1, a1_2, a1_3⟩ : S23)] : List (S23))) (inner := [.string a0_0, .int .i64 a0_1, .bool a0_2, .string a0_3, .string a1_0, .int .i64 a1_1, .bool a1_2, .string a1_3]) (ok := fun _ => True) (okp := fun _ => True) ?hr ?hp (fun _ hk => hk) trivial (Below.refl _ _) (Nat.le_refl _) (by simp) ?_; (case hd => rfl); (case hg => rfl); (case hr => first | (go_simp; done) | (go_simp; rfl)); (case hp => exact (Reps.c4 (show Kd.M k23 _ _ _ (⟨a0_0, a0_1, a0_2, a0_3⟩ : S23) [.string a0_0, .int .i64 a0_1, .bool a0_2, .string a0_3] from (k23_mkM _ _ _ (⟨a0_0, a0_1, a0_2, a0_3⟩ : S23) )) (Reps.c4 (show Kd.M k23 _ _ _ (⟨a1_0, a1_1, a1_2, a1_3⟩ : S23) [.string a1_0, .int .i64 a1_1, .bool a1_2, .string a1_3] from (k23_mkM _ _ _ (⟨a1_0, a1_1, a1_2, a1_3⟩ : S23) )) (Reps.none _ _)))); intro v317 w48 ho49 hb hg_ hnew_; clear hg_ hnew_; (first | rw [← Ny316.out] at ho49 | (simp only [Int.reduceToNat] at ho49; rw [← Ny316.out] at ho49)); have n0_ := Aside0.mk (Kd.R_lower (Kd.R_newB (Kd.R_newB ho49 (g := gb313) (o := .cells #[.string a0_0, .int .i64 a0_1, .bool a0_2, .string a0_3] 23 (0, 0)) (by (with_reducible repeat (first | refine blk_drewN ?_ _ | refine blk_drew ?_ | refine blk_alloc ?_ _)); exact BK313.out)) (g := gb314) (o := .cells #[.string a1_0, .int .i64 a1_1, .bool a1_2, .string a1_3] 23 (0, 0)) (by (with_reducible repeat (first | refine blk_drewN ?_ _ | refine blk_drew ?_ | refine blk_alloc ?_ _)); exact BK314.out)) (below_size (by repeat (first | (with_reducible first | exact HB.out | apply below_alloc | apply pw_below_drewN | apply below_drew1 | refine below_set ?_ GE313.out | refine below_set ?_ GE314.out) | exact HB.out)))); have n1_ := Aside0.mk (blk_below (g := gb313) (o := .cells #[.string a0_0, .int .i64 a0_1, .bool a0_2, .string a0_3] 23 (0, 0)) (by (with_reducible repeat (first | refine blk_drewN ?_ _ | refine blk_drew ?_ | refine blk_alloc ?_ _)); exact BK313.out) hb); have n2_ := Aside0.mk (blk_below (g := gb314) (o := .cells #[.string a1_0, .int .i64 a1_1, .bool a1_2, .string a1_3] 23 (0, 0)) (by (with_reducible repeat (first | refine blk_drewN ?_ _ | refine blk_drew ?_ | refine blk_alloc ?_ _)); exact BK314.out) hb); have n3_ := Aside0.mk (below_step (by repeat (first | (with_reducible first | exact HB.out | apply below_alloc | apply pw_below_drewN | apply below_drew1 | refine below_set ?_ GE313.out | refine below_set ?_ GE314.out) | exact HB.out)) hb); clear BK313; clear BK314; clear HB; have HO318 := n0_; have BK313 := n1_; have BK314 := n2_; have HB := n3_; clear n0_ n1_ n2_ n3_; clear hb ho49; obtain ⟨Ao50, co50, eo50⟩ := Kd.R_slice HO318.out; subst eo50) | ((with_reducible refine gate_callee (f := 10) rfl ?_); refine goesL_ (some 21) rfl rfl Try.func10 (by kernel_rfl) rfl #[.slice Ao50 y316.length co50] rfl (by (try simp only [List.map_toArray, List.map_cons, List.map_nil]); first | done | rfl | (simp only [List.length_drop, List.length_take]; rfl)) ?_; (with_reducible refine (ravelinlaw6_few.calls k _ _ y316 false _ ?side1 ?side2 A11.out).mono ?_); (case side1 => repeat (first | exact (Kd.R_reads' HO318.out).2.2 | (with_reducible refine Kd.C_alloc ?_ _) | (with_reducible refine Kd.C_drewN ?_ _) | (with_reducible refine Kd.C_drew ?_))); (case side2 => exact (Kd.R_reads' HO318.out).2.1); rintro e w' ⟨rfl, ⟨nd, rfl⟩⟩; refine ⟨_, rfl, ?_⟩))
        go_meet
        case rel => exact ⟨_, (true), (by first | rfl | (simp; done) | (simp [*]; done)), H', ⟨by first | omega | exact Nat.le_refl _⟩, ⟨by (with_reducible repeat (first | refine blk_drewN ?_ _ | refine blk_drew ?_ | refine blk_alloc ?_ _)); exact BK313.out⟩, ⟨by (with_reducible repeat (first | refine blk_drewN ?_ _ | refine blk_drew ?_ | refine blk_alloc ?_ _)); exact BK314.out⟩, ⟨by repeat (first | (with_reducible first | exact HB.out | apply below_alloc | apply pw_below_drewN | apply below_drew1 | refine below_set ?_ GE313.out | refine below_set ?_ GE314.out) | exact HB.out)⟩⟩
    case rest =>
      clear HC7
      try clear c1
      try clear c2
      try clear p2
      try clear c3
      try clear c4
      try clear c6
      try clear c9
      try clear c10
      try clear c12
      try clear c14
      try clear c16
      try clear c17
      try clear c27
      try clear c37
      try clear c45
      try clear hcz18_0
      try clear hcz18_1
      try clear hcz18_2
      try clear hcz18_3
      try clear hcz19_0
      try clear hcz19_1
      try clear hcz19_2
      try clear hcz19_3
      try clear hcz23_0
      try clear hcz23_1
      try clear hcz23_2
      try clear hcz23_3
      try clear hcz25_0
      try clear hcz25_1
      try clear hcz25_2
      try clear hcz25_3
      try clear hcz28_0
      try clear hcz28_1
      try clear hcz28_2
      try clear hcz28_3
      try clear hcz29_0
      try clear hcz29_1
      try clear hcz29_2
      try clear hcz29_3
      try clear hcz33_0
      try clear hcz33_1
      try clear hcz33_2
      try clear hcz33_3
      try clear hcz35_0
      try clear hcz35_1
      try clear hcz35_2
      try clear hcz35_3
      try clear hcz38_0
      try clear hcz38_1
      try clear hcz38_2
      try clear hcz38_3
      try clear hcz39_0
      try clear hcz39_1
      try clear hcz39_2
      try clear hcz39_3
      try clear hcz43_0
      try clear hcz43_1
      try clear hcz43_2
      try clear hcz43_3
      try clear hcz46_0
      try clear hcz46_1
      try clear hcz46_2
      try clear hcz46_3
      try clear hcz47_0
      try clear hcz47_1
      try clear hcz47_2
      try clear hcz47_3
      try clear hfz18_0
      try clear hfz18_1
      try clear hfz18_2
      try clear hfz18_3
      try clear hfz19_0
      try clear hfz19_1
      try clear hfz19_2
      try clear hfz19_3
      try clear hfz23_0
      try clear hfz23_1
      try clear hfz23_2
      try clear hfz23_3
      try clear hfz25_0
      try clear hfz25_1
      try clear hfz25_2
      try clear hfz25_3
      try clear hfz28_0
      try clear hfz28_1
      try clear hfz28_2
      try clear hfz28_3
      try clear hfz29_0
      try clear hfz29_1
      try clear hfz29_2
      try clear hfz29_3
      try clear hfz33_0
      try clear hfz33_1
      try clear hfz33_2
      try clear hfz33_3
      try clear hfz35_0
      try clear hfz35_1
      try clear hfz35_2
      try clear hfz35_3
      try clear hfz38_0
      try clear hfz38_1
      try clear hfz38_2
      try clear hfz38_3
      try clear hfz39_0
      try clear hfz39_1
      try clear hfz39_2
      try clear hfz39_3
      try clear hfz43_0
      try clear hfz43_1
      try clear hfz43_2
      try clear hfz43_3
      try clear hfz46_0
      try clear hfz46_1
      try clear hfz46_2
      try clear hfz46_3
      try clear hfz47_0
      try clear hfz47_1
      try clear hfz47_2
      try clear hfz47_3
      obtain ⟨kq, x37_6, rfl, HA, HJ6, BK313, BK314, HB⟩ := hcut
      cases kq with
      | zero => exact absurd HA.out (by simp [ravelinlaw6_EntryBack.j0])
      | succ kj6 =>
        have H := HA.out
        clear HA
        simp only [ravelinlaw6_EntryBack.j0] at H
        by_cases c51 : x37_6 = true
        · subst c51
          have H1 : (some true) = some r := by rw [if_pos rfl] at H; exact H
          clear H
          have H := H1
          clear H1
          obtain rfl := Option.some.inj H
          go_wp2
          go_ret
          exact ⟨by first | rfl | (simp [errW_none, errW_some] <;> rfl) | (simp [*, errW_none, errW_some] <;> rfl), by repeat (first | (with_reducible first | exact HB.out | apply below_alloc | apply pw_below_drewN | apply below_drew1 | refine below_set ?_ GE313.out | refine below_set ?_ GE314.out) | exact HB.out)⟩
        · replace c51 := Bool.eq_false_iff.mpr c51
          subst c51
          have H1 : ((entry_Bytes.f kj6 a0_0 a0_1 a0_2 a0_3).bind fun t322 => (if t322.size + a2.size ≤ 9223372036854775807 then ((entry_Read.f kj6 (t322 ++ a2)).bind fun bt323 => (if (t322.size : Int) = 0 then (some false) else (if 0 ≤ (Int.tmod (wrap64 (a3)) (t322.size : Int)) then (if (Int.tmod (wrap64 (a3)) (t322.size : Int)) ≤ (t322.size : Int) then ((entry_Read.f kj6 (t322.extract 0 ((Int.tmod (wrap64 (a3)) (t322.size : Int)) : Int).toNat)).bind fun bt330 => (if bt323.2.2.2.2.2 = 0 then (if (bt323.1.toList == a0_0.toList && (bt323.2.1 == a0_1 && (bt323.2.2.1 == a0_2 && (bt323.2.2.2.1.toList == a0_3.toList)))) = true then (if bt323.2.2.2.2.1 = (t322.size : Int) then (if bt330.2.2.2.2.2 = 12 then ((entry_Bytes.f kj6 a1_0 a1_1 a1_2 a1_3).bind fun t337 => (some ((t337.toList == t322.toList) == (a0_0.toList == a1_0.toList && (a0_1 == a1_1 && (a0_2 == a1_2 && (a0_3.toList == a1_3.toList))))))) else (some false)) else (some false)) else (some false)) else (some false))) else (none)) else (none)))) else (none))) = some r := by rw [if_neg (show ¬ (false = true) by decide)] at H; exact H
          clear H
          have H := H1
          clear H1
          replace H := Option.bind_eq_some_iff.mp H
          obtain ⟨t322, A520, H⟩ := H
          replace H : (if t322.size + a2.size ≤ 9223372036854775807 then ((entry_Read.f kj6 (t322 ++ a2)).bind fun bt323 => (if (t322.size : Int) = 0 then (some false) else (if 0 ≤ (Int.tmod (wrap64 (a3)) (t322.size : Int)) then (if (Int.tmod (wrap64 (a3)) (t322.size : Int)) ≤ (t322.size : Int) then ((entry_Read.f kj6 (t322.extract 0 ((Int.tmod (wrap64 (a3)) (t322.size : Int)) : Int).toNat)).bind fun bt330 => (if bt323.2.2.2.2.2 = 0 then (if (bt323.1.toList == a0_0.toList && (bt323.2.1 == a0_1 && (bt323.2.2.1 == a0_2 && (bt323.2.2.2.1.toList == a0_3.toList)))) = true then (if bt323.2.2.2.2.1 = (t322.size : Int) then (if bt330.2.2.2.2.2 = 12 then ((entry_Bytes.f kj6 a1_0 a1_1 a1_2 a1_3).bind fun t337 => (some ((t337.toList == t322.toList) == (a0_0.toList == a1_0.toList && (a0_1 == a1_1 && (a0_2 == a1_2 && (a0_3.toList == a1_3.toList))))))) else (some false)) else (some false)) else (some false)) else (some false))) else (none)) else (none)))) else (none)) = some r := H
          have A52 := Aside0.mk A520
          clear A520
          by_cases c53 : t322.size + a2.size ≤ 9223372036854775807
          · rw [if_pos c53] at H
            have c53b0 := eq_true c53
            have c53b1 : decide (t322.size + a2.size ≤ 9223372036854775807) = true := decide_eq_true c53
            try have c53b2 : (9223372036854775807 < t322.size + a2.size) = False := eq_false (Nat.not_lt.2 c53)
            replace H := Option.bind_eq_some_iff.mp H
            obtain ⟨⟨t323, t324, t325, t326, t327, t328⟩, A540, H⟩ := H
            replace H : (if (t322.size : Int) = 0 then (some false) else (if 0 ≤ (Int.tmod (wrap64 (a3)) (t322.size : Int)) then (if (Int.tmod (wrap64 (a3)) (t322.size : Int)) ≤ (t322.size : Int) then ((entry_Read.f kj6 (t322.extract 0 ((Int.tmod (wrap64 (a3)) (t322.size : Int)) : Int).toNat)).bind fun bt330 => (if t328 = 0 then (if (t323.toList == a0_0.toList && (t324 == a0_1 && (t325 == a0_2 && (t326.toList == a0_3.toList)))) = true then (if t327 = (t322.size : Int) then (if bt330.2.2.2.2.2 = 12 then ((entry_Bytes.f kj6 a1_0 a1_1 a1_2 a1_3).bind fun t337 => (some ((t337.toList == t322.toList) == (a0_0.toList == a1_0.toList && (a0_1 == a1_1 && (a0_2 == a1_2 && (a0_3.toList == a1_3.toList))))))) else (some false)) else (some false)) else (some false)) else (some false))) else (none)) else (none))) = some r := H
            have A54 := Aside0.mk A540
            clear A540
            by_cases c55 : (t322.size : Int) = 0
            · rw [if_pos c55] at H
              have c55b0 : ((t322.size : Int) == 0) = true := beq_iff_eq.mpr c55
              have c55b1 : ((t322.size : Int) != 0) = false := bne_eq_false_iff_eq.mpr c55
              clear c55
              exact absurd ((Option.some.inj H).trans HR_.out) (by decide)
            · rw [if_neg c55] at H
              have c55b0 : ((t322.size : Int) == 0) = false := beq_eq_false_iff_ne.mpr c55
              have c55b1 : ((t322.size : Int) != 0) = true := bne_iff_ne.mpr c55
              obtain ⟨ji56, hji56⟩ : ∃ j_ : Int, (Int.tmod (wrap64 (a3)) (t322.size : Int)) = j_ := ⟨_, rfl⟩
              replace H : (if 0 ≤ (ji56) then (if (ji56) ≤ (t322.size : Int) then ((entry_Read.f kj6 (t322.extract 0 ((ji56) : Int).toNat)).bind fun bt330 => (if t328 = 0 then (if (t323.toList == a0_0.toList && (t324 == a0_1 && (t325 == a0_2 && (t326.toList == a0_3.toList)))) = true then (if t327 = (t322.size : Int) then (if bt330.2.2.2.2.2 = 12 then ((entry_Bytes.f kj6 a1_0 a1_1 a1_2 a1_3).bind fun t337 => (some ((t337.toList == t322.toList) == (a0_0.toList == a1_0.toList && (a0_1 == a1_1 && (a0_2 == a1_2 && (a0_3.toList == a1_3.toList))))))) else (some false)) else (some false)) else (some false)) else (some false))) else (none)) else (none)) = some r := by first | (rw [hji56] at H; exact H) | (simp only [hji56] at H ⊢; exact H)
              (try rw [hji56] at A52)
              (try rw [hji56] at A54)
              by_cases c57 : 0 ≤ (ji56)
              · rw [if_pos c57] at H
                have c57b0 := eq_true c57
                have c57b1 : decide (0 ≤ (ji56)) = true := decide_eq_true c57
                clear c57
                by_cases c58 : (ji56) ≤ (t322.size : Int)
                · rw [if_pos c58] at H
                  have c58b0 := eq_true c58
                  have c58b1 : decide ((ji56) ≤ (t322.size : Int)) = true := decide_eq_true c58
                  clear c58
                  replace H := Option.bind_eq_some_iff.mp H
                  obtain ⟨⟨t330, t331, t332, t333, t334, t335⟩, A590, H⟩ := H
                  replace H : (if t328 = 0 then (if (t323.toList == a0_0.toList && (t324 == a0_1 && (t325 == a0_2 && (t326.toList == a0_3.toList)))) = true then (if t327 = (t322.size : Int) then (if t335 = 12 then ((entry_Bytes.f kj6 a1_0 a1_1 a1_2 a1_3).bind fun t337 => (some ((t337.toList == t322.toList) == (a0_0.toList == a1_0.toList && (a0_1 == a1_1 && (a0_2 == a1_2 && (a0_3.toList == a1_3.toList))))))) else (some false)) else (some false)) else (some false)) else (some false)) = some r := H
                  have A59 := Aside0.mk A590
                  clear A590
                  by_cases c60 : t328 = 0
                  · rw [if_pos c60] at H
                    have c60b0 : (t328 == 0) = true := beq_iff_eq.mpr c60
                    have c60b1 : (t328 != 0) = false := bne_eq_false_iff_eq.mpr c60
                    clear c60
                    by_cases c61 : (t323.toList == a0_0.toList && (t324 == a0_1 && (t325 == a0_2 && (t326.toList == a0_3.toList)))) = true
                    · rw [if_pos c61] at H
                      have c61b0 : (t323.toList == a0_0.toList && (t324 == a0_1 && (t325 == a0_2 && (t326.toList == a0_3.toList)))) = true := c61
                      (try (have c61p := c61b0; simp only [Bool.and_eq_true, beq_iff_eq, Bool.not_eq_true'] at c61p; replace c61p := eq_true c61p))
                      (try (have c61b1 : decide (t323.toList = a0_0.toList && (t324 == a0_1 && (t325 == a0_2 && (t326.toList == a0_3.toList)))) = true := by simpa using c61))
                      (try (have c61b2 : (t323.toList == a0_0.toList && (t324 == a0_1 && (t325 == a0_2 && (t326.toList == a0_3.toList)))) = true := by simpa using c61))
                      clear c61
                      by_cases c62 : t327 = (t322.size : Int)
                      · rw [if_pos c62] at H
                        have c62b0 : (t327 == (t322.size : Int)) = true := beq_iff_eq.mpr c62
                        have c62b1 : (t327 != (t322.size : Int)) = false := bne_eq_false_iff_eq.mpr c62
                        clear c62
                        by_cases c63 : t335 = 12
                        · rw [if_pos c63] at H
                          have c63b0 : (t335 == 12) = true := beq_iff_eq.mpr c63
                          have c63b1 : (t335 != 12) = false := bne_eq_false_iff_eq.mpr c63
                          clear c63
                          replace H := Option.bind_eq_some_iff.mp H
                          obtain ⟨t337, A640, H⟩ := H
                          replace H : (some ((t337.toList == t322.toList) == (a0_0.toList == a1_0.toList && (a0_1 == a1_1 && (a0_2 == a1_2 && (a0_3.toList == a1_3.toList)))))) = some r := H
                          have A64 := Aside0.mk A640
                          clear A640
                          obtain rfl := Option.some.inj H
                          have hnb65 := NB313_314.out
                          have hnc65 := NB314_313.out
                          have hcz66_0 : wc.cell? ⟨gb313, 0, none⟩ = some (.string a0_0) := (blk_cell BK313.out 0).trans rfl
                          have hcz66_1 : wc.cell? ⟨gb313, 1, none⟩ = some (.int .i64 a0_1) := (blk_cell BK313.out 1).trans rfl
                          have hcz66_2 : wc.cell? ⟨gb313, 2, none⟩ = some (.bool a0_2) := (blk_cell BK313.out 2).trans rfl
                          have hcz66_3 : wc.cell? ⟨gb313, 3, none⟩ = some (.string a0_3) := (blk_cell BK313.out 3).trans rfl
                          have hfz66_0 := blk_frozen BK313.out 0
                          have hfz66_1 := blk_frozen BK313.out 1
                          have hfz66_2 := blk_frozen BK313.out 2
                          have hfz66_3 := blk_frozen BK313.out 3
                          try go_wp2_with (first | ((with_reducible refine gate_callee (f := 19) rfl ?_); refine goesL_ (some 39) rfl rfl Try.func19 (by kernel_rfl) rfl #[.agg #[.string a0_0, .int .i64 a0_1, .bool a0_2, .string a0_3]] rfl (by (try simp only [List.map_toArray, List.map_cons, List.map_nil]); first | done | rfl | (simp only [List.length_drop, List.length_take]; rfl)) ?_; (with_reducible refine (entry_Bytes.calls kj6 a0_0 a0_1 a0_2 a0_3 t322 _ A52.out).mono ?_); rintro e w67 ⟨rfl, hb⟩; refine ⟨_, rfl, ?_⟩; have n0_ := Aside0.mk (blk_below (g := gb313) (o := .cells #[.string a0_0, .int .i64 a0_1, .bool a0_2, .string a0_3] 23 (0, 0)) (by (with_reducible repeat (first | refine blk_drewN ?_ _ | refine blk_drew ?_ | refine blk_alloc ?_ _)); exact BK313.out) hb); have n1_ := Aside0.mk (blk_below (g := gb314) (o := .cells #[.string a1_0, .int .i64 a1_1, .bool a1_2, .string a1_3] 23 (0, 0)) (by (with_reducible repeat (first | refine blk_drewN ?_ _ | refine blk_drew ?_ | refine blk_alloc ?_ _)); exact BK314.out) hb); have n2_ := Aside0.mk (below_step (by repeat (first | (with_reducible first | exact HB.out | apply below_alloc | apply pw_below_drewN | apply below_drew1 | refine below_set ?_ GE313.out | refine below_set ?_ GE314.out) | exact HB.out)) hb); clear BK313; clear BK314; clear HB; have BK313 := n0_; have BK314 := n1_; have HB := n2_; clear n0_ n1_ n2_; (try clear hb); (try clear hb2); (try clear hk); (try clear hi)) | ((with_reducible refine gate_callee (f := 11) rfl ?_); refine goesL_ (some 44) rfl rfl Try.func11 (by kernel_rfl) rfl #[.string (t322 ++ a2)] rfl (by (try simp only [List.map_toArray, List.map_cons, List.map_nil]); first | done | rfl | (simp only [List.length_drop, List.length_take]; rfl)) ?_; (with_reducible refine (entry_Read.calls kj6 (t322 ++ a2) t323 t324 t325 t326 t327 t328 _ A54.out).mono ?_); rintro e w68 ⟨rfl, hb⟩; refine ⟨_, rfl, ?_⟩; have n0_ := Aside0.mk (blk_below (g := gb313) (o := .cells #[.string a0_0, .int .i64 a0_1, .bool a0_2, .string a0_3] 23 (0, 0)) (by (with_reducible repeat (first | refine blk_drewN ?_ _ | refine blk_drew ?_ | refine blk_alloc ?_ _)); exact BK313.out) hb); have n1_ := Aside0.mk (blk_below (g := gb314) (o := .cells #[.string a1_0, .int .i64 a1_1, .bool a1_2, .string a1_3] 23 (0, 0)) (by (with_reducible repeat (first | refine blk_drewN ?_ _ | refine blk_drew ?_ | refine blk_alloc ?_ _)); exact BK314.out) hb); have n2_ := Aside0.mk (below_step (by repeat (first | (with_reducible first | exact HB.out | apply below_alloc | apply pw_below_drewN | apply below_drew1 | refine below_set ?_ GE313.out | refine below_set ?_ GE314.out) | exact HB.out)) hb); clear BK313; clear BK314; clear HB; have BK313 := n0_; have BK314 := n1_; have HB := n2_; clear n0_ n1_ n2_; (try clear hb); (try clear hb2); (try clear hk); (try clear hi)) | ((with_reducible refine gate_dst (N := 10) rfl ?_); (try (refine gate_guard (by rfl) ?_; dsimp only)); refine box_event ?hg (N := 10) ?hd (cs := #[.string (⟨#[]⟩ : ByteArray), .int .i64 0, .bool false, .string (⟨#[]⟩ : ByteArray)]) (t := 23) ?hr ?_; (case hd => rfl); (case hg => rfl); (case hr => first | (go_simp; done) | (go_simp; rfl)); intro gb329 hg w69 hbox hb; have n0_ := Aside0.mk (blk_below (g := gb313) (o := .cells #[.string a0_0, .int .i64 a0_1, .bool a0_2, .string a0_3] 23 (0, 0)) (by (with_reducible repeat (first | refine blk_drewN ?_ _ | refine blk_drew ?_ | refine blk_alloc ?_ _)); exact BK313.out) hb); have n1_ := Aside0.mk (blk_below (g := gb314) (o := .cells #[.string a1_0, .int .i64 a1_1, .bool a1_2, .string a1_3] 23 (0, 0)) (by (with_reducible repeat (first | refine blk_drewN ?_ _ | refine blk_drew ?_ | refine blk_alloc ?_ _)); exact BK314.out) hb); have n2_ := Aside0.mk (below_step (by repeat (first | (with_reducible first | exact HB.out | apply below_alloc | apply pw_below_drewN | apply below_drew1 | refine below_set ?_ GE313.out | refine below_set ?_ GE314.out) | exact HB.out)) hb); have n3_ := Aside0.mk (hbox); have n4_ := Aside0.mk ((by rw [hg]; exact (below_size (by repeat (first | (with_reducible first | exact HB.out | apply below_alloc | apply pw_below_drewN | apply below_drew1 | refine below_set ?_ GE313.out | refine below_set ?_ GE314.out) | exact HB.out))) : w.heap.size ≤ gb329)); have n5_ := Aside0.mk ((by rw [hg]; exact (below_size (by repeat (first | (with_reducible first | exact HB.out | apply below_alloc | apply pw_below_drewN | apply below_drew1 | refine below_set ?_ GE313.out | refine below_set ?_ GE314.out) | exact HB.out))) : w.heap.size ≤ gb329)); have n6_ := Aside0.mk ((by rw [hg]; exact Nat.ne_of_lt (blk_lt (g := gb313) (o := .cells #[.string a0_0, .int .i64 a0_1, .bool a0_2, .string a0_3] 23 (0, 0)) (by (with_reducible repeat (first | refine blk_drewN ?_ _ | refine blk_drew ?_ | refine blk_alloc ?_ _)); exact BK313.out)) : gb313 ≠ gb329)); have n7_ := Aside0.mk ((by rw [hg]; exact Nat.ne_of_gt (blk_lt (g := gb313) (o := .cells #[.string a0_0, .int .i64 a0_1, .bool a0_2, .string a0_3] 23 (0, 0)) (by (with_reducible repeat (first | refine blk_drewN ?_ _ | refine blk_drew ?_ | refine blk_alloc ?_ _)); exact BK313.out)) : gb329 ≠ gb313)); have n8_ := Aside0.mk ((by rw [hg]; exact Nat.ne_of_lt (blk_lt (g := gb314) (o := .cells #[.string a1_0, .int .i64 a1_1, .bool a1_2, .string a1_3] 23 (0, 0)) (by (with_reducible repeat (first | refine blk_drewN ?_ _ | refine blk_drew ?_ | refine blk_alloc ?_ _)); exact BK314.out)) : gb314 ≠ gb329)); have n9_ := Aside0.mk ((by rw [hg]; exact Nat.ne_of_gt (blk_lt (g := gb314) (o := .cells #[.string a1_0, .int .i64 a1_1, .bool a1_2, .string a1_3] 23 (0, 0)) (by (with_reducible repeat (first | refine blk_drewN ?_ _ | refine blk_drew ?_ | refine blk_alloc ?_ _)); exact BK314.out)) : gb329 ≠ gb314)); clear BK313; clear BK314; clear HB; have BK313 := n0_; have BK314 := n1_; have HB := n2_; have BK329 := n3_; have GW329 := n4_; have GE329 := n5_; have NB313_329 := n6_; have NB329_313 := n7_; have NB314_329 := n8_; have NB329_314 := n9_; clear n0_ n1_ n2_ n3_ n4_ n5_ n6_ n7_ n8_ n9_; clear hb hbox hg; have hnb70 := NB329_313.out; have hnc70 := NB313_329.out; have hnb71 := NB329_314.out; have hnc71 := NB314_329.out; have hcz72_0 : w69.cell? ⟨gb329, 0, none⟩ = some (.string (⟨#[]⟩ : ByteArray)) := (blk_cell BK329.out 0).trans rfl; have hcz72_1 : w69.cell? ⟨gb329, 1, none⟩ = some (.int .i64 0) := (blk_cell BK329.out 1).trans rfl; have hcz72_2 : w69.cell? ⟨gb329, 2, none⟩ = some (.bool false) := (blk_cell BK329.out 2).trans rfl; have hcz72_3 : w69.cell? ⟨gb329, 3, none⟩ = some (.string (⟨#[]⟩ : ByteArray)) := (blk_cell BK329.out 3).trans rfl; have hfz72_0 := blk_frozen BK329.out 0; have hfz72_1 := blk_frozen BK329.out 1; have hfz72_2 := blk_frozen BK329.out 2; have hfz72_3 := blk_frozen BK329.out 3) | ((with_reducible refine gate_callee (f := 11) rfl ?_); refine goesL_ (some 59) rfl rfl Try.func11 (by kernel_rfl) rfl #[.string (t322.extract 0 ((ji56) : Int).toNat)] rfl (by (try simp only [List.map_toArray, List.map_cons, List.map_nil]); first | done | (simp only [hji56]; rfl) | rfl | (simp only [List.length_drop, List.length_take]; rfl)) ?_; (with_reducible refine (entry_Read.calls kj6 (t322.extract 0 ((ji56) : Int).toNat) t330 t331 t332 t333 t334 t335 _ A59.out).mono ?_); rintro e w73 ⟨rfl, hb⟩; refine ⟨_, rfl, ?_⟩; have n0_ := Aside0.mk (blk_below (g := gb313) (o := .cells #[.string a0_0, .int .i64 a0_1, .bool a0_2, .string a0_3] 23 (0, 0)) (by (with_reducible repeat (first | refine blk_drewN ?_ _ | refine blk_drew ?_ | refine blk_alloc ?_ _)); refine blk_far ?_ NB313_329.out _; (with_reducible repeat (first | refine blk_drewN ?_ _ | refine blk_drew ?_ | refine blk_alloc ?_ _)); refine blk_far ?_ NB313_329.out _; (with_reducible repeat (first | refine blk_drewN ?_ _ | refine blk_drew ?_ | refine blk_alloc ?_ _)); refine blk_far ?_ NB313_329.out _; (with_reducible repeat (first | refine blk_drewN ?_ _ | refine blk_drew ?_ | refine blk_alloc ?_ _)); refine blk_far ?_ NB313_329.out _; (with_reducible repeat (first | refine blk_drewN ?_ _ | refine blk_drew ?_ | refine blk_alloc ?_ _)); exact BK313.out) hb); have n1_ := Aside0.mk (blk_below (g := gb314) (o := .cells #[.string a1_0, .int .i64 a1_1, .bool a1_2, .string a1_3] 23 (0, 0)) (by (with_reducible repeat (first | refine blk_drewN ?_ _ | refine blk_drew ?_ | refine blk_alloc ?_ _)); refine blk_far ?_ NB314_329.out _; (with_reducible repeat (first | refine blk_drewN ?_ _ | refine blk_drew ?_ | refine blk_alloc ?_ _)); refine blk_far ?_ NB314_329.out _; (with_reducible repeat (first | refine blk_drewN ?_ _ | refine blk_drew ?_ | refine blk_alloc ?_ _)); refine blk_far ?_ NB314_329.out _; (with_reducible repeat (first | refine blk_drewN ?_ _ | refine blk_drew ?_ | refine blk_alloc ?_ _)); refine blk_far ?_ NB314_329.out _; (with_reducible repeat (first | refine blk_drewN ?_ _ | refine blk_drew ?_ | refine blk_alloc ?_ _)); exact BK314.out) hb); have n2_ := Aside0.mk (blk_below (g := gb329) (o := .cells #[.string t323, .int .i64 t324, .bool t325, .string t326] 23 (0, 0)) (by (with_reducible repeat (first | refine blk_drewN ?_ _ | refine blk_drew ?_ | refine blk_alloc ?_ _)); refine blk_put (cs := #[.string t323, .int .i64 t324, .bool t325, .string (⟨#[]⟩ : ByteArray)]) ?_ 3 _ rfl; (with_reducible repeat (first | refine blk_drewN ?_ _ | refine blk_drew ?_ | refine blk_alloc ?_ _)); refine blk_put (cs := #[.string t323, .int .i64 t324, .bool false, .string (⟨#[]⟩ : ByteArray)]) ?_ 2 _ rfl; (with_reducible repeat (first | refine blk_drewN ?_ _ | refine blk_drew ?_ | refine blk_alloc ?_ _)); refine blk_put (cs := #[.string t323, .int .i64 0, .bool false, .string (⟨#[]⟩ : ByteArray)]) ?_ 1 _ rfl; (with_reducible repeat (first | refine blk_drewN ?_ _ | refine blk_drew ?_ | refine blk_alloc ?_ _)); refine blk_put (cs := #[.string (⟨#[]⟩ : ByteArray), .int .i64 0, .bool false, .string (⟨#[]⟩ : ByteArray)]) ?_ 0 _ rfl; (with_reducible repeat (first | refine blk_drewN ?_ _ | refine blk_drew ?_ | refine blk_alloc ?_ _)); exact BK329.out) hb); have n3_ := Aside0.mk (below_step (by repeat (first | (with_reducible first | exact HB.out | apply below_alloc | apply pw_below_drewN | apply below_drew1 | refine below_set ?_ GE313.out | refine below_set ?_ GE314.out | refine below_set ?_ GE329.out) | exact HB.out)) hb); clear BK313; clear BK314; clear BK329; clear HB; have BK313 := n0_; have BK314 := n1_; have BK329 := n2_; have HB := n3_; clear n0_ n1_ n2_ n3_; (try clear hb); (try clear hb2); (try clear hk); (try clear hi)) | ((with_reducible refine gate_dst (N := 13) rfl ?_); (try (refine gate_guard (by rfl) ?_; dsimp only)); refine box_event ?hg (N := 13) ?hd (cs := #[.string (⟨#[]⟩ : ByteArray), .int .i64 0, .bool false, .string (⟨#[]⟩ : ByteArray)]) (t := 23) ?hr ?_; (case hd => rfl); (case hg => rfl); (case hr => first | (go_simp; done) | (go_simp; rfl)); intro gb336 hg w74 hbox hb; have n0_ := Aside0.mk (blk_below (g := gb313) (o := .cells #[.string a0_0, .int .i64 a0_1, .bool a0_2, .string a0_3] 23 (0, 0)) (by (with_reducible repeat (first | refine blk_drewN ?_ _ | refine blk_drew ?_ | refine blk_alloc ?_ _)); exact BK313.out) hb); have n1_ := Aside0.mk (blk_below (g := gb314) (o := .cells #[.string a1_0, .int .i64 a1_1, .bool a1_2, .string a1_3] 23 (0, 0)) (by (with_reducible repeat (first | refine blk_drewN ?_ _ | refine blk_drew ?_ | refine blk_alloc ?_ _)); exact BK314.out) hb); have n2_ := Aside0.mk (blk_below (g := gb329) (o := .cells #[.string t323, .int .i64 t324, .bool t325, .string t326] 23 (0, 0)) (by (with_reducible repeat (first | refine blk_drewN ?_ _ | refine blk_drew ?_ | refine blk_alloc ?_ _)); exact BK329.out) hb); have n3_ := Aside0.mk (below_step (by repeat (first | (with_reducible first | exact HB.out | apply below_alloc | apply pw_below_drewN | apply below_drew1 | refine below_set ?_ GE313.out | refine below_set ?_ GE314.out | refine below_set ?_ GE329.out) | exact HB.out)) hb); have n4_ := Aside0.mk (hbox); have n5_ := Aside0.mk ((by rw [hg]; exact (below_size (by repeat (first | (with_reducible first | exact HB.out | apply below_alloc | apply pw_below_drewN | apply below_drew1 | refine below_set ?_ GE313.out | refine below_set ?_ GE314.out | refine below_set ?_ GE329.out) | exact HB.out))) : w.heap.size ≤ gb336)); have n6_ := Aside0.mk ((by rw [hg]; exact (below_size (by repeat (first | (with_reducible first | exact HB.out | apply below_alloc | apply pw_below_drewN | apply below_drew1 | refine below_set ?_ GE313.out | refine below_set ?_ GE314.out | refine below_set ?_ GE329.out) | exact HB.out))) : w.heap.size ≤ gb336)); have n7_ := Aside0.mk ((by rw [hg]; exact Nat.ne_of_lt (blk_lt (g := gb313) (o := .cells #[.string a0_0, .int .i64 a0_1, .bool a0_2, .string a0_3] 23 (0, 0)) (by (with_reducible repeat (first | refine blk_drewN ?_ _ | refine blk_drew ?_ | refine blk_alloc ?_ _)); exact BK313.out)) : gb313 ≠ gb336)); have n8_ := Aside0.mk ((by rw [hg]; exact Nat.ne_of_gt (blk_lt (g := gb313) (o := .cells #[.string a0_0, .int .i64 a0_1, .bool a0_2, .string a0_3] 23 (0, 0)) (by (with_reducible repeat (first | refine blk_drewN ?_ _ | refine blk_drew ?_ | refine blk_alloc ?_ _)); exact BK313.out)) : gb336 ≠ gb313)); have n9_ := Aside0.mk ((by rw [hg]; exact Nat.ne_of_lt (blk_lt (g := gb314) (o := .cells #[.string a1_0, .int .i64 a1_1, .bool a1_2, .string a1_3] 23 (0, 0)) (by (with_reducible repeat (first | refine blk_drewN ?_ _ | refine blk_drew ?_ | refine blk_alloc ?_ _)); exact BK314.out)) : gb314 ≠ gb336)); have n10_ := Aside0.mk ((by rw [hg]; exact Nat.ne_of_gt (blk_lt (g := gb314) (o := .cells #[.string a1_0, .int .i64 a1_1, .bool a1_2, .string a1_3] 23 (0, 0)) (by (with_reducible repeat (first | refine blk_drewN ?_ _ | refine blk_drew ?_ | refine blk_alloc ?_ _)); exact BK314.out)) : gb336 ≠ gb314)); have n11_ := Aside0.mk ((by rw [hg]; exact Nat.ne_of_lt (blk_lt (g := gb329) (o := .cells #[.string t323, .int .i64 t324, .bool t325, .string t326] 23 (0, 0)) (by (with_reducible repeat (first | refine blk_drewN ?_ _ | refine blk_drew ?_ | refine blk_alloc ?_ _)); exact BK329.out)) : gb329 ≠ gb336)); have n12_ := Aside0.mk ((by rw [hg]; exact Nat.ne_of_gt (blk_lt (g := gb329) (o := .cells #[.string t323, .int .i64 t324, .bool t325, .string t326] 23 (0, 0)) (by (with_reducible repeat (first | refine blk_drewN ?_ _ | refine blk_drew ?_ | refine blk_alloc ?_ _)); exact BK329.out)) : gb336 ≠ gb329)); clear BK313; clear BK314; clear BK329; clear HB; have BK313 := n0_; have BK314 := n1_; have BK329 := n2_; have HB := n3_; have BK336 := n4_; have GW336 := n5_; have GE336 := n6_; have NB313_336 := n7_; have NB336_313 := n8_; have NB314_336 := n9_; have NB336_314 := n10_; have NB329_336 := n11_; have NB336_329 := n12_; clear n0_ n1_ n2_ n3_ n4_ n5_ n6_ n7_ n8_ n9_ n10_ n11_ n12_; clear hb hbox hg; have hnb75 := NB336_313.out; have hnc75 := NB313_336.out; have hnb76 := NB336_314.out; have hnc76 := NB314_336.out; have hnb77 := NB336_329.out; have hnc77 := NB329_336.out; have hcz78_0 : w74.cell? ⟨gb336, 0, none⟩ = some (.string (⟨#[]⟩ : ByteArray)) := (blk_cell BK336.out 0).trans rfl; have hcz78_1 : w74.cell? ⟨gb336, 1, none⟩ = some (.int .i64 0) := (blk_cell BK336.out 1).trans rfl; have hcz78_2 : w74.cell? ⟨gb336, 2, none⟩ = some (.bool false) := (blk_cell BK336.out 2).trans rfl; have hcz78_3 : w74.cell? ⟨gb336, 3, none⟩ = some (.string (⟨#[]⟩ : ByteArray)) := (blk_cell BK336.out 3).trans rfl; have hfz78_0 := blk_frozen BK336.out 0; have hfz78_1 := blk_frozen BK336.out 1; have hfz78_2 := blk_frozen BK336.out 2; have hfz78_3 := blk_frozen BK336.out 3))
                          have n0_ : Aside0 (((((w74.setCell ⟨gb336, 0, none⟩ (.string t330)).setCell ⟨gb336, 1, none⟩ (.int .i64 t331)).setCell ⟨gb336, 2, none⟩ (.bool t332)).setCell ⟨gb336, 3, none⟩ (.string t333)).heap[gb313]? = some (.cells #[.string a0_0, .int .i64 a0_1, .bool a0_2, .string a0_3] 23 (0, 0))) := ⟨by (with_reducible repeat (first | refine blk_drewN ?_ _ | refine blk_drew ?_ | refine blk_alloc ?_ _)); refine blk_far ?_ NB313_336.out _; (with_reducible repeat (first | refine blk_drewN ?_ _ | refine blk_drew ?_ | refine blk_alloc ?_ _)); refine blk_far ?_ NB313_336.out _; (with_reducible repeat (first | refine blk_drewN ?_ _ | refine blk_drew ?_ | refine blk_alloc ?_ _)); refine blk_far ?_ NB313_336.out _; (with_reducible repeat (first | refine blk_drewN ?_ _ | refine blk_drew ?_ | refine blk_alloc ?_ _)); refine blk_far ?_ NB313_336.out _; (with_reducible repeat (first | refine blk_drewN ?_ _ | refine blk_drew ?_ | refine blk_alloc ?_ _)); exact BK313.out⟩
                          have n1_ : Aside0 (((((w74.setCell ⟨gb336, 0, none⟩ (.string t330)).setCell ⟨gb336, 1, none⟩ (.int .i64 t331)).setCell ⟨gb336, 2, none⟩ (.bool t332)).setCell ⟨gb336, 3, none⟩ (.string t333)).heap[gb314]? = some (.cells #[.string a1_0, .int .i64 a1_1, .bool a1_2, .string a1_3] 23 (0, 0))) := ⟨by (with_reducible repeat (first | refine blk_drewN ?_ _ | refine blk_drew ?_ | refine blk_alloc ?_ _)); refine blk_far ?_ NB314_336.out _; (with_reducible repeat (first | refine blk_drewN ?_ _ | refine blk_drew ?_ | refine blk_alloc ?_ _)); refine blk_far ?_ NB314_336.out _; (with_reducible repeat (first | refine blk_drewN ?_ _ | refine blk_drew ?_ | refine blk_alloc ?_ _)); refine blk_far ?_ NB314_336.out _; (with_reducible repeat (first | refine blk_drewN ?_ _ | refine blk_drew ?_ | refine blk_alloc ?_ _)); refine blk_far ?_ NB314_336.out _; (with_reducible repeat (first | refine blk_drewN ?_ _ | refine blk_drew ?_ | refine blk_alloc ?_ _)); exact BK314.out⟩
                          have n2_ : Aside0 (((((w74.setCell ⟨gb336, 0, none⟩ (.string t330)).setCell ⟨gb336, 1, none⟩ (.int .i64 t331)).setCell ⟨gb336, 2, none⟩ (.bool t332)).setCell ⟨gb336, 3, none⟩ (.string t333)).heap[gb329]? = some (.cells #[.string t323, .int .i64 t324, .bool t325, .string t326] 23 (0, 0))) := ⟨by (with_reducible repeat (first | refine blk_drewN ?_ _ | refine blk_drew ?_ | refine blk_alloc ?_ _)); refine blk_far ?_ NB329_336.out _; (with_reducible repeat (first | refine blk_drewN ?_ _ | refine blk_drew ?_ | refine blk_alloc ?_ _)); refine blk_far ?_ NB329_336.out _; (with_reducible repeat (first | refine blk_drewN ?_ _ | refine blk_drew ?_ | refine blk_alloc ?_ _)); refine blk_far ?_ NB329_336.out _; (with_reducible repeat (first | refine blk_drewN ?_ _ | refine blk_drew ?_ | refine blk_alloc ?_ _)); refine blk_far ?_ NB329_336.out _; (with_reducible repeat (first | refine blk_drewN ?_ _ | refine blk_drew ?_ | refine blk_alloc ?_ _)); exact BK329.out⟩
                          have n3_ : Aside0 (((((w74.setCell ⟨gb336, 0, none⟩ (.string t330)).setCell ⟨gb336, 1, none⟩ (.int .i64 t331)).setCell ⟨gb336, 2, none⟩ (.bool t332)).setCell ⟨gb336, 3, none⟩ (.string t333)).heap[gb336]? = some (.cells #[.string t330, .int .i64 t331, .bool t332, .string t333] 23 (0, 0))) := ⟨by (with_reducible repeat (first | refine blk_drewN ?_ _ | refine blk_drew ?_ | refine blk_alloc ?_ _)); refine blk_put (cs := #[.string t330, .int .i64 t331, .bool t332, .string (⟨#[]⟩ : ByteArray)]) ?_ 3 _ rfl; (with_reducible repeat (first | refine blk_drewN ?_ _ | refine blk_drew ?_ | refine blk_alloc ?_ _)); refine blk_put (cs := #[.string t330, .int .i64 t331, .bool false, .string (⟨#[]⟩ : ByteArray)]) ?_ 2 _ rfl; (with_reducible repeat (first | refine blk_drewN ?_ _ | refine blk_drew ?_ | refine blk_alloc ?_ _)); refine blk_put (cs := #[.string t330, .int .i64 0, .bool false, .string (⟨#[]⟩ : ByteArray)]) ?_ 1 _ rfl; (with_reducible repeat (first | refine blk_drewN ?_ _ | refine blk_drew ?_ | refine blk_alloc ?_ _)); refine blk_put (cs := #[.string (⟨#[]⟩ : ByteArray), .int .i64 0, .bool false, .string (⟨#[]⟩ : ByteArray)]) ?_ 0 _ rfl; (with_reducible repeat (first | refine blk_drewN ?_ _ | refine blk_drew ?_ | refine blk_alloc ?_ _)); exact BK336.out⟩
                          have n4_ : Aside0 (Below w.heap.size w ((((w74.setCell ⟨gb336, 0, none⟩ (.string t330)).setCell ⟨gb336, 1, none⟩ (.int .i64 t331)).setCell ⟨gb336, 2, none⟩ (.bool t332)).setCell ⟨gb336, 3, none⟩ (.string t333))) := ⟨by repeat (first | (with_reducible first | exact HB.out | apply below_alloc | apply pw_below_drewN | apply below_drew1 | refine below_set ?_ GE313.out | refine below_set ?_ GE314.out | refine below_set ?_ GE329.out | refine below_set ?_ GE336.out) | exact HB.out)⟩
                          (try clear BK313)
                          (try clear BK314)
                          (try clear BK329)
                          (try clear BK336)
                          (try clear HB)
                          generalize ((((w74.setCell ⟨gb336, 0, none⟩ (.string t330)).setCell ⟨gb336, 1, none⟩ (.int .i64 t331)).setCell ⟨gb336, 2, none⟩ (.bool t332)).setCell ⟨gb336, 3, none⟩ (.string t333)) = w79 at n0_ n1_ n2_ n3_ n4_ ⊢
                          have BK313 := n0_
                          have BK314 := n1_
                          have BK329 := n2_
                          have BK336 := n3_
                          have HB := n4_
                          clear n0_ n1_ n2_ n3_ n4_
                          have n0_ := Aside0.mk (blk_drew BK313.out)
                          have n1_ := Aside0.mk (blk_drew BK314.out)
                          have n2_ := Aside0.mk (blk_drew BK329.out)
                          have n3_ := Aside0.mk (blk_drew BK336.out)
                          have n4_ := Aside0.mk (below_drew1 HB.out)
                          clear BK313
                          clear BK314
                          clear BK329
                          clear BK336
                          clear HB
                          have BK313 := n0_
                          have BK314 := n1_
                          have BK329 := n2_
                          have BK336 := n3_
                          have HB := n4_
                          clear n0_ n1_ n2_ n3_ n4_
                          refine start_ (n := 28) (S := fun w' => w'.cell? ⟨gb329, 0, none⟩ = some (.string t323) ∧ w'.cell? ⟨gb329, 1, none⟩ = some (.int .i64 t324) ∧ w'.cell? ⟨gb329, 2, none⟩ = some (.bool t325) ∧ w'.cell? ⟨gb329, 3, none⟩ = some (.string t326) ∧ w'.cell? ⟨gb313, 0, none⟩ = some (.string a0_0) ∧ w'.cell? ⟨gb313, 1, none⟩ = some (.int .i64 a0_1) ∧ w'.cell? ⟨gb313, 2, none⟩ = some (.bool a0_2) ∧ w'.cell? ⟨gb313, 3, none⟩ = some (.string a0_3) ∧ w'.cell? ⟨gb314, 0, none⟩ = some (.string a1_0) ∧ w'.cell? ⟨gb314, 1, none⟩ = some (.int .i64 a1_1) ∧ w'.cell? ⟨gb314, 2, none⟩ = some (.bool a1_2) ∧ w'.cell? ⟨gb314, 3, none⟩ = some (.string a1_3)) (ds := []) #[false, false, false, false, false, false, false, false, false, false, false, false, false, false, false, false, false, false, false, false, false, false, false, false, false, false, false, false] (by kernel_rfl) rfl rfl ⟨(blk_cell BK329.out 0).trans rfl, (blk_cell BK329.out 1).trans rfl, (blk_cell BK329.out 2).trans rfl, (blk_cell BK329.out 3).trans rfl, (blk_cell BK313.out 0).trans rfl, (blk_cell BK313.out 1).trans rfl, (blk_cell BK313.out 2).trans rfl, (blk_cell BK313.out 3).trans rfl, (blk_cell BK314.out 0).trans rfl, (blk_cell BK314.out 1).trans rfl, (blk_cell BK314.out 2).trans rfl, (blk_cell BK314.out 3).trans rfl⟩ (fun hHeld => ?_); refine with_tabW ravelinlaw6_EntryBack.tab10 ravelinlaw6_EntryBack.bits10 (fun HT_ HW_ => ?_)
                          generalize w79.drew = w80 at BK313 BK314 BK329 BK336 HB hHeld ⊢
                          refine pure_ (i := 0) (N := some 63) (v := ?_) (a' := ?_) #[true, false, false, false, false, false, false, false, false, false, false, false, false, false, false, false, false, false, false, false, false, false, false, false, false, false, false, false] rfl rfl (any_of HT_.out (by kernel_rfl)) (fun _ _ _ h => h) (Or.inl ⟨by rfl, ?_⟩) ?_ ?_
                          rotate_left
                          · intro w'
                            go_simp
                            with_reducible rfl
                          rotate_left
                          · simp only [Act.put, List.setIfInBounds_toArray, List.set_cons_zero, List.set_cons_succ, i64_w, i32_w]
                            rfl
                          refine pure_ (i := 1) (N := some 64) (v := ?_) (a' := ?_) #[true, true, false, false, false, false, false, false, false, false, false, false, false, false, false, false, false, false, false, false, false, false, false, false, false, false, false, false] rfl rfl (any_of HT_.out (by kernel_rfl)) (fun _ _ _ h => h) (Or.inl ⟨by rfl, ?_⟩) ?_ ?_
                          rotate_left
                          · intro w'
                            go_simp
                            with_reducible rfl
                          rotate_left
                          · simp only [Act.put, List.setIfInBounds_toArray, List.set_cons_zero, List.set_cons_succ, i64_w, i32_w]
                            rfl
                          refine pure_ (i := 2) (N := some 65) (v := ?_) (a' := ?_) #[true, true, true, false, false, false, false, false, false, false, false, false, false, false, false, false, false, false, false, false, false, false, false, false, false, false, false, false] rfl rfl (any_of HT_.out (by kernel_rfl)) (fun _ _ _ h => h) (Or.inl ⟨by rfl, ?_⟩) ?_ ?_
                          rotate_left
                          · intro w'
                            go_simp
                            with_reducible rfl
                          rotate_left
                          · simp only [Act.put, List.setIfInBounds_toArray, List.set_cons_zero, List.set_cons_succ, i64_w, i32_w]
                            rfl
                          refine take_ (i := 3) (N := some 66) (v := ?_) (a' := ?_) #[true, true, true, true, false, false, false, false, false, false, false, false, false, false, false, false, false, false, false, false, false, false, false, false, false, false, false, false] rfl rfl (take_ofW HT_.out HW_.out (by kernel_rfl)) (fun _ _ _ h => h) (Or.inl ⟨by rfl, ?_⟩) hHeld ?_ ?_
                          rotate_left
                          · rintro w' ⟨s0, s1, s2, s3, s4, s5, s6, s7, s8, s9, s10, s11⟩
                            go_simp
                            with_reducible rfl
                          rotate_left
                          · simp only [Act.put, List.setIfInBounds_toArray, List.set_cons_zero, List.set_cons_succ, i64_w, i32_w]
                            rfl
                          refine take_ (i := 4) (N := some 67) (v := ?_) (a' := ?_) #[true, true, true, true, true, false, false, false, false, false, false, false, false, false, false, false, false, false, false, false, false, false, false, false, false, false, false, false] rfl rfl (take_ofW HT_.out HW_.out (by kernel_rfl)) (fun _ _ _ h => h) (Or.inl ⟨by rfl, ?_⟩) hHeld ?_ ?_
                          rotate_left
                          · rintro w' ⟨s0, s1, s2, s3, s4, s5, s6, s7, s8, s9, s10, s11⟩
                            go_simp
                            with_reducible rfl
                          rotate_left
                          · simp only [Act.put, List.setIfInBounds_toArray, List.set_cons_zero, List.set_cons_succ, i64_w, i32_w]
                            rfl
                          refine pure_ (i := 5) (N := some 68) (v := ?_) (a' := ?_) #[true, true, true, true, true, true, false, false, false, false, false, false, false, false, false, false, false, false, false, false, false, false, false, false, false, false, false, false] rfl rfl (any_of HT_.out (by kernel_rfl)) (fun _ _ _ h => h) (Or.inl ⟨by rfl, ?_⟩) ?_ ?_
                          rotate_left
                          · intro w'
                            go_simp
                            with_reducible rfl
                          rotate_left
                          · simp only [Act.put, List.setIfInBounds_toArray, List.set_cons_zero, List.set_cons_succ, i64_w, i32_w]
                            rfl
                          refine pure_ (i := 6) (N := some 69) (v := ?_) (a' := ?_) #[true, true, true, true, true, true, true, false, false, false, false, false, false, false, false, false, false, false, false, false, false, false, false, false, false, false, false, false] rfl rfl (any_of HT_.out (by kernel_rfl)) (fun _ _ _ h => h) (Or.inl ⟨by rfl, ?_⟩) ?_ ?_
                          rotate_left
                          · intro w'
                            go_simp
                            with_reducible rfl
                          rotate_left
                          · simp only [Act.put, List.setIfInBounds_toArray, List.set_cons_zero, List.set_cons_succ, i64_w, i32_w]
                            rfl
                          refine pure_ (i := 7) (N := some 70) (v := ?_) (a' := ?_) #[true, true, true, true, true, true, true, true, false, false, false, false, false, false, false, false, false, false, false, false, false, false, false, false, false, false, false, false] rfl rfl (any_of HT_.out (by kernel_rfl)) (fun _ _ _ h => h) (Or.inl ⟨by rfl, ?_⟩) ?_ ?_
                          rotate_left
                          · intro w'
                            go_simp
                            with_reducible rfl
                          rotate_left
                          · simp only [Act.put, List.setIfInBounds_toArray, List.set_cons_zero, List.set_cons_succ, i64_w, i32_w]
                            rfl
                          refine pure_ (i := 8) (N := some 71) (v := ?_) (a' := ?_) #[true, true, true, true, true, true, true, true, true, false, false, false, false, false, false, false, false, false, false, false, false, false, false, false, false, false, false, false] rfl rfl (any_of HT_.out (by kernel_rfl)) (fun _ _ _ h => h) (Or.inl ⟨by rfl, ?_⟩) ?_ ?_
                          rotate_left
                          · intro w'
                            go_simp
                            with_reducible rfl
                          rotate_left
                          · simp only [Act.put, List.setIfInBounds_toArray, List.set_cons_zero, List.set_cons_succ, i64_w, i32_w]
                            rfl
                          refine pure_ (i := 9) (N := some 72) (v := ?_) (a' := ?_) #[true, true, true, true, true, true, true, true, true, true, false, false, false, false, false, false, false, false, false, false, false, false, false, false, false, false, false, false] rfl rfl (any_of HT_.out (by kernel_rfl)) (fun _ _ _ h => h) (Or.inl ⟨by rfl, ?_⟩) ?_ ?_
                          rotate_left
                          · intro w'
                            go_simp
                            with_reducible rfl
                          rotate_left
                          · simp only [Act.put, List.setIfInBounds_toArray, List.set_cons_zero, List.set_cons_succ, i64_w, i32_w]
                            rfl
                          refine pure_ (i := 10) (N := some 73) (v := ?_) (a' := ?_) #[true, true, true, true, true, true, true, true, true, true, true, false, false, false, false, false, false, false, false, false, false, false, false, false, false, false, false, false] rfl rfl (any_of HT_.out (by kernel_rfl)) (fun _ _ _ h => h) (Or.inl ⟨by rfl, ?_⟩) ?_ ?_
                          rotate_left
                          · intro w'
                            go_simp
                            with_reducible rfl
                          rotate_left
                          · simp only [Act.put, List.setIfInBounds_toArray, List.set_cons_zero, List.set_cons_succ, i64_w, i32_w]
                            rfl
                          refine pure_ (i := 11) (N := some 74) (v := ?_) (a' := ?_) #[true, true, true, true, true, true, true, true, true, true, true, true, false, false, false, false, false, false, false, false, false, false, false, false, false, false, false, false] rfl rfl (any_of HT_.out (by kernel_rfl)) (fun _ _ _ h => h) (Or.inl ⟨by rfl, ?_⟩) ?_ ?_
                          rotate_left
                          · intro w'
                            go_simp
                            with_reducible rfl
                          rotate_left
                          · simp only [Act.put, List.setIfInBounds_toArray, List.set_cons_zero, List.set_cons_succ, i64_w, i32_w]
                            rfl
                          refine pure_ (i := 12) (N := some 75) (v := ?_) (a' := ?_) #[true, true, true, true, true, true, true, true, true, true, true, true, true, false, false, false, false, false, false, false, false, false, false, false, false, false, false, false] rfl rfl (any_of HT_.out (by kernel_rfl)) (fun _ _ _ h => h) (Or.inl ⟨by rfl, ?_⟩) ?_ ?_
                          rotate_left
                          · intro w'
                            go_simp
                            with_reducible rfl
                          rotate_left
                          · simp only [Act.put, List.setIfInBounds_toArray, List.set_cons_zero, List.set_cons_succ, i64_w, i32_w]
                            rfl
                          refine pure_ (i := 13) (N := some 76) (v := ?_) (a' := ?_) #[true, true, true, true, true, true, true, true, true, true, true, true, true, true, false, false, false, false, false, false, false, false, false, false, false, false, false, false] rfl rfl (any_of HT_.out (by kernel_rfl)) (fun _ _ _ h => h) (Or.inl ⟨by rfl, ?_⟩) ?_ ?_
                          rotate_left
                          · intro w'
                            go_simp
                            with_reducible rfl
                          rotate_left
                          · simp only [Act.put, List.setIfInBounds_toArray, List.set_cons_zero, List.set_cons_succ, i64_w, i32_w]
                            rfl
                          refine pure_ (i := 14) (N := some 77) (v := ?_) (a' := ?_) #[true, true, true, true, true, true, true, true, true, true, true, true, true, true, true, false, false, false, false, false, false, false, false, false, false, false, false, false] rfl rfl (any_of HT_.out (by kernel_rfl)) (fun _ _ _ h => h) (Or.inl ⟨by rfl, ?_⟩) ?_ ?_
                          rotate_left
                          · intro w'
                            go_simp
                            with_reducible rfl
                          rotate_left
                          · simp only [Act.put, List.setIfInBounds_toArray, List.set_cons_zero, List.set_cons_succ, i64_w, i32_w]
                            rfl
                          refine pure_ (i := 15) (N := some 78) (v := ?_) (a' := ?_) #[true, true, true, true, true, true, true, true, true, true, true, true, true, true, true, true, false, false, false, false, false, false, false, false, false, false, false, false] rfl rfl (any_of HT_.out (by kernel_rfl)) (fun _ _ _ h => h) (Or.inl ⟨by rfl, ?_⟩) ?_ ?_
                          rotate_left
                          · intro w'
                            go_simp
                            with_reducible rfl
                          rotate_left
                          · simp only [Act.put, List.setIfInBounds_toArray, List.set_cons_zero, List.set_cons_succ, i64_w, i32_w]
                            rfl
                          refine pure_ (i := 16) (N := some 79) (v := ?_) (a' := ?_) #[true, true, true, true, true, true, true, true, true, true, true, true, true, true, true, true, true, false, false, false, false, false, false, false, false, false, false, false] rfl rfl (any_of HT_.out (by kernel_rfl)) (fun _ _ _ h => h) (Or.inl ⟨by rfl, ?_⟩) ?_ ?_
                          rotate_left
                          · intro w'
                            go_simp
                            with_reducible rfl
                          rotate_left
                          · simp only [Act.put, List.setIfInBounds_toArray, List.set_cons_zero, List.set_cons_succ, i64_w, i32_w]
                            rfl
                          refine pure_ (i := 17) (N := some 80) (v := ?_) (a' := ?_) #[true, true, true, true, true, true, true, true, true, true, true, true, true, true, true, true, true, true, false, false, false, false, false, false, false, false, false, false] rfl rfl (any_of HT_.out (by kernel_rfl)) (fun _ _ _ h => h) (Or.inl ⟨by rfl, ?_⟩) ?_ ?_
                          rotate_left
                          · intro w'
                            go_simp
                            with_reducible rfl
                          rotate_left
                          · simp only [Act.put, List.setIfInBounds_toArray, List.set_cons_zero, List.set_cons_succ, i64_w, i32_w]
                            rfl
                          refine pure_ (i := 20) (N := some 83) (v := ?_) (a' := ?_) #[true, true, true, true, true, true, true, true, true, true, true, true, true, true, true, true, true, true, false, false, true, false, false, false, false, false, false, false] rfl rfl (any_of HT_.out (by kernel_rfl)) (fun _ _ _ h => h) (Or.inl ⟨by rfl, ?_⟩) ?_ ?_
                          rotate_left
                          · intro w'
                            go_simp
                            with_reducible rfl
                          rotate_left
                          · simp only [Act.put, List.setIfInBounds_toArray, List.set_cons_zero, List.set_cons_succ, i64_w, i32_w]
                            rfl
                          refine take_ (i := 18) (N := some 81) (v := ?_) (a' := ?_) #[true, true, true, true, true, true, true, true, true, true, true, true, true, true, true, true, true, true, true, false, true, false, false, false, false, false, false, false] rfl rfl (take_ofW HT_.out HW_.out (by kernel_rfl)) (fun _ _ _ h => h) (Or.inl ⟨by rfl, ?_⟩) hHeld ?_ ?_
                          rotate_left
                          · rintro w' ⟨s0, s1, s2, s3, s4, s5, s6, s7, s8, s9, s10, s11⟩
                            go_simp
                            with_reducible rfl
                          rotate_left
                          · simp only [Act.put, List.setIfInBounds_toArray, List.set_cons_zero, List.set_cons_succ, i64_w, i32_w]
                            rfl
                          refine take_ (i := 22) (N := some 85) (v := ?_) (a' := ?_) #[true, true, true, true, true, true, true, true, true, true, true, true, true, true, true, true, true, true, true, false, true, false, true, false, false, false, false, false] rfl rfl (take_ofW HT_.out HW_.out (by kernel_rfl)) (fun _ _ _ h => h) (Or.inl ⟨by rfl, ?_⟩) hHeld ?_ ?_
                          rotate_left
                          · rintro w' ⟨s0, s1, s2, s3, s4, s5, s6, s7, s8, s9, s10, s11⟩
                            go_simp
                            with_reducible rfl
                          rotate_left
                          · simp only [Act.put, List.setIfInBounds_toArray, List.set_cons_zero, List.set_cons_succ, i64_w, i32_w]
                            rfl
                          refine take_ (i := 23) (N := some 86) (v := ?_) (a' := ?_) #[true, true, true, true, true, true, true, true, true, true, true, true, true, true, true, true, true, true, true, false, true, false, true, true, false, false, false, false] rfl rfl (take_ofW HT_.out HW_.out (by kernel_rfl)) (fun _ _ _ h => h) (Or.inl ⟨by rfl, ?_⟩) hHeld ?_ ?_
                          rotate_left
                          · rintro w' ⟨s0, s1, s2, s3, s4, s5, s6, s7, s8, s9, s10, s11⟩
                            go_simp
                            with_reducible rfl
                          rotate_left
                          · simp only [Act.put, List.setIfInBounds_toArray, List.set_cons_zero, List.set_cons_succ, i64_w, i32_w]
                            rfl
                          refine pure_ (i := 24) (N := some 87) (v := ?_) (a' := ?_) #[true, true, true, true, true, true, true, true, true, true, true, true, true, true, true, true, true, true, true, false, true, false, true, true, true, false, false, false] rfl rfl (any_of HT_.out (by kernel_rfl)) (fun _ _ _ h => h) (Or.inl ⟨by rfl, ?_⟩) ?_ ?_
                          rotate_left
                          · intro w'
                            go_simp
                            with_reducible rfl
                          rotate_left
                          · simp only [Act.put, List.setIfInBounds_toArray, List.set_cons_zero, List.set_cons_succ, i64_w, i32_w]
                            rfl
                          refine one_ (i := 19) (N := some 82) #[true, true, true, true, true, true, true, true, true, true, true, true, true, true, true, true, true, true, true, true, true, false, true, true, true, false, false, false] rfl rfl (one_of HT_.out (by kernel_rfl)) (by decide) (fun K hK => ?_)
                          refine goes_ Try.func19 (by kernel_rfl) rfl #[.agg #[.string a1_0, .int .i64 a1_1, .bool a1_2, .string a1_3]] (by rfl) rfl rfl (by (try simp only [List.map_toArray, List.map_cons, List.map_nil]); first | done | rfl | (simp only [List.length_drop, List.length_take]; rfl)) ?_
                          with_reducible refine (entry_Bytes.calls kj6 a1_0 a1_1 a1_2 a1_3 t337 _ A64.out).mono ?_
                          rintro e w81 ⟨rfl, hb⟩
                          refine ⟨_, rfl, ?_⟩
                          have n0_ := Aside0.mk (blk_below (g := gb313) (o := .cells #[.string a0_0, .int .i64 a0_1, .bool a0_2, .string a0_3] 23 (0, 0)) (by (with_reducible repeat (first | refine blk_drewN ?_ _ | refine blk_drew ?_ | refine blk_alloc ?_ _)); exact BK313.out) hb)
                          have n1_ := Aside0.mk (blk_below (g := gb314) (o := .cells #[.string a1_0, .int .i64 a1_1, .bool a1_2, .string a1_3] 23 (0, 0)) (by (with_reducible repeat (first | refine blk_drewN ?_ _ | refine blk_drew ?_ | refine blk_alloc ?_ _)); exact BK314.out) hb)
                          have n2_ := Aside0.mk (blk_below (g := gb329) (o := .cells #[.string t323, .int .i64 t324, .bool t325, .string t326] 23 (0, 0)) (by (with_reducible repeat (first | refine blk_drewN ?_ _ | refine blk_drew ?_ | refine blk_alloc ?_ _)); exact BK329.out) hb)
                          have n3_ := Aside0.mk (blk_below (g := gb336) (o := .cells #[.string t330, .int .i64 t331, .bool t332, .string t333] 23 (0, 0)) (by (with_reducible repeat (first | refine blk_drewN ?_ _ | refine blk_drew ?_ | refine blk_alloc ?_ _)); exact BK336.out) hb)
                          have n4_ := Aside0.mk (below_step (by repeat (first | (with_reducible first | exact HB.out | apply below_alloc | apply pw_below_drewN | apply below_drew1 | refine below_set ?_ GE313.out | refine below_set ?_ GE314.out | refine below_set ?_ GE329.out | refine below_set ?_ GE336.out) | exact HB.out)) hb)
                          clear BK313
                          clear BK314
                          clear BK329
                          clear BK336
                          clear HB
                          have BK313 := n0_
                          have BK314 := n1_
                          have BK329 := n2_
                          have BK336 := n3_
                          have HB := n4_
                          clear n0_ n1_ n2_ n3_ n4_
                          (try clear hb)
                          (try clear hb2)
                          (try clear hk)
                          (try clear hi)
                          refine hK.out _ _ ⟨(blk_cell BK329.out 0).trans rfl, (blk_cell BK329.out 1).trans rfl, (blk_cell BK329.out 2).trans rfl, (blk_cell BK329.out 3).trans rfl, (blk_cell BK313.out 0).trans rfl, (blk_cell BK313.out 1).trans rfl, (blk_cell BK313.out 2).trans rfl, (blk_cell BK313.out 3).trans rfl, (blk_cell BK314.out 0).trans rfl, (blk_cell BK314.out 1).trans rfl, (blk_cell BK314.out 2).trans rfl, (blk_cell BK314.out 3).trans rfl⟩ (fun hHeld => ?_)
                          clear hK K
                          refine norm_ (a' := ?_) ?_ ?_
                          rotate_left
                          · show Act.put _ (some 82) _ = _
                            simp only [Act.put, List.setIfInBounds_toArray, List.set_cons_zero, List.set_cons_succ, i64_w, i32_w]
                            rfl
                          refine pure_ (i := 21) (N := some 84) (v := ?_) (a' := ?_) #[true, true, true, true, true, true, true, true, true, true, true, true, true, true, true, true, true, true, true, true, true, true, true, true, true, false, false, false] rfl rfl (any_of HT_.out (by kernel_rfl)) (fun _ _ _ h => h) (Or.inl ⟨by rfl, ?_⟩) ?_ ?_
                          rotate_left
                          · intro w'
                            go_simp
                            with_reducible rfl
                          rotate_left
                          · simp only [Act.put, List.setIfInBounds_toArray, List.set_cons_zero, List.set_cons_succ, i64_w, i32_w]
                            rfl
                          refine pure_ (i := 25) (N := some 88) (v := ?_) (a' := ?_) #[true, true, true, true, true, true, true, true, true, true, true, true, true, true, true, true, true, true, true, true, true, true, true, true, true, true, false, false] rfl rfl (any_of HT_.out (by kernel_rfl)) (fun _ _ _ h => h) (Or.inl ⟨by rfl, ?_⟩) ?_ ?_
                          rotate_left
                          · intro w'
                            go_simp
                            with_reducible rfl
                          rotate_left
                          · simp only [Act.put, List.setIfInBounds_toArray, List.set_cons_zero, List.set_cons_succ, i64_w, i32_w]
                            rfl
                          refine pure_ (i := 26) (N := some 89) (v := ?_) (a' := ?_) #[true, true, true, true, true, true, true, true, true, true, true, true, true, true, true, true, true, true, true, true, true, true, true, true, true, true, true, false] rfl rfl (any_of HT_.out (by kernel_rfl)) (fun _ _ _ h => h) (Or.inl ⟨by rfl, ?_⟩) ?_ ?_
                          rotate_left
                          · intro w'
                            go_simp
                            with_reducible rfl
                          rotate_left
                          · simp only [Act.put, List.setIfInBounds_toArray, List.set_cons_zero, List.set_cons_succ, i64_w, i32_w]
                            rfl
                          refine pure_ (i := 27) (N := some 8) (v := ?_) (a' := ?_) #[true, true, true, true, true, true, true, true, true, true, true, true, true, true, true, true, true, true, true, true, true, true, true, true, true, true, true, true] rfl rfl (any_of HT_.out (by kernel_rfl)) (fun _ _ _ h => h) (Or.inl ⟨by rfl, ?_⟩) ?_ ?_
                          rotate_left
                          · intro w'
                            go_simp
                            with_reducible rfl
                          rotate_left
                          · simp only [Act.put, List.setIfInBounds_toArray, List.set_cons_zero, List.set_cons_succ, i64_w, i32_w]
                            rfl
                          refine done_ (done_of HT_.out (by kernel_rfl)) ?_
                          try go_wp2
                          go_ret
                          exact ⟨by first | rfl | (simp [errW_none, errW_some] <;> rfl) | (simp only [← hji56]; first | rfl | (simp [errW_none, errW_some] <;> rfl)) | (simp [*, errW_none, errW_some] <;> rfl), by repeat (first | (with_reducible first | exact HB.out | apply below_alloc | apply pw_below_drewN | apply below_drew1 | refine below_set ?_ GE313.out | refine below_set ?_ GE314.out | refine below_set ?_ GE329.out | refine below_set ?_ GE336.out) | exact HB.out)⟩
                        · rw [if_neg c63] at H
                          have c63b0 : (t335 == 12) = false := beq_eq_false_iff_ne.mpr c63
                          have c63b1 : (t335 != 12) = true := bne_iff_ne.mpr c63
                          exact absurd ((Option.some.inj H).trans HR_.out) (by decide)
                      · rw [if_neg c62] at H
                        have c62b0 : (t327 == (t322.size : Int)) = false := beq_eq_false_iff_ne.mpr c62
                        have c62b1 : (t327 != (t322.size : Int)) = true := bne_iff_ne.mpr c62
                        exact absurd ((Option.some.inj H).trans HR_.out) (by decide)
                    · rw [if_neg c61] at H
                      have c61b0 : (t323.toList == a0_0.toList && (t324 == a0_1 && (t325 == a0_2 && (t326.toList == a0_3.toList)))) = false := by simpa using c61
                      (try (have c61b1 : decide (t323.toList = a0_0.toList && (t324 == a0_1 && (t325 == a0_2 && (t326.toList == a0_3.toList)))) = false := by simpa using c61))
                      (try (have c61b2 : (t323.toList == a0_0.toList && (t324 == a0_1 && (t325 == a0_2 && (t326.toList == a0_3.toList)))) = false := by simpa using c61))
                      (try (have c61b3 : ¬ (t323.toList = a0_0.toList && (t324 == a0_1 && (t325 == a0_2 && (t326.toList == a0_3.toList)))) := by simpa using c61))
                      clear c61
                      exact absurd ((Option.some.inj H).trans HR_.out) (by decide)
                  · rw [if_neg c60] at H
                    have c60b0 : (t328 == 0) = false := beq_eq_false_iff_ne.mpr c60
                    have c60b1 : (t328 != 0) = true := bne_iff_ne.mpr c60
                    exact absurd ((Option.some.inj H).trans HR_.out) (by decide)
                · rw [if_neg c58] at H
                  exact absurd H (by simp)
              · rw [if_neg c57] at H
                exact absurd H (by simp)
          · rw [if_neg c53] at H
            exact absurd H (by simp)
  · replace c6 := Bool.eq_false_iff.mpr c6
    subst c6
    have H1 : (some false) = some r := by rw [if_neg (show ¬ (false = true) by decide)] at H; exact H
    clear H
    have H := H1
    clear H1
    exact absurd ((Option.some.inj H).trans HR_.out) (by decide)
def ravelinlaw6_EntryBack.Pure : Prop := ∀ (a0_0 : ByteArray) (a0_1 : Int) (a0_2 : Bool) (a0_3 : ByteArray) (a1_0 : ByteArray) (a1_1 : Int) (a1_2 : Bool) (a1_3 : ByteArray) (a2 : ByteArray) (a3 : Int), a0_0.size ≤ 9223372036854775807 → (Lit.int .i64 a0_1).wf = true → a0_3.size ≤ 9223372036854775807 → a1_0.size ≤ 9223372036854775807 → (Lit.int .i64 a1_1).wf = true → a1_3.size ≤ 9223372036854775807 → a2.size ≤ 140737488351232 → (Lit.int .u8 a3).wf = true → ∃ k, ravelinlaw6_EntryBack.f k a0_0 a0_1 a0_2 a0_3 a1_0 a1_1 a1_2 a1_3 a2 a3 = some true

end Go.Proofs.Ytggmgenofmfdpaa.P
