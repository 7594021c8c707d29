-- Printed by a changed copy of the kit's printer (wip/tools/ext.py); labels and more
import Derived.Test.YtjcpdbekdimceaaM0
import Derived.Test.YtjcpdbekdimceaaM7
import Derived.Test.YtjcpdbekdimceaaM10
namespace Go.Proofs.Ytjcpdbekdimceaa.P
open Go.RowKit Go.Proofs.YtjcpdbekdimceaaW.PrintWords Go.Proofs.YtjcpdbekdimceaaW.PrintLast Go.Proofs.YtjcpdbekdimceaaW.PrintMore
attribute [local go_sem] max2_int min2_int max_two min_two max_three min_three max_four min_four   -- for this text's walks alone
attribute [local go_sem high] string_leq string_geq string_gtr
set_option linter.unusedVariables false
set_option linter.unusedSimpArgs false

/-! ### ravelinref6_Pack: function 17 -/
mutual
def ravelinref6_Pack.l0 : Nat → List (S39) → List Int → Bool → Int → Option ((List (S39)))
 | 0, _, _, _, _ => none
 | k + 1, x0, x1, x2, x7 => if x7 < (x0.length : Int) then (if 0 ≤ x7 then ((ravelinref6_Is.f ((rd_T39 x0 x7).f0) ((rd_T39 x0 x7).f1) ((rd_T39 x0 x7).f2) ((rd_T39 x0 x7).f3)).bind fun t238 => (if t238 = true then (ravelinref6_Pack.l0 k x0 x1 x2 (wrap64 (x7 + 1))) else (some ([] : List (S39))))) else (none)) else ((ravelinref6_Sorted.f k x0).bind fun t239 => (if t239 = true then (ravelinref6_Pack.l1 k x0 x1 x2 ([] : List (S39)) 0) else (some ([] : List (S39)))))
def ravelinref6_Pack.l1 : Nat → List (S39) → List Int → Bool → List (S39) → Int → Option ((List (S39)))
 | 0, _, _, _, _, _ => none
 | k + 1, x0, x1, x2, x8, x9 => if x9 < (x0.length : Int) then (if x9 > 0 then (if 0 ≤ (wrap64 (x9 - 1)) then (if (wrap64 (x9 - 1)) < (x0.length : Int) then (if 0 ≤ x9 then (ravelinref6_Pack.j2 k x0 x1 x2 x8 x9 1000001 (((rd_T39 x0 (wrap64 (x9 - 1))).f0).toList == ((rd_T39 x0 x9).f0).toList)) else (none)) else (none)) else (none)) else (ravelinref6_Pack.j2 k x0 x1 x2 x8 x9 1000001 false)) else (ravelinref6_Pack.l3 k x2 x8 (wrap64 ((x8.length : Int) - 1)))
def ravelinref6_Pack.j2 : Nat → List (S39) → List Int → Bool → List (S39) → Int → Int → Bool → Option ((List (S39)))
 | 0, _, _, _, _, _, _, _ => none
 | k + 1, x0, x1, x2, x8, x9, x10, x50 => if x50 = true then (if 0 ≤ (wrap64 (x9 - 1)) then (if (wrap64 (x9 - 1)) < (x0.length : Int) then (ravelinref6_Pack.j3 k x0 x1 x2 x8 x9 ((rd_T39 x0 (wrap64 (x9 - 1))).f1)) else (none)) else (none)) else (ravelinref6_Pack.j3 k x0 x1 x2 x8 x9 x10)
def ravelinref6_Pack.j3 : Nat → List (S39) → List Int → Bool → List (S39) → Int → Int → Option ((List (S39)))
 | 0, _, _, _, _, _, _ => none
 | k + 1, x0, x1, x2, x8, x9, x10 => if 0 ≤ x9 then (if x9 < (x0.length : Int) then (if ((rd_T39 x0 x9).f1) ≤ 1000000 then (ravelinref6_Pack.j4 k x0 x1 x2 x8 x9 x10 (decide (x10 > 1000000))) else (ravelinref6_Pack.j4 k x0 x1 x2 x8 x9 x10 false)) else (none)) else (none)
def ravelinref6_Pack.j4 : Nat → List (S39) → List Int → Bool → List (S39) → Int → Int → Bool → Option ((List (S39)))
 | 0, _, _, _, _, _, _, _ => none
 | k + 1, x0, x1, x2, x8, x9, x10, x11 => ravelinref6_Pack.l2 k x0 x1 x2 x8 x9 x10 x11 0
def ravelinref6_Pack.l2 : Nat → List (S39) → List Int → Bool → List (S39) → Int → Int → Bool → Int → Option ((List (S39)))
 | 0, _, _, _, _, _, _, _, _ => none
 | k + 1, x0, x1, x2, x8, x9, x10, x11, x12 => if x12 < (x1.length : Int) then (if x11 = true then (ravelinref6_Pack.l2 k x0 x1 x2 x8 x9 x10 true (wrap64 (x12 + 1))) else (if 0 ≤ x12 then (if 0 ≤ x9 then (if x9 < (x0.length : Int) then (if (rd x1 x12) ≥ ((rd_T39 x0 x9).f1) then (ravelinref6_Pack.l2 k x0 x1 x2 x8 x9 x10 (decide ((rd x1 x12) < x10)) (wrap64 (x12 + 1))) else (ravelinref6_Pack.l2 k x0 x1 x2 x8 x9 x10 false (wrap64 (x12 + 1)))) else (none)) else (none)) else (none))) else (if x11 = true then (if 0 ≤ x9 then (if x9 < (x0.length : Int) then (if x8.length < 2932031007402 then (ravelinref6_Pack.l1 k x0 x1 x2 (x8 ++ [(⟨(rd_T39 x0 x9).f0, (rd_T39 x0 x9).f1, (rd_T39 x0 x9).f2, (rd_T39 x0 x9).f3⟩ : S39)]) (wrap64 (x9 + 1))) else (none)) else (none)) else (none)) else (ravelinref6_Pack.l1 k x0 x1 x2 x8 (wrap64 (x9 + 1))))
def ravelinref6_Pack.l3 : Nat → Bool → List (S39) → Int → Option ((List (S39)))
 | 0, _, _, _ => none
 | k + 1, x2, x8, x13 => if x13 ≥ 0 then (ravelinref6_Pack.j7 k x2 x8 x13 x2) else (ravelinref6_Pack.j7 k x2 x8 x13 false)
def ravelinref6_Pack.j7 : Nat → Bool → List (S39) → Int → Bool → Option ((List (S39)))
 | 0, _, _, _, _ => none
 | k + 1, x2, x8, x13, x109 => if x109 = true then (if 0 ≤ x13 then (if x13 < (x8.length : Int) then (if (rd_T39 x8 x13).f2 = true then (if x13 = (wrap64 ((x8.length : Int) - 1)) then (ravelinref6_Pack.j8 k x2 x8 x13 true) else (if 0 ≤ (wrap64 (x13 + 1)) then (if (wrap64 (x13 + 1)) < (x8.length : Int) then (ravelinref6_Pack.j8 k x2 x8 x13 (((rd_T39 x8 (wrap64 (x13 + 1))).f0).toList != ((rd_T39 x8 x13).f0).toList)) else (none)) else (none))) else (ravelinref6_Pack.j8 k x2 x8 x13 false)) else (none)) else (none)) else (some x8)
def ravelinref6_Pack.j8 : Nat → Bool → List (S39) → Int → Bool → Option ((List (S39)))
 | 0, _, _, _, _ => none
 | k + 1, x2, x8, x13, x137 => if x137 = true then (if 0 ≤ x13 then (if x13 ≤ (x8.length : Int) then ((some (x8.take (x13 : Int).toNat : List (S39))).bind fun y254 => (if ([] : List (S39)).length + y254.length < 2932031007402 then ((some (([] : List (S39)) ++ y254 : List (S39))).bind fun y258 => (if 0 ≤ (wrap64 (x13 + 1)) then (if (wrap64 (x13 + 1)) ≤ (x8.length : Int) then ((some (x8.drop ((wrap64 (x13 + 1)) : Int).toNat : List (S39))).bind fun y261 => (if y258.length + y261.length < 2932031007402 then (ravelinref6_Pack.l3 k x2 (y258 ++ y261) (wrap64 (x13 - 1))) else (none))) else (none)) else (none))) else (none))) else (none)) else (none)) else (ravelinref6_Pack.l3 k x2 x8 (wrap64 (x13 - 1)))
end
def ravelinref6_Pack.f (k : Nat) (l0 : List (S39)) (l1 : List Int) (a2 : Bool) : Option ((List (S39))) := ravelinref6_Pack.l0 k l0 l1 a2 0
theorem ravelinref6_Pack.mono_l : ∀ k, (∀ y0 y1 y2 y3, LeO (ravelinref6_Pack.l0 k y0 y1 y2 y3) (ravelinref6_Pack.l0 (k + 1) y0 y1 y2 y3)) ∧ (∀ y0 y1 y2 y3 y4, LeO (ravelinref6_Pack.l1 k y0 y1 y2 y3 y4) (ravelinref6_Pack.l1 (k + 1) y0 y1 y2 y3 y4)) ∧ (∀ y0 y1 y2 y3 y4 y5 y6, LeO (ravelinref6_Pack.j2 k y0 y1 y2 y3 y4 y5 y6) (ravelinref6_Pack.j2 (k + 1) y0 y1 y2 y3 y4 y5 y6)) ∧ (∀ y0 y1 y2 y3 y4 y5, LeO (ravelinref6_Pack.j3 k y0 y1 y2 y3 y4 y5) (ravelinref6_Pack.j3 (k + 1) y0 y1 y2 y3 y4 y5)) ∧ (∀ y0 y1 y2 y3 y4 y5 y6, LeO (ravelinref6_Pack.j4 k y0 y1 y2 y3 y4 y5 y6) (ravelinref6_Pack.j4 (k + 1) y0 y1 y2 y3 y4 y5 y6)) ∧ (∀ y0 y1 y2 y3 y4 y5 y6 y7, LeO (ravelinref6_Pack.l2 k y0 y1 y2 y3 y4 y5 y6 y7) (ravelinref6_Pack.l2 (k + 1) y0 y1 y2 y3 y4 y5 y6 y7)) ∧ (∀ y0 y1 y2, LeO (ravelinref6_Pack.l3 k y0 y1 y2) (ravelinref6_Pack.l3 (k + 1) y0 y1 y2)) ∧ (∀ y0 y1 y2 y3, LeO (ravelinref6_Pack.j7 k y0 y1 y2 y3) (ravelinref6_Pack.j7 (k + 1) y0 y1 y2 y3)) ∧ (∀ y0 y1 y2 y3, LeO (ravelinref6_Pack.j8 k y0 y1 y2 y3) (ravelinref6_Pack.j8 (k + 1) y0 y1 y2 y3))
 | 0 => ⟨fun _ _ _ _ r h => by simp [ravelinref6_Pack.l0] at h, fun _ _ _ _ _ r h => by simp [ravelinref6_Pack.l1] at h, fun _ _ _ _ _ _ _ r h => by simp [ravelinref6_Pack.j2] at h, fun _ _ _ _ _ _ r h => by simp [ravelinref6_Pack.j3] at h, fun _ _ _ _ _ _ _ r h => by simp [ravelinref6_Pack.j4] at h, fun _ _ _ _ _ _ _ _ r h => by simp [ravelinref6_Pack.l2] at h, fun _ _ _ r h => by simp [ravelinref6_Pack.l3] at h, fun _ _ _ _ r h => by simp [ravelinref6_Pack.j7] at h, fun _ _ _ _ r h => by simp [ravelinref6_Pack.j8] at h⟩
 | k + 1 => by
  obtain ⟨ih0, ih1, ih2, ih3, ih4, ih5, ih6, ih7, ih8⟩ := ravelinref6_Pack.mono_l k
  refine ⟨?_, ?_, ?_, ?_, ?_, ?_, ?_, ?_, ?_⟩
  all_goals
   intros
   first | unfold ravelinref6_Pack.l0 | unfold ravelinref6_Pack.l1 | unfold ravelinref6_Pack.j2 | unfold ravelinref6_Pack.j3 | unfold ravelinref6_Pack.j4 | unfold ravelinref6_Pack.l2 | unfold ravelinref6_Pack.l3 | unfold ravelinref6_Pack.j7 | unfold ravelinref6_Pack.j8
   repeat' first
   | (with_reducible exact ih0 _ _ _ _)
   | (with_reducible exact ih1 _ _ _ _ _)
   | (with_reducible exact ih2 _ _ _ _ _ _ _)
   | (with_reducible exact ih3 _ _ _ _ _ _)
   | (with_reducible exact ih4 _ _ _ _ _ _ _)
   | (with_reducible exact ih5 _ _ _ _ _ _ _ _)
   | (with_reducible exact ih6 _ _ _)
   | (with_reducible exact ih7 _ _ _ _)
   | (with_reducible exact ih8 _ _ _ _)
   | (with_reducible exact ravelinref6_Sorted.mono _ _)
   | (with_reducible exact LeO.refl _)
   | (with_reducible exact LeO.none _)
   | (with_reducible refine LeO.ite ?_ ?_)
   | (with_reducible refine LeO.bind ?_ (fun _ => ?_))
   | exact ih0 _ _ _ _
   | exact ih1 _ _ _ _ _
   | exact ih2 _ _ _ _ _ _ _
   | exact ih3 _ _ _ _ _ _
   | exact ih4 _ _ _ _ _ _ _
   | exact ih5 _ _ _ _ _ _ _ _
   | exact ih6 _ _ _
   | exact ih7 _ _ _ _
   | exact ih8 _ _ _ _
   | exact ravelinref6_Sorted.mono _ _
   | exact LeO.none _
   | refine LeO.ite ?_ ?_
   | refine LeO.bind ?_ (fun _ => ?_)
theorem ravelinref6_Pack.mono : ∀ a0 a1 a2 k, LeO (ravelinref6_Pack.f k a0 a1 a2) (ravelinref6_Pack.f (k + 1) a0 a1 a2) := by
 intro a0 a1 a2 k
 obtain ⟨ih0, ih1, ih2, ih3, ih4, ih5, ih6, ih7, ih8⟩ := ravelinref6_Pack.mono_l k
 unfold ravelinref6_Pack.f
 repeat' first
   | (with_reducible exact ih0 _ _ _ _)
   | (with_reducible exact ih1 _ _ _ _ _)
   | (with_reducible exact ih2 _ _ _ _ _ _ _)
   | (with_reducible exact ih3 _ _ _ _ _ _)
   | (with_reducible exact ih4 _ _ _ _ _ _ _)
   | (with_reducible exact ih5 _ _ _ _ _ _ _ _)
   | (with_reducible exact ih6 _ _ _)
   | (with_reducible exact ih7 _ _ _ _)
   | (with_reducible exact ih8 _ _ _ _)
   | (with_reducible exact ravelinref6_Sorted.mono _ _)
   | (with_reducible exact LeO.refl _)
   | (with_reducible exact LeO.none _)
   | (with_reducible refine LeO.ite ?_ ?_)
   | (with_reducible refine LeO.bind ?_ (fun _ => ?_))
   | exact ih0 _ _ _ _
   | exact ih1 _ _ _ _ _
   | exact ih2 _ _ _ _ _ _ _
   | exact ih3 _ _ _ _ _ _
   | exact ih4 _ _ _ _ _ _ _
   | exact ih5 _ _ _ _ _ _ _ _
   | exact ih6 _ _ _
   | exact ih7 _ _ _ _
   | exact ih8 _ _ _ _
   | exact ravelinref6_Sorted.mono _ _
   | exact LeO.none _
   | refine LeO.ite ?_ ?_
   | refine LeO.bind ?_ (fun _ => ?_)
def ravelinref6_Pack.T13 : Bool × List (List Nat × List Nat) := (true, [([], []), ([0], [0]), ([1], [1]), ([2], [2]), ([2], [2]), ([4, 2], [2, 4]), ([3, 5, 2], [2, 3, 5]), ([6, 2], [2, 6]), ([7, 2], [2, 7]), ([2], [2]), ([2], [2]), ([9, 10, 2], [2, 9, 10]), ([11, 2], [2, 11]), ([12, 2], [2, 12]), ([8, 13, 2], [2, 8, 13]), ([2, 14], [2, 14])])
def ravelinref6_Pack.B13 : List Nat := [0, 1, 3, 7, 7, 23, 63, 127, 255, 7, 7, 1543, 3591, 7687, 16383, 32767]
theorem ravelinref6_Pack.tab13 : rtab .any (opsOf Try.f17 13) = ravelinref6_Pack.T13 := by kernel_rfl
theorem ravelinref6_Pack.bits13 : waitsOk ravelinref6_Pack.T13.2 ravelinref6_Pack.B13 = true := by kernel_rfl
def ravelinref6_Pack.T19 : Bool × List (List Nat × List Nat) := (true, [([], []), ([0], [0]), ([1], [1]), ([1], [1]), ([2, 3, 1], [1, 2, 3]), ([4, 1], [1, 4]), ([1], [1]), ([1], [1]), ([6, 7, 1], [1, 6, 7]), ([8, 1], [1, 8]), ([9, 1], [1, 9]), ([5, 10, 1], [1, 5, 10]), ([11, 1, 1], [1, 11]), ([12], [12]), ([12], [12]), ([13, 14, 12], [12, 13, 14]), ([15, 12], [12, 15]), ([12], [12]), ([16, 17, 12], [12, 16, 17]), ([12, 18, 1], [1, 12, 18]), ([1, 19], [1, 19]), ([20, 12, 0, 1, 2, 3, 4, 5, 6, 7, 8, 9, 10, 11, 12, 13, 14, 15, 16, 17, 18, 19, 20], [0, 20])])
def ravelinref6_Pack.B19 : List Nat := [0, 1, 3, 3, 15, 31, 3, 3, 195, 451, 963, 2047, 4095, 8191, 8191, 32767, 65535, 8191, 262143, 524287, 1048575, 2097151]
theorem ravelinref6_Pack.tab19 : rtab .any (opsOf Try.f17 19) = ravelinref6_Pack.T19 := by kernel_rfl
theorem ravelinref6_Pack.bits19 : waitsOk ravelinref6_Pack.T19.2 ravelinref6_Pack.B19 = true := by kernel_rfl
def ravelinref6_Pack.T25 : Bool × List (List Nat × List Nat) := (true, [([], []), ([], []), ([0, 1], [0, 1]), ([2], [2]), ([3], [3]), ([4], [4]), ([5], [5]), ([5], [5]), ([7, 5], [5, 7]), ([8, 5], [5, 8]), ([6, 9, 5], [5, 6, 9]), ([10, 5, 5], [5, 10]), ([11], [11]), ([11], [11]), ([13, 11], [11, 13]), ([12, 14, 11], [11, 12, 14]), ([15, 11], [11, 15]), ([16, 11], [11, 16]), ([11], [11]), ([11], [11]), ([18, 19, 11], [11, 18, 19]), ([20, 11], [11, 20]), ([21, 11], [11, 21]), ([17, 22, 11], [11, 17, 22]), ([11, 23, 5], [5, 11, 23]), ([5, 24], [5, 24])])
def ravelinref6_Pack.B25 : List Nat := [0, 0, 3, 7, 15, 31, 63, 63, 191, 447, 1023, 2047, 4095, 4095, 12287, 32767, 65535, 131071, 4095, 4095, 790527, 1839103, 3936255, 8388607, 16777215, 33554431]
theorem ravelinref6_Pack.tab25 : rtab .any (opsOf Try.f17 25) = ravelinref6_Pack.T25 := by kernel_rfl
theorem ravelinref6_Pack.bits25 : waitsOk ravelinref6_Pack.T25.2 ravelinref6_Pack.B25 = true := by kernel_rfl
def ravelinref6_Pack.T26 : Bool × List (List Nat × List Nat) := (true, [([], []), ([], []), ([0, 1], [0, 1]), ([2], [2]), ([], []), ([], []), ([5], [5]), ([4, 6], [4, 6]), ([3, 7, 3], [3, 7]), ([8, 8, 0, 1, 2, 3, 4, 5, 6, 7, 8], [0, 4, 8])])
def ravelinref6_Pack.B26 : List Nat := [0, 0, 3, 7, 0, 0, 32, 112, 255, 511]
theorem ravelinref6_Pack.tab26 : rtab .any (opsOf Try.f17 26) = ravelinref6_Pack.T26 := by kernel_rfl
theorem ravelinref6_Pack.bits26 : waitsOk ravelinref6_Pack.T26.2 ravelinref6_Pack.B26 = true := by kernel_rfl
set_option maxHeartbeats 8000000 in
set_option maxRecDepth 100000 in
theorem ravelinref6_Pack.calls (k : Nat) (A0 : Option Addr) (c0 : Nat) (l0 : List (S39)) (A1 : Option Addr) (c1 : Nat) (l1 : List Int) (a2 : Bool) (r : List (S39)) (w : World) (hr0 : Kd.C k39 w A0 l0.length l0) (hc0 : l0.length ≤ c0) (hr1 : Kd.C (Kd.int .i64) w A1 l1.length l1) (hc1 : l1.length ≤ c1) (h : ravelinref6_Pack.f k l0 l1 a2 = some r) :
  Calls Try.prog 17 #[.slice A0 l0.length c0, .slice A1 l1.length c1, .bool a2] w fun e w' => ∃ v0_ : Value, e = .returned (v0_) ∧ Kd.R k39 39 w' w.heap.size (fun _ => True) v0_ r ∧ Below w.heap.size w w' := by
 have hu39 := Try.underlying39
 have HR0 := Aside0.mk hr0
 have HC0 := Aside0.mk hc0
 clear hr0 hc0
 have HR1 := Aside0.mk hr1
 have HC1 := Aside0.mk hc1
 clear hr1 hc1
 have HB := Aside0.mk (Below.refl w.heap.size w)
 have H : (ravelinref6_Pack.l0 k l0 l1 a2 0) = some r := h
 clear h
 have H' := Aside0.mk H
 clear H
 go_enter Try.func17, Try.ntmps17
 go_wp2
 go_loopg [7] k (fun kq v7 w' => ∃ (x7_1 : Int), v7 = .int .i64 x7_1 ∧ Aside0 (ravelinref6_Pack.l0 kq l0 l1 a2 x7_1 = some r) ∧ Aside0 (kq ≤ k) ∧ Aside0 (Below w.heap.size w w'))
 case atStart => exact ⟨(0), (by first | rfl | (simp; done) | (simp [*]; done)), H', ⟨Nat.le_refl _⟩, ⟨by repeat (first | (with_reducible first | exact HB.out | apply below_alloc | apply pw_below_drewN | apply below_drew1) | exact HB.out)⟩⟩
 clear H'
 try clear c1
 try clear p2
 obtain ⟨x7_1, rfl, HA, HK1, HB⟩ := hrel
 cases gk with
 | zero => exact absurd HA.out (by simp [ravelinref6_Pack.l0])
 | succ k1 => ?_
 have H := HA.out
 clear HA
 simp only [ravelinref6_Pack.l0] at H
 by_cases c4 : x7_1 < (l0.length : Int)
 ·rw [if_pos c4] at H
  have c4b0 : decide (x7_1 < (l0.length : Int)) = true := decide_eq_true c4
  clear c4
  by_cases c5 : 0 ≤ x7_1
  rotate_left
  ·rw [if_neg c5] at H
   exact absurd H (by simp)
  rw [if_pos c5] at H
  have c5b0 : decide (0 ≤ x7_1) = true := decide_eq_true c5
  clear c5
  replace H := Option.bind_eq_some_iff.mp H
  obtain ⟨t238, A60, H⟩ := H
  replace H : (if t238 = true then (ravelinref6_Pack.l0 k1 l0 l1 a2 (wrap64 (x7_1 + 1))) else (some ([] : List (S39)))) = some r := H
  have A6 := Aside0.mk A60
  clear A60
  by_cases c7 : t238 = true
  ·subst c7
   have H1 : (ravelinref6_Pack.l0 k1 l0 l1 a2 (wrap64 (x7_1 + 1))) = some r := by rw [if_pos rfl] at H; exact H
   clear H
   have H := H1
   clear H1
   have H' := Aside0.mk H
   clear H
   have p237 : 0 ≤ (x7_1 : Int) := of_decide_eq_true (by first | (with_reducible assumption) | assumption)
   have q237 : x7_1 < (l0.length : Int) := of_decide_eq_true (by first | (with_reducible assumption) | assumption)
   obtain ⟨ad237, e237, hx237_0, hx237_1, hx237_2, hx237_3⟩ := at_T39 HR0.out x7_1 p237 q237
   cases e237
   replace hx237_0 := (HB.out.cell (World.block_lt_of_cell? w _ hx237_0)).trans hx237_0
   replace hx237_1 := (HB.out.cell (World.block_lt_of_cell? w _ hx237_1)).trans hx237_1
   replace hx237_2 := (HB.out.cell (World.block_lt_of_cell? w _ hx237_2)).trans hx237_2
   replace hx237_3 := (HB.out.cell (World.block_lt_of_cell? w _ hx237_3)).trans hx237_3
   replace p237 := eq_true p237
   replace q237 := eq_true q237
   go_wp2_with (first | ((with_reducible refine gate_callee (f := 19) rfl ?_); refine goesL_ (some 24) rfl rfl Try.func19 (by kernel_rfl) rfl #[.agg #[.string ((rd_T39 l0 x7_1).f0), .int .i64 ((rd_T39 l0 x7_1).f1), .bool ((rd_T39 l0 x7_1).f2), .string ((rd_T39 l0 x7_1).f3)]] rfl (by (try simp only [List.map_toArray, List.map_cons, List.map_nil]); first | done | rfl | (simp only [List.length_drop, List.length_take]; rfl)) ?_; (with_reducible refine (ravelinref6_Is.calls ((rd_T39 l0 x7_1).f0) ((rd_T39 l0 x7_1).f1) ((rd_T39 l0 x7_1).f2) ((rd_T39 l0 x7_1).f3) true _ A6.out).mono ?_); rintro e w8 ⟨rfl, hb⟩; refine ⟨_, rfl, ?_⟩; have n0_ := Aside0.mk (below_step (by repeat (first | (with_reducible first | exact HB.out | apply below_alloc | apply pw_below_drewN | apply below_drew1) | exact HB.out)) hb); clear HB; have HB := n0_; clear n0_; (try clear hb); (try clear hb2); (try clear hk); (try clear hi)))
   go_roundg k1
   case measure => have := HK1.out; omega
   case rel => exact ⟨(wrap64 (x7_1 + 1)), (by first | rfl | (simp; done) | (simp [*]; done)), H', ⟨by have := HK1.out; omega⟩, ⟨by repeat (first | (with_reducible first | exact HB.out | apply below_alloc | apply pw_below_drewN | apply below_drew1) | exact HB.out)⟩⟩
  replace c7 := Bool.eq_false_iff.mpr c7
  subst c7
  have H1 : (some ([] : List (S39))) = some r := by rw [if_neg (show ¬ (false = true) by decide)] at H; exact H
  clear H
  have H := H1
  clear H1
  obtain rfl := Option.some.inj H
  have p237 : 0 ≤ (x7_1 : Int) := of_decide_eq_true (by first | (with_reducible assumption) | assumption)
  have q237 : x7_1 < (l0.length : Int) := of_decide_eq_true (by first | (with_reducible assumption) | assumption)
  obtain ⟨ad237, e237, hx237_0, hx237_1, hx237_2, hx237_3⟩ := at_T39 HR0.out x7_1 p237 q237
  cases e237
  replace hx237_0 := (HB.out.cell (World.block_lt_of_cell? w _ hx237_0)).trans hx237_0
  replace hx237_1 := (HB.out.cell (World.block_lt_of_cell? w _ hx237_1)).trans hx237_1
  replace hx237_2 := (HB.out.cell (World.block_lt_of_cell? w _ hx237_2)).trans hx237_2
  replace hx237_3 := (HB.out.cell (World.block_lt_of_cell? w _ hx237_3)).trans hx237_3
  replace p237 := eq_true p237
  replace q237 := eq_true q237
  go_wp2_with (first | ((with_reducible refine gate_callee (f := 19) rfl ?_); refine goesL_ (some 24) rfl rfl Try.func19 (by kernel_rfl) rfl #[.agg #[.string ((rd_T39 l0 x7_1).f0), .int .i64 ((rd_T39 l0 x7_1).f1), .bool ((rd_T39 l0 x7_1).f2), .string ((rd_T39 l0 x7_1).f3)]] rfl (by (try simp only [List.map_toArray, List.map_cons, List.map_nil]); first | done | rfl | (simp only [List.length_drop, List.length_take]; rfl)) ?_; (with_reducible refine (ravelinref6_Is.calls ((rd_T39 l0 x7_1).f0) ((rd_T39 l0 x7_1).f1) ((rd_T39 l0 x7_1).f2) ((rd_T39 l0 x7_1).f3) false _ A6.out).mono ?_); rintro e w9 ⟨rfl, hb⟩; refine ⟨_, rfl, ?_⟩; have n0_ := Aside0.mk (below_step (by repeat (first | (with_reducible first | exact HB.out | apply below_alloc | apply pw_below_drewN | apply below_drew1) | exact HB.out)) hb); clear HB; have HB := n0_; clear n0_; (try clear hb); (try clear hb2); (try clear hk); (try clear hi)))
  go_ret
  exact ⟨_, by first | rfl | (simp [errW_none, errW_some] <;> rfl) | (simp [*, errW_none, errW_some] <;> rfl), by first | exact Kd.R_nil _ _ _ _ _ | exact Kd.N_nil _ _ _ _ _ | exact Kd.V_nil _ _ _ _ _ | exact Kd.Q_nil _ _ _ _ _ | exact Kd.S_nil _ _ _ _ _, by repeat (first | (with_reducible first | exact HB.out | apply below_alloc | apply pw_below_drewN | apply below_drew1) | exact HB.out)⟩
 rw [if_neg c4] at H
 have c4b0 : decide (x7_1 < (l0.length : Int)) = false := decide_eq_false c4
 clear c4
 replace H := Option.bind_eq_some_iff.mp H
 obtain ⟨t239, A100, H⟩ := H
 replace H : (if t239 = true then (ravelinref6_Pack.l1 k1 l0 l1 a2 ([] : List (S39)) 0) else (some ([] : List (S39)))) = some r := H
 have A10 := Aside0.mk A100
 clear A100
 by_cases c11 : t239 = true
 rotate_left
 ·replace c11 := Bool.eq_false_iff.mpr c11
  subst c11
  have H1 : (some ([] : List (S39))) = some r := by rw [if_neg (show ¬ (false = true) by decide)] at H; exact H
  clear H
  have H := H1
  clear H1
  obtain rfl := Option.some.inj H
  go_wp2_with (first | ((with_reducible refine gate_callee (f := 18) rfl ?_); refine goesL_ (some 27) rfl rfl Try.func18 (by kernel_rfl) rfl #[.slice A0 l0.length c0] rfl (by (try simp only [List.map_toArray, List.map_cons, List.map_nil]); first | done | rfl | (simp only [List.length_drop, List.length_take]; rfl)) ?_; (with_reducible refine (ravelinref6_Sorted.calls k1 _ _ l0 false _ ?side1 ?side2 A10.out).mono ?_); (case side1 => repeat (first | exact (Kd.C_below HR0.out HB.out) | (with_reducible refine Kd.C_alloc ?_ _) | (with_reducible refine Kd.C_drewN ?_ _) | (with_reducible refine Kd.C_drew ?_))); (case side2 => exact HC0.out); rintro e w78 ⟨rfl, hb⟩; refine ⟨_, rfl, ?_⟩; have n0_ := Aside0.mk (below_step (by repeat (first | (with_reducible first | exact HB.out | apply below_alloc | apply pw_below_drewN | apply below_drew1) | exact HB.out)) hb); clear HB; have HB := n0_; clear n0_; (try clear hb); (try clear hb2); (try clear hk); (try clear hi)))
  go_ret
  exact ⟨_, by first | rfl | (simp [errW_none, errW_some] <;> rfl) | (simp [*, errW_none, errW_some] <;> rfl), by first | exact Kd.R_nil _ _ _ _ _ | exact Kd.N_nil _ _ _ _ _ | exact Kd.V_nil _ _ _ _ _ | exact Kd.Q_nil _ _ _ _ _ | exact Kd.S_nil _ _ _ _ _, by repeat (first | (with_reducible first | exact HB.out | apply below_alloc | apply pw_below_drewN | apply below_drew1) | exact HB.out)⟩
 subst c11
 have H1 : (ravelinref6_Pack.l1 k1 l0 l1 a2 ([] : List (S39)) 0) = some r := by rw [if_pos rfl] at H; exact H
 clear H
 have H := H1
 clear H1
 have H' := Aside0.mk H
 clear H
 go_wp2_with (first | ((with_reducible refine gate_callee (f := 18) rfl ?_); refine goesL_ (some 27) rfl rfl Try.func18 (by kernel_rfl) rfl #[.slice A0 l0.length c0] rfl (by (try simp only [List.map_toArray, List.map_cons, List.map_nil]); first | done | rfl | (simp only [List.length_drop, List.length_take]; rfl)) ?_; (with_reducible refine (ravelinref6_Sorted.calls k1 _ _ l0 true _ ?side1 ?side2 A10.out).mono ?_); (case side1 => repeat (first | exact (Kd.C_below HR0.out HB.out) | (with_reducible refine Kd.C_alloc ?_ _) | (with_reducible refine Kd.C_drewN ?_ _) | (with_reducible refine Kd.C_drew ?_))); (case side2 => exact HC0.out); rintro e w12 ⟨rfl, hb⟩; refine ⟨_, rfl, ?_⟩; have n0_ := Aside0.mk (below_step (by repeat (first | (with_reducible first | exact HB.out | apply below_alloc | apply pw_below_drewN | apply below_drew1) | exact HB.out)) hb); clear HB; have HB := n0_; clear n0_; (try clear hb); (try clear hb2); (try clear hk); (try clear hi)))
 go_loopg [8, 9] k1 (fun kq v8 v9 w' => ∃ (x8_2 : List (S39)) (x9_2 : Int), v9 = .int .i64 x9_2 ∧ Aside0 (ravelinref6_Pack.l1 kq l0 l1 a2 x8_2 x9_2 = some r) ∧ Aside0 (kq ≤ k1) ∧ Aside0 (Kd.R k39 39 w' w.heap.size (fun _ => True) v8 x8_2) ∧ Aside0 (Below w.heap.size w w'))
 case atStart => exact ⟨(([] : List (S39))), (0), (by first | rfl | (simp; done) | (simp [*]; done)), H', ⟨Nat.le_refl _⟩, ⟨by first | exact Kd.R_nil _ _ _ _ _ | exact Kd.N_nil _ _ _ _ _ | exact Kd.V_nil _ _ _ _ _ | exact Kd.Q_nil _ _ _ _ _ | exact Kd.S_nil _ _ _ _ _⟩, ⟨by repeat (first | (with_reducible first | exact HB.out | apply below_alloc | apply pw_below_drewN | apply below_drew1) | exact HB.out)⟩⟩
 clear H'
 try clear c1
 try clear p2
 try clear q2
 try clear hx2
 try clear c4
 try clear c4b0
 try clear c5
 try clear c5b0
 try clear p6
 try clear c7
 try clear c11
 try clear hx237_0
 try clear hx237_1
 try clear hx237_2
 try clear hx237_3
 try clear p2
 try clear p237
 try clear q237
 obtain ⟨x8_2, x9_2, rfl, HA, HK2, HO_8, HB⟩ := hrel
 cases gk with
 | zero => exact absurd HA.out (by simp [ravelinref6_Pack.l1])
 | succ k2 => ?_
 have H := HA.out
 clear HA
 simp only [ravelinref6_Pack.l1] at H
 by_cases c13 : x9_2 < (l0.length : Int)
 rotate_left
 ·rw [if_neg c13] at H
  have c13b0 : decide (x9_2 < (l0.length : Int)) = false := decide_eq_false c13
  clear c13
  have H' := Aside0.mk H
  clear H
  obtain ⟨Ao45, co45, eo45⟩ := Kd.R_slice HO_8.out
  subst eo45
  go_wp2
  go_loopg [8, 13] k2 (fun kq v8 v13 w' => ∃ (x8_3 : List (S39)) (x13_3 : Int), v13 = .int .i64 x13_3 ∧ Aside0 (ravelinref6_Pack.l3 kq a2 x8_3 x13_3 = some r) ∧ Aside0 (kq ≤ k2) ∧ Aside0 (Kd.R k39 39 w' w.heap.size (fun _ => True) v8 x8_3) ∧ Aside0 (Below w.heap.size w w'))
  case atStart => exact ⟨(x8_2), (wrap64 ((x8_2.length : Int) - 1)), (by first | rfl | (simp; done) | (simp [*]; done)), H', ⟨Nat.le_refl _⟩, ⟨by (with_reducible repeat (first | apply Kd.R_alloc | apply Kd.R_drewN | apply Kd.R_drew)); exact HO_8.out⟩, ⟨by repeat (first | (with_reducible first | exact HB.out | apply below_alloc | apply pw_below_drewN | apply below_drew1) | exact HB.out)⟩⟩
  clear H'
  try clear c1
  try clear p2
  try clear q2
  try clear hx2
  try clear c3
  try clear c4
  try clear p6
  try clear c13
  try clear c13b0
  try clear p24
  try clear q24
  try clear hx24
  try clear c31
  try clear c31b0
  try clear c32
  try clear c34
  try clear c34b0
  try clear c35
  try clear c35b0
  try clear c36
  try clear c36b0
  try clear c37
  try clear c37b0
  try clear c40
  try clear c41
  try clear c41b0
  try clear c42
  try clear c42b0
  try clear c43
  try clear hx244_0
  try clear hx245_0
  try clear hx245_1
  try clear hx245_2
  try clear hx245_3
  try clear hx246_0
  try clear hx247_0
  try clear hx247_1
  try clear hx247_2
  try clear hx247_3
  try clear p244
  try clear p245
  try clear p246
  try clear p247
  try clear q244
  try clear q245
  try clear q246
  try clear q247
  obtain ⟨x8_3, x13_3, rfl, HA, HK3, HO_8, HB⟩ := hrel
  cases gk with
  | zero => exact absurd HA.out (by simp [ravelinref6_Pack.l3])
  | succ k3 => ?_
  have H := HA.out
  clear HA
  simp only [ravelinref6_Pack.l3] at H
  have HC46 := Aside0.mk H
  clear H
  go_upto_region 23 with (fail)
  go_cut [109] (fun v109 wc => ∃ (kq : Nat) (x109_45 : Bool), v109 = .bool x109_45 ∧ Aside0 (ravelinref6_Pack.j7 kq a2 x8_3 x13_3 x109_45 = some r) ∧ Aside0 (kq ≤ k3) ∧ Aside0 (Kd.R k39 39 wc w.heap.size (fun _ => True) u8 x8_3) ∧ Aside0 (Below w.heap.size w wc))
  case first =>
   have H := HC46.out
   clear HC46
   by_cases c47 : x13_3 ≥ 0
   ·rw [if_pos c47] at H
    have c47b0 : decide (0 ≤ x13_3) = true := decide_eq_true c47
    clear c47
    (first | rw [c47b0] | (simp only [i64_w, i32_w]; rw [c47b0]) | skip)
    have H' := Aside0.mk H
    clear H
    go_wp2
    go_meet
    case rel => exact ⟨_, (a2), (by first | rfl | (simp; done) | (simp [*]; done)), H', ⟨by have := HK1.out; have := HK2.out; have := HK3.out; first | omega | exact Nat.le_refl _⟩, ⟨by (with_reducible repeat (first | apply Kd.R_alloc | apply Kd.R_drewN | apply Kd.R_drew)); exact HO_8.out⟩, ⟨by repeat (first | (with_reducible first | exact HB.out | apply below_alloc | apply pw_below_drewN | apply below_drew1) | exact HB.out)⟩⟩
   rw [if_neg c47] at H
   have c47b0 : decide (0 ≤ x13_3) = false := decide_eq_false c47
   clear c47
   (first | rw [c47b0] | (simp only [i64_w, i32_w]; rw [c47b0]) | skip)
   have H' := Aside0.mk H
   clear H
   go_wp2
   go_meet
   case rel => exact ⟨_, (false), (by first | rfl | (simp; done) | (simp [*]; done)), H', ⟨by have := HK1.out; have := HK2.out; have := HK3.out; first | omega | exact Nat.le_refl _⟩, ⟨by (with_reducible repeat (first | apply Kd.R_alloc | apply Kd.R_drewN | apply Kd.R_drew)); exact HO_8.out⟩, ⟨by repeat (first | (with_reducible first | exact HB.out | apply below_alloc | apply pw_below_drewN | apply below_drew1) | exact HB.out)⟩⟩
  clear HC46
  try clear c1
  try clear p2
  try clear q2
  try clear hx2
  try clear c3
  try clear c4
  try clear p6
  try clear c13
  try clear c13b0
  try clear p24
  try clear q24
  try clear hx24
  try clear c31
  try clear c31b0
  try clear c32
  try clear c34
  try clear c34b0
  try clear c35
  try clear c35b0
  try clear c36
  try clear c36b0
  try clear c37
  try clear c37b0
  try clear c40
  try clear c41
  try clear c41b0
  try clear c42
  try clear c42b0
  try clear c43
  try clear c47
  try clear c47b0
  try clear hx244_0
  try clear hx245_0
  try clear hx245_1
  try clear hx245_2
  try clear hx245_3
  try clear hx246_0
  try clear hx247_0
  try clear hx247_1
  try clear hx247_2
  try clear hx247_3
  try clear p2
  try clear p24
  try clear p244
  try clear p245
  try clear p246
  try clear p247
  try clear p6
  try clear q2
  try clear q24
  try clear q244
  try clear q245
  try clear q246
  try clear q247
  obtain ⟨kq, x109_45, rfl, HA, HJ45, HO_8, HB⟩ := hcut
  cases kq with
  | zero => exact absurd HA.out (by simp [ravelinref6_Pack.j7])
  | succ kj45 => ?_
  have H := HA.out
  clear HA
  simp only [ravelinref6_Pack.j7] at H
  by_cases c48 : x109_45 = true
  rotate_left
  ·replace c48 := Bool.eq_false_iff.mpr c48
   subst c48
   have H1 : (some x8_3) = some r := by rw [if_neg (show ¬ (false = true) by decide)] at H; exact H
   clear H
   have H := H1
   clear H1
   obtain rfl := Option.some.inj H
   go_wp2
   go_ret
   exact ⟨_, by first | rfl | (simp [errW_none, errW_some] <;> rfl) | (simp [*, errW_none, errW_some] <;> rfl), by (with_reducible repeat (first | apply Kd.R_alloc | apply Kd.R_drewN | apply Kd.R_drew)); exact HO_8.out, by repeat (first | (with_reducible first | exact HB.out | apply below_alloc | apply pw_below_drewN | apply below_drew1) | exact HB.out)⟩
  subst c48
  have H1 : (if 0 ≤ x13_3 then (if x13_3 < (x8_3.length : Int) then (if (rd_T39 x8_3 x13_3).f2 = true then (if x13_3 = (wrap64 ((x8_3.length : Int) - 1)) then (ravelinref6_Pack.j8 kj45 a2 x8_3 x13_3 true) else (if 0 ≤ (wrap64 (x13_3 + 1)) then (if (wrap64 (x13_3 + 1)) < (x8_3.length : Int) then (ravelinref6_Pack.j8 kj45 a2 x8_3 x13_3 (((rd_T39 x8_3 (wrap64 (x13_3 + 1))).f0).toList != ((rd_T39 x8_3 x13_3).f0).toList)) else (none)) else (none))) else (ravelinref6_Pack.j8 kj45 a2 x8_3 x13_3 false)) else (none)) else (none)) = some r := by rw [if_pos rfl] at H; exact H
  clear H
  have H := H1
  clear H1
  have HC49 := Aside0.mk H
  clear H
  go_upto_region 25 with (fail)
  go_cut [137] (fun v137 wc => ∃ (kq : Nat) (x137_48 : Bool), v137 = .bool x137_48 ∧ Aside0 (ravelinref6_Pack.j8 kq a2 x8_3 x13_3 x137_48 = some r) ∧ Aside0 (kq ≤ kj45) ∧ Aside0 (Kd.R k39 39 wc w.heap.size (fun _ => True) u8 x8_3) ∧ Aside0 (Below w.heap.size w wc))
  case first =>
   have H := HC49.out
   clear HC49
   by_cases c50 : 0 ≤ x13_3
   rotate_left
   ·rw [if_neg c50] at H
    exact absurd H (by simp)
   rw [if_pos c50] at H
   have c50b0 : decide (0 ≤ x13_3) = true := decide_eq_true c50
   clear c50
   (first | rw [c50b0] | (simp only [i64_w, i32_w]; rw [c50b0]) | skip)
   by_cases c51 : x13_3 < (x8_3.length : Int)
   rotate_left
   ·rw [if_neg c51] at H
    exact absurd H (by simp)
   rw [if_pos c51] at H
   have c51b0 : decide (x13_3 < (x8_3.length : Int)) = true := decide_eq_true c51
   clear c51
   obtain ⟨bq52, hbq52⟩ : ∃ b_ : Bool, b_ = ((rd_T39 x8_3 x13_3).f2) := ⟨_, rfl⟩
   replace H : (if bq52 = true then (if x13_3 = (wrap64 ((x8_3.length : Int) - 1)) then (ravelinref6_Pack.j8 kj45 a2 x8_3 x13_3 true) else (if 0 ≤ (wrap64 (x13_3 + 1)) then (if (wrap64 (x13_3 + 1)) < (x8_3.length : Int) then (ravelinref6_Pack.j8 kj45 a2 x8_3 x13_3 (((rd_T39 x8_3 (wrap64 (x13_3 + 1))).f0).toList != ((rd_T39 x8_3 x13_3).f0).toList)) else (none)) else (none))) else (ravelinref6_Pack.j8 kj45 a2 x8_3 x13_3 false)) = some r := by rw [← hbq52] at H; exact H
   have Nbq52 := Aside0.mk hbq52
   clear hbq52
   by_cases c53 : bq52 = true
   rotate_left
   ·replace c53 := Bool.eq_false_iff.mpr c53
    subst c53
    have H1 : (ravelinref6_Pack.j8 kj45 a2 x8_3 x13_3 false) = some r := by rw [if_neg (show ¬ (false = true) by decide)] at H; exact H
    clear H
    have H := H1
    clear H1
    have H' := Aside0.mk H
    clear H
    try go_wp2
    have n0_ := Aside0.mk (Kd.R_drew HO_8.out)
    have n1_ := Aside0.mk (below_drew1 HB.out)
    clear HO_8
    clear HB
    have HO_8 := n0_
    have HB := n1_
    clear n0_ n1_
    obtain ⟨Ao63, co63, eo63⟩ := Kd.R_slice HO_8.out
    (first | subst eo63 | (injection eo63 with f1_ f2_ f3_; have f4_ := f1_.symm; have f5_ := f3_.symm; clear f1_ f2_ f3_; subst f4_; subst f5_))
    have p251 : 0 ≤ (x13_3 : Int) := of_decide_eq_true (by first | (with_reducible assumption) | assumption)
    have q251 : x13_3 < (x8_3.length : Int) := of_decide_eq_true (by first | (with_reducible assumption) | assumption)
    obtain ⟨ad251, e251, hx251_0, hx251_1, hx251_2, hx251_3⟩ := at_T39 (Kd.R_reads' HO_8.out).2.2 x13_3 p251 q251
    (try rw [← Nbq52.out] at hx251_2)
    cases e251
    replace p251 := eq_true p251
    replace q251 := eq_true q251
    refine start_ (n := 26) (S := fun w' => w'.cell? (ad251.add ((x13_3).toNat * 4)) = some (.string ((rd_T39 x8_3 x13_3).f0)) ∧ w'.cell? ⟨(ad251.add ((x13_3).toNat * 4)).block, (ad251.add ((x13_3).toNat * 4)).off + 1, none⟩ = some (.int .i64 ((rd_T39 x8_3 x13_3).f1)) ∧ w'.cell? ⟨(ad251.add ((x13_3).toNat * 4)).block, (ad251.add ((x13_3).toNat * 4)).off + 2, none⟩ = some (.bool false) ∧ w'.cell? ⟨(ad251.add ((x13_3).toNat * 4)).block, (ad251.add ((x13_3).toNat * 4)).off + 3, none⟩ = some (.string ((rd_T39 x8_3 x13_3).f3))) (ds := []) #[false, false, false, false, false, false, false, false, false, false, false, false, false, false, false, false, false, false, false, false, false, false, false, false, false, false] (by kernel_rfl) rfl rfl ⟨hx251_0, hx251_1, hx251_2, hx251_3⟩ (fun hHeld => ?_); refine with_tabW ravelinref6_Pack.tab25 ravelinref6_Pack.bits25 (fun HT_ HW_ => ?_)
    generalize wc.drew = w62 at HO_8 HB hx251_0 hx251_1 hx251_2 hx251_3 hHeld ⊢
    refine pure_ (i := 0) (N := some 112) (v := ?_) (a' := ?_) #[true, false, false, false, false, false, false, false, false, false, false, false, false, false, false, false, false, false, false, false, false, false, false, false, false, false] rfl rfl (any_of HT_.out (by kernel_rfl)) (fun _ _ _ h => h) (Or.inl ⟨by rfl, ?_⟩) ?_ ?_
    rotate_left
    ·intro w'
     go_simp
     with_reducible rfl
    rotate_left
    ·simp only [Act.put, List.setIfInBounds_toArray, List.set_cons_zero, List.set_cons_succ, i64_w, i32_w]
     rfl
    refine pure_ (i := 1) (N := some 113) (v := ?_) (a' := ?_) #[true, true, false, false, false, false, false, false, false, false, false, false, false, false, false, false, false, false, false, false, false, false, false, false, false, false] rfl rfl (any_of HT_.out (by kernel_rfl)) (fun _ _ _ h => h) (Or.inl ⟨by rfl, ?_⟩) ?_ ?_
    rotate_left
    ·intro w'
     go_simp
     with_reducible rfl
    rotate_left
    ·simp only [Act.put, List.setIfInBounds_toArray, List.set_cons_zero, List.set_cons_succ, i64_w, i32_w]
     rfl
    refine pure_ (i := 2) (N := some 114) (v := ?_) (a' := ?_) #[true, true, true, false, false, false, false, false, false, false, false, false, false, false, false, false, false, false, false, false, false, false, false, false, false, false] rfl rfl (any_of HT_.out (by kernel_rfl)) (fun _ _ _ h => h) (Or.inl ⟨by rfl, ?_⟩) ?_ ?_
    rotate_left
    ·intro w'
     go_simp
     with_reducible rfl
    rotate_left
    ·simp only [Act.put, List.setIfInBounds_toArray, List.set_cons_zero, List.set_cons_succ, i64_w, i32_w]
     rfl
    refine pure_ (i := 3) (N := some 115) (v := ?_) (a' := ?_) #[true, true, true, true, false, false, false, false, false, false, false, false, false, false, false, false, false, false, false, false, false, false, false, false, false, false] rfl rfl (any_of HT_.out (by kernel_rfl)) (fun _ _ _ h => h) (Or.inl ⟨by rfl, ?_⟩) ?_ ?_
    rotate_left
    ·intro w'
     go_simp
     with_reducible rfl
    rotate_left
    ·simp only [Act.put, List.setIfInBounds_toArray, List.set_cons_zero, List.set_cons_succ, i64_w, i32_w]
     rfl
    refine take_ (i := 4) (N := some 116) (v := ?_) (a' := ?_) #[true, true, true, true, true, false, false, false, false, false, false, false, false, false, false, false, false, false, false, false, false, false, false, false, false, false] rfl rfl (take_ofW HT_.out HW_.out (by kernel_rfl)) (fun _ _ _ h => h) (Or.inl ⟨by rfl, ?_⟩) hHeld ?_ ?_
    rotate_left
    ·rintro w' ⟨s0, s1, s2, s3⟩
     go_simp
     with_reducible rfl
    rotate_left
    ·simp only [Act.put, List.setIfInBounds_toArray, List.set_cons_zero, List.set_cons_succ, i64_w, i32_w]
     rfl
    refine pure_ (i := 5) (N := some 117) (v := ?_) (a' := ?_) #[true, true, true, true, true, true, false, false, false, false, false, false, false, false, false, false, false, false, false, false, false, false, false, false, false, false] rfl rfl (any_of HT_.out (by kernel_rfl)) (fun _ _ _ h => h) (Or.inl ⟨by rfl, ?_⟩) ?_ ?_
    rotate_left
    ·intro w'
     go_simp
     with_reducible rfl
    rotate_left
    ·simp only [Act.put, List.setIfInBounds_toArray, List.set_cons_zero, List.set_cons_succ, i64_w, i32_w]
     rfl
    refine pure_ (i := 6) (N := some 118) (v := undef) (a' := ?_) #[true, true, true, true, true, true, true, false, false, false, false, false, false, false, false, false, false, false, false, false, false, false, false, false, false, false] rfl rfl (any_of HT_.out (by kernel_rfl)) (fun _ _ _ h => h) (Or.inr ⟨by rfl, rfl⟩) ?_ ?_
    rotate_left
    ·simp only [Act.put, List.setIfInBounds_toArray, List.set_cons_zero, List.set_cons_succ, i64_w, i32_w]
     rfl
    refine pure_ (i := 7) (N := some 119) (v := undef) (a' := ?_) #[true, true, true, true, true, true, true, true, false, false, false, false, false, false, false, false, false, false, false, false, false, false, false, false, false, false] rfl rfl (any_of HT_.out (by kernel_rfl)) (fun _ _ _ h => h) (Or.inr ⟨by rfl, rfl⟩) ?_ ?_
    rotate_left
    ·simp only [Act.put, List.setIfInBounds_toArray, List.set_cons_zero, List.set_cons_succ, i64_w, i32_w]
     rfl
    refine pure_ (i := 8) (N := some 120) (v := undef) (a' := ?_) #[true, true, true, true, true, true, true, true, true, false, false, false, false, false, false, false, false, false, false, false, false, false, false, false, false, false] rfl rfl (any_of HT_.out (by kernel_rfl)) (fun _ _ _ h => h) (Or.inr ⟨by rfl, rfl⟩) ?_ ?_
    rotate_left
    ·simp only [Act.put, List.setIfInBounds_toArray, List.set_cons_zero, List.set_cons_succ, i64_w, i32_w]
     rfl
    refine pure_ (i := 9) (N := some 121) (v := undef) (a' := ?_) #[true, true, true, true, true, true, true, true, true, true, false, false, false, false, false, false, false, false, false, false, false, false, false, false, false, false] rfl rfl (any_of HT_.out (by kernel_rfl)) (fun _ _ _ h => h) (Or.inr ⟨by rfl, rfl⟩) ?_ ?_
    rotate_left
    ·simp only [Act.put, List.setIfInBounds_toArray, List.set_cons_zero, List.set_cons_succ, i64_w, i32_w]
     rfl
    refine pure_ (i := 10) (N := some 122) (v := undef) (a' := ?_) #[true, true, true, true, true, true, true, true, true, true, true, false, false, false, false, false, false, false, false, false, false, false, false, false, false, false] rfl rfl (any_of HT_.out (by kernel_rfl)) (fun _ _ _ h => h) (Or.inr ⟨by rfl, rfl⟩) ?_ ?_
    rotate_left
    ·simp only [Act.put, List.setIfInBounds_toArray, List.set_cons_zero, List.set_cons_succ, i64_w, i32_w]
     rfl
    refine pure_ (i := 11) (N := some 123) (v := undef) (a' := ?_) #[true, true, true, true, true, true, true, true, true, true, true, true, false, false, false, false, false, false, false, false, false, false, false, false, false, false] rfl rfl (any_of HT_.out (by kernel_rfl)) (fun _ _ _ h => h) (Or.inr ⟨by rfl, rfl⟩) ?_ ?_
    rotate_left
    ·simp only [Act.put, List.setIfInBounds_toArray, List.set_cons_zero, List.set_cons_succ, i64_w, i32_w]
     rfl
    refine pure_ (i := 12) (N := some 124) (v := undef) (a' := ?_) #[true, true, true, true, true, true, true, true, true, true, true, true, true, false, false, false, false, false, false, false, false, false, false, false, false, false] rfl rfl (any_of HT_.out (by kernel_rfl)) (fun _ _ _ h => h) (Or.inr ⟨by rfl, rfl⟩) ?_ ?_
    rotate_left
    ·simp only [Act.put, List.setIfInBounds_toArray, List.set_cons_zero, List.set_cons_succ, i64_w, i32_w]
     rfl
    refine pure_ (i := 13) (N := some 125) (v := undef) (a' := ?_) #[true, true, true, true, true, true, true, true, true, true, true, true, true, true, false, false, false, false, false, false, false, false, false, false, false, false] rfl rfl (any_of HT_.out (by kernel_rfl)) (fun _ _ _ h => h) (Or.inr ⟨by rfl, rfl⟩) ?_ ?_
    rotate_left
    ·simp only [Act.put, List.setIfInBounds_toArray, List.set_cons_zero, List.set_cons_succ, i64_w, i32_w]
     rfl
    refine pure_ (i := 14) (N := some 126) (v := undef) (a' := ?_) #[true, true, true, true, true, true, true, true, true, true, true, true, true, true, true, false, false, false, false, false, false, false, false, false, false, false] rfl rfl (any_of HT_.out (by kernel_rfl)) (fun _ _ _ h => h) (Or.inr ⟨by rfl, rfl⟩) ?_ ?_
    rotate_left
    ·simp only [Act.put, List.setIfInBounds_toArray, List.set_cons_zero, List.set_cons_succ, i64_w, i32_w]
     rfl
    refine pure_ (i := 15) (N := some 127) (v := undef) (a' := ?_) #[true, true, true, true, true, true, true, true, true, true, true, true, true, true, true, true, false, false, false, false, false, false, false, false, false, false] rfl rfl (any_of HT_.out (by kernel_rfl)) (fun _ _ _ h => h) (Or.inr ⟨by rfl, rfl⟩) ?_ ?_
    rotate_left
    ·simp only [Act.put, List.setIfInBounds_toArray, List.set_cons_zero, List.set_cons_succ, i64_w, i32_w]
     rfl
    refine pure_ (i := 16) (N := some 128) (v := undef) (a' := ?_) #[true, true, true, true, true, true, true, true, true, true, true, true, true, true, true, true, true, false, false, false, false, false, false, false, false, false] rfl rfl (any_of HT_.out (by kernel_rfl)) (fun _ _ _ h => h) (Or.inr ⟨by rfl, rfl⟩) ?_ ?_
    rotate_left
    ·simp only [Act.put, List.setIfInBounds_toArray, List.set_cons_zero, List.set_cons_succ, i64_w, i32_w]
     rfl
    refine pure_ (i := 17) (N := some 129) (v := undef) (a' := ?_) #[true, true, true, true, true, true, true, true, true, true, true, true, true, true, true, true, true, true, false, false, false, false, false, false, false, false] rfl rfl (any_of HT_.out (by kernel_rfl)) (fun _ _ _ h => h) (Or.inr ⟨by rfl, rfl⟩) ?_ ?_
    rotate_left
    ·simp only [Act.put, List.setIfInBounds_toArray, List.set_cons_zero, List.set_cons_succ, i64_w, i32_w]
     rfl
    refine pure_ (i := 18) (N := some 130) (v := undef) (a' := ?_) #[true, true, true, true, true, true, true, true, true, true, true, true, true, true, true, true, true, true, true, false, false, false, false, false, false, false] rfl rfl (any_of HT_.out (by kernel_rfl)) (fun _ _ _ h => h) (Or.inr ⟨by rfl, rfl⟩) ?_ ?_
    rotate_left
    ·simp only [Act.put, List.setIfInBounds_toArray, List.set_cons_zero, List.set_cons_succ, i64_w, i32_w]
     rfl
    refine pure_ (i := 19) (N := some 131) (v := undef) (a' := ?_) #[true, true, true, true, true, true, true, true, true, true, true, true, true, true, true, true, true, true, true, true, false, false, false, false, false, false] rfl rfl (any_of HT_.out (by kernel_rfl)) (fun _ _ _ h => h) (Or.inr ⟨by rfl, rfl⟩) ?_ ?_
    rotate_left
    ·simp only [Act.put, List.setIfInBounds_toArray, List.set_cons_zero, List.set_cons_succ, i64_w, i32_w]
     rfl
    refine pure_ (i := 20) (N := some 132) (v := undef) (a' := ?_) #[true, true, true, true, true, true, true, true, true, true, true, true, true, true, true, true, true, true, true, true, true, false, false, false, false, false] rfl rfl (any_of HT_.out (by kernel_rfl)) (fun _ _ _ h => h) (Or.inr ⟨by rfl, rfl⟩) ?_ ?_
    rotate_left
    ·simp only [Act.put, List.setIfInBounds_toArray, List.set_cons_zero, List.set_cons_succ, i64_w, i32_w]
     rfl
    refine pure_ (i := 21) (N := some 133) (v := undef) (a' := ?_) #[true, true, true, true, true, true, true, true, true, true, true, true, true, true, true, true, true, true, true, true, true, true, false, false, false, false] rfl rfl (any_of HT_.out (by kernel_rfl)) (fun _ _ _ h => h) (Or.inr ⟨by rfl, rfl⟩) ?_ ?_
    rotate_left
    ·simp only [Act.put, List.setIfInBounds_toArray, List.set_cons_zero, List.set_cons_succ, i64_w, i32_w]
     rfl
    refine pure_ (i := 22) (N := some 134) (v := undef) (a' := ?_) #[true, true, true, true, true, true, true, true, true, true, true, true, true, true, true, true, true, true, true, true, true, true, true, false, false, false] rfl rfl (any_of HT_.out (by kernel_rfl)) (fun _ _ _ h => h) (Or.inr ⟨by rfl, rfl⟩) ?_ ?_
    rotate_left
    ·simp only [Act.put, List.setIfInBounds_toArray, List.set_cons_zero, List.set_cons_succ, i64_w, i32_w]
     rfl
    refine pure_ (i := 23) (N := some 135) (v := undef) (a' := ?_) #[true, true, true, true, true, true, true, true, true, true, true, true, true, true, true, true, true, true, true, true, true, true, true, true, false, false] rfl rfl (any_of HT_.out (by kernel_rfl)) (fun _ _ _ h => h) (Or.inr ⟨by rfl, rfl⟩) ?_ ?_
    rotate_left
    ·simp only [Act.put, List.setIfInBounds_toArray, List.set_cons_zero, List.set_cons_succ, i64_w, i32_w]
     rfl
    refine pure_ (i := 24) (N := some 136) (v := undef) (a' := ?_) #[true, true, true, true, true, true, true, true, true, true, true, true, true, true, true, true, true, true, true, true, true, true, true, true, true, false] rfl rfl (any_of HT_.out (by kernel_rfl)) (fun _ _ _ h => h) (Or.inr ⟨by rfl, rfl⟩) ?_ ?_
    rotate_left
    ·simp only [Act.put, List.setIfInBounds_toArray, List.set_cons_zero, List.set_cons_succ, i64_w, i32_w]
     rfl
    refine pure_ (i := 25) (N := some 137) (v := ?_) (a' := ?_) #[true, true, true, true, true, true, true, true, true, true, true, true, true, true, true, true, true, true, true, true, true, true, true, true, true, true] rfl rfl (any_of HT_.out (by kernel_rfl)) (fun _ _ _ h => h) (Or.inl ⟨by rfl, ?_⟩) ?_ ?_
    rotate_left
    ·intro w'
     go_simp
     with_reducible rfl
    rotate_left
    ·simp only [Act.put, List.setIfInBounds_toArray, List.set_cons_zero, List.set_cons_succ, i64_w, i32_w]
     rfl
    refine done_ (done_of HT_.out (by kernel_rfl)) ?_
    try go_wp2
    go_meet
    case rel => exact ⟨_, (false), (by first | rfl | (simp; done) | (simp [*]; done)), H', ⟨by have := HK1.out; have := HK2.out; have := HK3.out; have := HJ45.out; first | omega | exact Nat.le_refl _⟩, ⟨by (with_reducible repeat (first | apply Kd.R_alloc | apply Kd.R_drewN | apply Kd.R_drew)); exact HO_8.out⟩, ⟨by repeat (first | (with_reducible first | exact HB.out | apply below_alloc | apply pw_below_drewN | apply below_drew1) | exact HB.out)⟩⟩
   subst c53
   have H1 : (if x13_3 = (wrap64 ((x8_3.length : Int) - 1)) then (ravelinref6_Pack.j8 kj45 a2 x8_3 x13_3 true) else (if 0 ≤ (wrap64 (x13_3 + 1)) then (if (wrap64 (x13_3 + 1)) < (x8_3.length : Int) then (ravelinref6_Pack.j8 kj45 a2 x8_3 x13_3 (((rd_T39 x8_3 (wrap64 (x13_3 + 1))).f0).toList != ((rd_T39 x8_3 x13_3).f0).toList)) else (none)) else (none))) = some r := by rw [if_pos rfl] at H; exact H
   clear H
   have H := H1
   clear H1
   by_cases c54 : x13_3 = (wrap64 ((x8_3.length : Int) - 1))
   ·rw [if_pos c54] at H
    have c54b0 : (x13_3 == (wrap64 ((x8_3.length : Int) - 1))) = true := beq_iff_eq.mpr c54
    have c54b1 : (x13_3 != (wrap64 ((x8_3.length : Int) - 1))) = false := bne_eq_false_iff_eq.mpr c54
    clear c54
    have H' := Aside0.mk H
    clear H
    try go_wp2
    have n0_ := Aside0.mk (Kd.R_drew HO_8.out)
    have n1_ := Aside0.mk (below_drew1 HB.out)
    clear HO_8
    clear HB
    have HO_8 := n0_
    have HB := n1_
    clear n0_ n1_
    obtain ⟨Ao56, co56, eo56⟩ := Kd.R_slice HO_8.out
    (first | subst eo56 | (injection eo56 with f1_ f2_ f3_; have f4_ := f1_.symm; have f5_ := f3_.symm; clear f1_ f2_ f3_; subst f4_; subst f5_))
    have p251 : 0 ≤ (x13_3 : Int) := of_decide_eq_true (by first | (with_reducible assumption) | assumption)
    have q251 : x13_3 < (x8_3.length : Int) := of_decide_eq_true (by first | (with_reducible assumption) | assumption)
    obtain ⟨ad251, e251, hx251_0, hx251_1, hx251_2, hx251_3⟩ := at_T39 (Kd.R_reads' HO_8.out).2.2 x13_3 p251 q251
    (try rw [← Nbq52.out] at hx251_2)
    cases e251
    replace p251 := eq_true p251
    replace q251 := eq_true q251
    refine start_ (n := 26) (S := fun w' => w'.cell? (ad251.add ((x13_3).toNat * 4)) = some (.string ((rd_T39 x8_3 x13_3).f0)) ∧ w'.cell? ⟨(ad251.add ((x13_3).toNat * 4)).block, (ad251.add ((x13_3).toNat * 4)).off + 1, none⟩ = some (.int .i64 ((rd_T39 x8_3 x13_3).f1)) ∧ w'.cell? ⟨(ad251.add ((x13_3).toNat * 4)).block, (ad251.add ((x13_3).toNat * 4)).off + 2, none⟩ = some (.bool true) ∧ w'.cell? ⟨(ad251.add ((x13_3).toNat * 4)).block, (ad251.add ((x13_3).toNat * 4)).off + 3, none⟩ = some (.string ((rd_T39 x8_3 x13_3).f3))) (ds := []) #[false, false, false, false, false, false, false, false, false, false, false, false, false, false, false, false, false, false, false, false, false, false, false, false, false, false] (by kernel_rfl) rfl rfl ⟨hx251_0, hx251_1, hx251_2, hx251_3⟩ (fun hHeld => ?_); refine with_tabW ravelinref6_Pack.tab25 ravelinref6_Pack.bits25 (fun HT_ HW_ => ?_)
    generalize wc.drew = w55 at HO_8 HB hx251_0 hx251_1 hx251_2 hx251_3 hHeld ⊢
    refine pure_ (i := 0) (N := some 112) (v := ?_) (a' := ?_) #[true, false, false, false, false, false, false, false, false, false, false, false, false, false, false, false, false, false, false, false, false, false, false, false, false, false] rfl rfl (any_of HT_.out (by kernel_rfl)) (fun _ _ _ h => h) (Or.inl ⟨by rfl, ?_⟩) ?_ ?_
    rotate_left
    ·intro w'
     go_simp
     with_reducible rfl
    rotate_left
    ·simp only [Act.put, List.setIfInBounds_toArray, List.set_cons_zero, List.set_cons_succ, i64_w, i32_w]
     rfl
    refine pure_ (i := 1) (N := some 113) (v := ?_) (a' := ?_) #[true, true, false, false, false, false, false, false, false, false, false, false, false, false, false, false, false, false, false, false, false, false, false, false, false, false] rfl rfl (any_of HT_.out (by kernel_rfl)) (fun _ _ _ h => h) (Or.inl ⟨by rfl, ?_⟩) ?_ ?_
    rotate_left
    ·intro w'
     go_simp
     with_reducible rfl
    rotate_left
    ·simp only [Act.put, List.setIfInBounds_toArray, List.set_cons_zero, List.set_cons_succ, i64_w, i32_w]
     rfl
    refine pure_ (i := 2) (N := some 114) (v := ?_) (a' := ?_) #[true, true, true, false, false, false, false, false, false, false, false, false, false, false, false, false, false, false, false, false, false, false, false, false, false, false] rfl rfl (any_of HT_.out (by kernel_rfl)) (fun _ _ _ h => h) (Or.inl ⟨by rfl, ?_⟩) ?_ ?_
    rotate_left
    ·intro w'
     go_simp
     with_reducible rfl
    rotate_left
    ·simp only [Act.put, List.setIfInBounds_toArray, List.set_cons_zero, List.set_cons_succ, i64_w, i32_w]
     rfl
    refine pure_ (i := 3) (N := some 115) (v := ?_) (a' := ?_) #[true, true, true, true, false, false, false, false, false, false, false, false, false, false, false, false, false, false, false, false, false, false, false, false, false, false] rfl rfl (any_of HT_.out (by kernel_rfl)) (fun _ _ _ h => h) (Or.inl ⟨by rfl, ?_⟩) ?_ ?_
    rotate_left
    ·intro w'
     go_simp
     with_reducible rfl
    rotate_left
    ·simp only [Act.put, List.setIfInBounds_toArray, List.set_cons_zero, List.set_cons_succ, i64_w, i32_w]
     rfl
    refine take_ (i := 4) (N := some 116) (v := ?_) (a' := ?_) #[true, true, true, true, true, false, false, false, false, false, false, false, false, false, false, false, false, false, false, false, false, false, false, false, false, false] rfl rfl (take_ofW HT_.out HW_.out (by kernel_rfl)) (fun _ _ _ h => h) (Or.inl ⟨by rfl, ?_⟩) hHeld ?_ ?_
    rotate_left
    ·rintro w' ⟨s0, s1, s2, s3⟩
     go_simp
     with_reducible rfl
    rotate_left
    ·simp only [Act.put, List.setIfInBounds_toArray, List.set_cons_zero, List.set_cons_succ, i64_w, i32_w]
     rfl
    refine pure_ (i := 5) (N := some 117) (v := ?_) (a' := ?_) #[true, true, true, true, true, true, false, false, false, false, false, false, false, false, false, false, false, false, false, false, false, false, false, false, false, false] rfl rfl (any_of HT_.out (by kernel_rfl)) (fun _ _ _ h => h) (Or.inl ⟨by rfl, ?_⟩) ?_ ?_
    rotate_left
    ·intro w'
     go_simp
     with_reducible rfl
    rotate_left
    ·simp only [Act.put, List.setIfInBounds_toArray, List.set_cons_zero, List.set_cons_succ, i64_w, i32_w]
     rfl
    refine pure_ (i := 6) (N := some 118) (v := ?_) (a' := ?_) #[true, true, true, true, true, true, true, false, false, false, false, false, false, false, false, false, false, false, false, false, false, false, false, false, false, false] rfl rfl (any_of HT_.out (by kernel_rfl)) (fun _ _ _ h => h) (Or.inl ⟨by rfl, ?_⟩) ?_ ?_
    rotate_left
    ·intro w'
     go_simp
     with_reducible rfl
    rotate_left
    ·simp only [Act.put, List.setIfInBounds_toArray, List.set_cons_zero, List.set_cons_succ, i64_w, i32_w]
     rfl
    refine pure_ (i := 7) (N := some 119) (v := ?_) (a' := ?_) #[true, true, true, true, true, true, true, true, false, false, false, false, false, false, false, false, false, false, false, false, false, false, false, false, false, false] rfl rfl (any_of HT_.out (by kernel_rfl)) (fun _ _ _ h => h) (Or.inl ⟨by rfl, ?_⟩) ?_ ?_
    rotate_left
    ·intro w'
     go_simp
     with_reducible rfl
    rotate_left
    ·simp only [Act.put, List.setIfInBounds_toArray, List.set_cons_zero, List.set_cons_succ, i64_w, i32_w]
     rfl
    refine pure_ (i := 8) (N := some 120) (v := ?_) (a' := ?_) #[true, true, true, true, true, true, true, true, true, false, false, false, false, false, false, false, false, false, false, false, false, false, false, false, false, false] rfl rfl (any_of HT_.out (by kernel_rfl)) (fun _ _ _ h => h) (Or.inl ⟨by rfl, ?_⟩) ?_ ?_
    rotate_left
    ·intro w'
     go_simp
     with_reducible rfl
    rotate_left
    ·simp only [Act.put, List.setIfInBounds_toArray, List.set_cons_zero, List.set_cons_succ, i64_w, i32_w]
     rfl
    refine pure_ (i := 9) (N := some 121) (v := ?_) (a' := ?_) #[true, true, true, true, true, true, true, true, true, true, false, false, false, false, false, false, false, false, false, false, false, false, false, false, false, false] rfl rfl (any_of HT_.out (by kernel_rfl)) (fun _ _ _ h => h) (Or.inl ⟨by rfl, ?_⟩) ?_ ?_
    rotate_left
    ·intro w'
     go_simp
     with_reducible rfl
    rotate_left
    ·simp only [Act.put, List.setIfInBounds_toArray, List.set_cons_zero, List.set_cons_succ, i64_w, i32_w]
     rfl
    refine pure_ (i := 10) (N := some 122) (v := ?_) (a' := ?_) #[true, true, true, true, true, true, true, true, true, true, true, false, false, false, false, false, false, false, false, false, false, false, false, false, false, false] rfl rfl (any_of HT_.out (by kernel_rfl)) (fun _ _ _ h => h) (Or.inl ⟨by rfl, ?_⟩) ?_ ?_
    rotate_left
    ·intro w'
     go_simp
     with_reducible rfl
    rotate_left
    ·simp only [Act.put, List.setIfInBounds_toArray, List.set_cons_zero, List.set_cons_succ, i64_w, i32_w]
     rfl
    refine pure_ (i := 11) (N := some 123) (v := ?_) (a' := ?_) #[true, true, true, true, true, true, true, true, true, true, true, true, false, false, false, false, false, false, false, false, false, false, false, false, false, false] rfl rfl (any_of HT_.out (by kernel_rfl)) (fun _ _ _ h => h) (Or.inl ⟨by rfl, ?_⟩) ?_ ?_
    rotate_left
    ·intro w'
     go_simp
     with_reducible rfl
    rotate_left
    ·simp only [Act.put, List.setIfInBounds_toArray, List.set_cons_zero, List.set_cons_succ, i64_w, i32_w]
     rfl
    refine pure_ (i := 12) (N := some 124) (v := undef) (a' := ?_) #[true, true, true, true, true, true, true, true, true, true, true, true, true, false, false, false, false, false, false, false, false, false, false, false, false, false] rfl rfl (any_of HT_.out (by kernel_rfl)) (fun _ _ _ h => h) (Or.inr ⟨by rfl, rfl⟩) ?_ ?_
    rotate_left
    ·simp only [Act.put, List.setIfInBounds_toArray, List.set_cons_zero, List.set_cons_succ, i64_w, i32_w]
     rfl
    refine pure_ (i := 13) (N := some 125) (v := undef) (a' := ?_) #[true, true, true, true, true, true, true, true, true, true, true, true, true, true, false, false, false, false, false, false, false, false, false, false, false, false] rfl rfl (any_of HT_.out (by kernel_rfl)) (fun _ _ _ h => h) (Or.inr ⟨by rfl, rfl⟩) ?_ ?_
    rotate_left
    ·simp only [Act.put, List.setIfInBounds_toArray, List.set_cons_zero, List.set_cons_succ, i64_w, i32_w]
     rfl
    refine pure_ (i := 14) (N := some 126) (v := undef) (a' := ?_) #[true, true, true, true, true, true, true, true, true, true, true, true, true, true, true, false, false, false, false, false, false, false, false, false, false, false] rfl rfl (any_of HT_.out (by kernel_rfl)) (fun _ _ _ h => h) (Or.inr ⟨by rfl, rfl⟩) ?_ ?_
    rotate_left
    ·simp only [Act.put, List.setIfInBounds_toArray, List.set_cons_zero, List.set_cons_succ, i64_w, i32_w]
     rfl
    refine pure_ (i := 15) (N := some 127) (v := undef) (a' := ?_) #[true, true, true, true, true, true, true, true, true, true, true, true, true, true, true, true, false, false, false, false, false, false, false, false, false, false] rfl rfl (any_of HT_.out (by kernel_rfl)) (fun _ _ _ h => h) (Or.inr ⟨by rfl, rfl⟩) ?_ ?_
    rotate_left
    ·simp only [Act.put, List.setIfInBounds_toArray, List.set_cons_zero, List.set_cons_succ, i64_w, i32_w]
     rfl
    refine pure_ (i := 16) (N := some 128) (v := undef) (a' := ?_) #[true, true, true, true, true, true, true, true, true, true, true, true, true, true, true, true, true, false, false, false, false, false, false, false, false, false] rfl rfl (any_of HT_.out (by kernel_rfl)) (fun _ _ _ h => h) (Or.inr ⟨by rfl, rfl⟩) ?_ ?_
    rotate_left
    ·simp only [Act.put, List.setIfInBounds_toArray, List.set_cons_zero, List.set_cons_succ, i64_w, i32_w]
     rfl
    refine pure_ (i := 17) (N := some 129) (v := undef) (a' := ?_) #[true, true, true, true, true, true, true, true, true, true, true, true, true, true, true, true, true, true, false, false, false, false, false, false, false, false] rfl rfl (any_of HT_.out (by kernel_rfl)) (fun _ _ _ h => h) (Or.inr ⟨by rfl, rfl⟩) ?_ ?_
    rotate_left
    ·simp only [Act.put, List.setIfInBounds_toArray, List.set_cons_zero, List.set_cons_succ, i64_w, i32_w]
     rfl
    refine pure_ (i := 18) (N := some 130) (v := undef) (a' := ?_) #[true, true, true, true, true, true, true, true, true, true, true, true, true, true, true, true, true, true, true, false, false, false, false, false, false, false] rfl rfl (any_of HT_.out (by kernel_rfl)) (fun _ _ _ h => h) (Or.inr ⟨by rfl, rfl⟩) ?_ ?_
    rotate_left
    ·simp only [Act.put, List.setIfInBounds_toArray, List.set_cons_zero, List.set_cons_succ, i64_w, i32_w]
     rfl
    refine pure_ (i := 19) (N := some 131) (v := undef) (a' := ?_) #[true, true, true, true, true, true, true, true, true, true, true, true, true, true, true, true, true, true, true, true, false, false, false, false, false, false] rfl rfl (any_of HT_.out (by kernel_rfl)) (fun _ _ _ h => h) (Or.inr ⟨by rfl, rfl⟩) ?_ ?_
    rotate_left
    ·simp only [Act.put, List.setIfInBounds_toArray, List.set_cons_zero, List.set_cons_succ, i64_w, i32_w]
     rfl
    refine pure_ (i := 20) (N := some 132) (v := undef) (a' := ?_) #[true, true, true, true, true, true, true, true, true, true, true, true, true, true, true, true, true, true, true, true, true, false, false, false, false, false] rfl rfl (any_of HT_.out (by kernel_rfl)) (fun _ _ _ h => h) (Or.inr ⟨by rfl, rfl⟩) ?_ ?_
    rotate_left
    ·simp only [Act.put, List.setIfInBounds_toArray, List.set_cons_zero, List.set_cons_succ, i64_w, i32_w]
     rfl
    refine pure_ (i := 21) (N := some 133) (v := undef) (a' := ?_) #[true, true, true, true, true, true, true, true, true, true, true, true, true, true, true, true, true, true, true, true, true, true, false, false, false, false] rfl rfl (any_of HT_.out (by kernel_rfl)) (fun _ _ _ h => h) (Or.inr ⟨by rfl, rfl⟩) ?_ ?_
    rotate_left
    ·simp only [Act.put, List.setIfInBounds_toArray, List.set_cons_zero, List.set_cons_succ, i64_w, i32_w]
     rfl
    refine pure_ (i := 22) (N := some 134) (v := undef) (a' := ?_) #[true, true, true, true, true, true, true, true, true, true, true, true, true, true, true, true, true, true, true, true, true, true, true, false, false, false] rfl rfl (any_of HT_.out (by kernel_rfl)) (fun _ _ _ h => h) (Or.inr ⟨by rfl, rfl⟩) ?_ ?_
    rotate_left
    ·simp only [Act.put, List.setIfInBounds_toArray, List.set_cons_zero, List.set_cons_succ, i64_w, i32_w]
     rfl
    refine pure_ (i := 23) (N := some 135) (v := undef) (a' := ?_) #[true, true, true, true, true, true, true, true, true, true, true, true, true, true, true, true, true, true, true, true, true, true, true, true, false, false] rfl rfl (any_of HT_.out (by kernel_rfl)) (fun _ _ _ h => h) (Or.inr ⟨by rfl, rfl⟩) ?_ ?_
    rotate_left
    ·simp only [Act.put, List.setIfInBounds_toArray, List.set_cons_zero, List.set_cons_succ, i64_w, i32_w]
     rfl
    refine pure_ (i := 24) (N := some 136) (v := ?_) (a' := ?_) #[true, true, true, true, true, true, true, true, true, true, true, true, true, true, true, true, true, true, true, true, true, true, true, true, true, false] rfl rfl (any_of HT_.out (by kernel_rfl)) (fun _ _ _ h => h) (Or.inl ⟨by rfl, ?_⟩) ?_ ?_
    rotate_left
    ·intro w'
     go_simp
     with_reducible rfl
    rotate_left
    ·simp only [Act.put, List.setIfInBounds_toArray, List.set_cons_zero, List.set_cons_succ, i64_w, i32_w]
     rfl
    refine pure_ (i := 25) (N := some 137) (v := ?_) (a' := ?_) #[true, true, true, true, true, true, true, true, true, true, true, true, true, true, true, true, true, true, true, true, true, true, true, true, true, true] rfl rfl (any_of HT_.out (by kernel_rfl)) (fun _ _ _ h => h) (Or.inl ⟨by rfl, ?_⟩) ?_ ?_
    rotate_left
    ·intro w'
     go_simp
     with_reducible rfl
    rotate_left
    ·simp only [Act.put, List.setIfInBounds_toArray, List.set_cons_zero, List.set_cons_succ, i64_w, i32_w]
     rfl
    refine done_ (done_of HT_.out (by kernel_rfl)) ?_
    try go_wp2
    go_meet
    case rel => exact ⟨_, (true), (by first | rfl | (simp; done) | (simp [*]; done)), H', ⟨by have := HK1.out; have := HK2.out; have := HK3.out; have := HJ45.out; first | omega | exact Nat.le_refl _⟩, ⟨by (with_reducible repeat (first | apply Kd.R_alloc | apply Kd.R_drewN | apply Kd.R_drew)); exact HO_8.out⟩, ⟨by repeat (first | (with_reducible first | exact HB.out | apply below_alloc | apply pw_below_drewN | apply below_drew1) | exact HB.out)⟩⟩
   rw [if_neg c54] at H
   have c54b0 : (x13_3 == (wrap64 ((x8_3.length : Int) - 1))) = false := beq_eq_false_iff_ne.mpr c54
   have c54b1 : (x13_3 != (wrap64 ((x8_3.length : Int) - 1))) = true := bne_iff_ne.mpr c54
   obtain ⟨ji57, hji57⟩ : ∃ j_ : Int, (wrap64 (x13_3 + 1)) = j_ := ⟨_, rfl⟩
   replace H : (if 0 ≤ (ji57) then (if (ji57) < (x8_3.length : Int) then (ravelinref6_Pack.j8 kj45 a2 x8_3 x13_3 (((rd_T39 x8_3 (ji57)).f0).toList != ((rd_T39 x8_3 x13_3).f0).toList)) else (none)) else (none)) = some r := by first | (rw [hji57] at H; exact H) | (simp only [hji57] at H ⊢; exact H)
   have hji57w : (IntKind.i64.wrap (x13_3 + 1)) = ji57 := (i64_w _).trans hji57
   by_cases c58 : 0 ≤ (ji57)
   rotate_left
   ·rw [if_neg c58] at H
    exact absurd H (by simp)
   rw [if_pos c58] at H
   have c58b0 : decide (0 ≤ (ji57)) = true := decide_eq_true c58
   clear c58
   by_cases c59 : (ji57) < (x8_3.length : Int)
   rotate_left
   ·rw [if_neg c59] at H
    exact absurd H (by simp)
   rw [if_pos c59] at H
   have c59b0 : decide ((ji57) < (x8_3.length : Int)) = true := decide_eq_true c59
   clear c59
   have H' := Aside0.mk H
   clear H
   try go_wp2
   have n0_ := Aside0.mk (Kd.R_drew HO_8.out)
   have n1_ := Aside0.mk (below_drew1 HB.out)
   clear HO_8
   clear HB
   have HO_8 := n0_
   have HB := n1_
   clear n0_ n1_
   obtain ⟨Ao61, co61, eo61⟩ := Kd.R_slice HO_8.out
   (first | subst eo61 | (injection eo61 with f1_ f2_ f3_; have f4_ := f1_.symm; have f5_ := f3_.symm; clear f1_ f2_ f3_; subst f4_; subst f5_))
   have p251 : 0 ≤ (x13_3 : Int) := of_decide_eq_true (by first | (with_reducible assumption) | assumption)
   have q251 : x13_3 < (x8_3.length : Int) := of_decide_eq_true (by first | (with_reducible assumption) | assumption)
   obtain ⟨ad251, e251, hx251_0, hx251_1, hx251_2, hx251_3⟩ := at_T39 (Kd.R_reads' HO_8.out).2.2 x13_3 p251 q251
   (try rw [← Nbq52.out] at hx251_2)
   cases e251
   replace p251 := eq_true p251
   replace q251 := eq_true q251
   have p252 : 0 ≤ ((ji57) : Int) := of_decide_eq_true (by first | (with_reducible assumption) | assumption)
   have q252 : (ji57) < (x8_3.length : Int) := of_decide_eq_true (by first | (with_reducible assumption) | assumption)
   obtain ⟨ad252, e252, hx252_0, hx252_1, hx252_2, hx252_3⟩ := at_T39 (Kd.R_reads' HO_8.out).2.2 (ji57) p252 q252
   (try rw [← Nbq52.out] at hx252_2)
   obtain rfl : ad251 = ad252 := (by injection e252)
   replace p252 := eq_true p252
   replace q252 := eq_true q252
   have p253 : 0 ≤ (x13_3 : Int) := of_decide_eq_true (by first | (with_reducible assumption) | assumption)
   have q253 : x13_3 < (x8_3.length : Int) := of_decide_eq_true (by first | (with_reducible assumption) | assumption)
   obtain ⟨ad253, e253, hx253_0, hx253_1, hx253_2, hx253_3⟩ := at_T39 (Kd.R_reads' HO_8.out).2.2 x13_3 p253 q253
   (try rw [← Nbq52.out] at hx253_2)
   obtain rfl : ad251 = ad253 := (by injection e253)
   replace p253 := eq_true p253
   replace q253 := eq_true q253
   refine start_ (n := 26) (S := fun w' => w'.cell? (ad251.add ((x13_3).toNat * 4)) = some (.string ((rd_T39 x8_3 x13_3).f0)) ∧ w'.cell? ⟨(ad251.add ((x13_3).toNat * 4)).block, (ad251.add ((x13_3).toNat * 4)).off + 1, none⟩ = some (.int .i64 ((rd_T39 x8_3 x13_3).f1)) ∧ w'.cell? ⟨(ad251.add ((x13_3).toNat * 4)).block, (ad251.add ((x13_3).toNat * 4)).off + 2, none⟩ = some (.bool true) ∧ w'.cell? ⟨(ad251.add ((x13_3).toNat * 4)).block, (ad251.add ((x13_3).toNat * 4)).off + 3, none⟩ = some (.string ((rd_T39 x8_3 x13_3).f3)) ∧ w'.cell? (ad251.add (((ji57)).toNat * 4)) = some (.string ((rd_T39 x8_3 (ji57)).f0)) ∧ w'.cell? ⟨(ad251.add (((ji57)).toNat * 4)).block, (ad251.add (((ji57)).toNat * 4)).off + 1, none⟩ = some (.int .i64 ((rd_T39 x8_3 (ji57)).f1)) ∧ w'.cell? ⟨(ad251.add (((ji57)).toNat * 4)).block, (ad251.add (((ji57)).toNat * 4)).off + 2, none⟩ = some (.bool ((rd_T39 x8_3 (ji57)).f2)) ∧ w'.cell? ⟨(ad251.add (((ji57)).toNat * 4)).block, (ad251.add (((ji57)).toNat * 4)).off + 3, none⟩ = some (.string ((rd_T39 x8_3 (ji57)).f3)) ∧ w'.cell? (ad251.add ((x13_3).toNat * 4)) = some (.string ((rd_T39 x8_3 x13_3).f0)) ∧ w'.cell? ⟨(ad251.add ((x13_3).toNat * 4)).block, (ad251.add ((x13_3).toNat * 4)).off + 1, none⟩ = some (.int .i64 ((rd_T39 x8_3 x13_3).f1)) ∧ w'.cell? ⟨(ad251.add ((x13_3).toNat * 4)).block, (ad251.add ((x13_3).toNat * 4)).off + 2, none⟩ = some (.bool (true)) ∧ w'.cell? ⟨(ad251.add ((x13_3).toNat * 4)).block, (ad251.add ((x13_3).toNat * 4)).off + 3, none⟩ = some (.string ((rd_T39 x8_3 x13_3).f3))) (ds := []) #[false, false, false, false, false, false, false, false, false, false, false, false, false, false, false, false, false, false, false, false, false, false, false, false, false, false] (by kernel_rfl) rfl rfl ⟨hx251_0, hx251_1, hx251_2, hx251_3, hx252_0, hx252_1, hx252_2, hx252_3, hx253_0, hx253_1, hx253_2, hx253_3⟩ (fun hHeld => ?_); refine with_tabW ravelinref6_Pack.tab25 ravelinref6_Pack.bits25 (fun HT_ HW_ => ?_)
   generalize wc.drew = w60 at HO_8 HB hx251_0 hx251_1 hx251_2 hx251_3 hx252_0 hx252_1 hx252_2 hx252_3 hx253_0 hx253_1 hx253_2 hx253_3 hHeld ⊢
   refine pure_ (i := 0) (N := some 112) (v := ?_) (a' := ?_) #[true, false, false, false, false, false, false, false, false, false, false, false, false, false, false, false, false, false, false, false, false, false, false, false, false, false] rfl rfl (any_of HT_.out (by kernel_rfl)) (fun _ _ _ h => h) (Or.inl ⟨by rfl, ?_⟩) ?_ ?_
   rotate_left
   ·intro w'
    go_simp
    with_reducible rfl
   rotate_left
   ·simp only [Act.put, List.setIfInBounds_toArray, List.set_cons_zero, List.set_cons_succ, i64_w, i32_w]
    rfl
   refine pure_ (i := 1) (N := some 113) (v := ?_) (a' := ?_) #[true, true, false, false, false, false, false, false, false, false, false, false, false, false, false, false, false, false, false, false, false, false, false, false, false, false] rfl rfl (any_of HT_.out (by kernel_rfl)) (fun _ _ _ h => h) (Or.inl ⟨by rfl, ?_⟩) ?_ ?_
   rotate_left
   ·intro w'
    go_simp
    with_reducible rfl
   rotate_left
   ·simp only [Act.put, List.setIfInBounds_toArray, List.set_cons_zero, List.set_cons_succ, i64_w, i32_w]
    rfl
   refine pure_ (i := 2) (N := some 114) (v := ?_) (a' := ?_) #[true, true, true, false, false, false, false, false, false, false, false, false, false, false, false, false, false, false, false, false, false, false, false, false, false, false] rfl rfl (any_of HT_.out (by kernel_rfl)) (fun _ _ _ h => h) (Or.inl ⟨by rfl, ?_⟩) ?_ ?_
   rotate_left
   ·intro w'
    go_simp
    with_reducible rfl
   rotate_left
   ·simp only [Act.put, List.setIfInBounds_toArray, List.set_cons_zero, List.set_cons_succ, i64_w, i32_w]
    rfl
   refine pure_ (i := 3) (N := some 115) (v := ?_) (a' := ?_) #[true, true, true, true, false, false, false, false, false, false, false, false, false, false, false, false, false, false, false, false, false, false, false, false, false, false] rfl rfl (any_of HT_.out (by kernel_rfl)) (fun _ _ _ h => h) (Or.inl ⟨by rfl, ?_⟩) ?_ ?_
   rotate_left
   ·intro w'
    go_simp
    with_reducible rfl
   rotate_left
   ·simp only [Act.put, List.setIfInBounds_toArray, List.set_cons_zero, List.set_cons_succ, i64_w, i32_w]
    rfl
   refine take_ (i := 4) (N := some 116) (v := ?_) (a' := ?_) #[true, true, true, true, true, false, false, false, false, false, false, false, false, false, false, false, false, false, false, false, false, false, false, false, false, false] rfl rfl (take_ofW HT_.out HW_.out (by kernel_rfl)) (fun _ _ _ h => h) (Or.inl ⟨by rfl, ?_⟩) hHeld ?_ ?_
   rotate_left
   ·rintro w' ⟨s0, s1, s2, s3, s4, s5, s6, s7, s8, s9, s10, s11⟩
    go_simp
    with_reducible rfl
   rotate_left
   ·simp only [Act.put, List.setIfInBounds_toArray, List.set_cons_zero, List.set_cons_succ, i64_w, i32_w]
    rfl
   refine pure_ (i := 5) (N := some 117) (v := ?_) (a' := ?_) #[true, true, true, true, true, true, false, false, false, false, false, false, false, false, false, false, false, false, false, false, false, false, false, false, false, false] rfl rfl (any_of HT_.out (by kernel_rfl)) (fun _ _ _ h => h) (Or.inl ⟨by rfl, ?_⟩) ?_ ?_
   rotate_left
   ·intro w'
    go_simp
    with_reducible rfl
   rotate_left
   ·simp only [Act.put, List.setIfInBounds_toArray, List.set_cons_zero, List.set_cons_succ, i64_w, i32_w]
    rfl
   refine pure_ (i := 6) (N := some 118) (v := ?_) (a' := ?_) #[true, true, true, true, true, true, true, false, false, false, false, false, false, false, false, false, false, false, false, false, false, false, false, false, false, false] rfl rfl (any_of HT_.out (by kernel_rfl)) (fun _ _ _ h => h) (Or.inl ⟨by rfl, ?_⟩) ?_ ?_
   rotate_left
   ·intro w'
    go_simp
    with_reducible rfl
   rotate_left
   ·simp only [Act.put, List.setIfInBounds_toArray, List.set_cons_zero, List.set_cons_succ, i64_w, i32_w]
    rfl
   refine pure_ (i := 7) (N := some 119) (v := ?_) (a' := ?_) #[true, true, true, true, true, true, true, true, false, false, false, false, false, false, false, false, false, false, false, false, false, false, false, false, false, false] rfl rfl (any_of HT_.out (by kernel_rfl)) (fun _ _ _ h => h) (Or.inl ⟨by rfl, ?_⟩) ?_ ?_
   rotate_left
   ·intro w'
    go_simp
    with_reducible rfl
   rotate_left
   ·simp only [Act.put, List.setIfInBounds_toArray, List.set_cons_zero, List.set_cons_succ, i64_w, i32_w]
    rfl
   refine pure_ (i := 8) (N := some 120) (v := ?_) (a' := ?_) #[true, true, true, true, true, true, true, true, true, false, false, false, false, false, false, false, false, false, false, false, false, false, false, false, false, false] rfl rfl (any_of HT_.out (by kernel_rfl)) (fun _ _ _ h => h) (Or.inl ⟨by rfl, ?_⟩) ?_ ?_
   rotate_left
   ·intro w'
    go_simp
    with_reducible rfl
   rotate_left
   ·simp only [Act.put, List.setIfInBounds_toArray, List.set_cons_zero, List.set_cons_succ, i64_w, i32_w]
    rfl
   refine pure_ (i := 9) (N := some 121) (v := ?_) (a' := ?_) #[true, true, true, true, true, true, true, true, true, true, false, false, false, false, false, false, false, false, false, false, false, false, false, false, false, false] rfl rfl (any_of HT_.out (by kernel_rfl)) (fun _ _ _ h => h) (Or.inl ⟨by rfl, ?_⟩) ?_ ?_
   rotate_left
   ·intro w'
    go_simp
    with_reducible rfl
   rotate_left
   ·simp only [Act.put, List.setIfInBounds_toArray, List.set_cons_zero, List.set_cons_succ, i64_w, i32_w]
    rfl
   refine pure_ (i := 10) (N := some 122) (v := ?_) (a' := ?_) #[true, true, true, true, true, true, true, true, true, true, true, false, false, false, false, false, false, false, false, false, false, false, false, false, false, false] rfl rfl (any_of HT_.out (by kernel_rfl)) (fun _ _ _ h => h) (Or.inl ⟨by rfl, ?_⟩) ?_ ?_
   rotate_left
   ·intro w'
    go_simp
    with_reducible rfl
   rotate_left
   ·simp only [Act.put, List.setIfInBounds_toArray, List.set_cons_zero, List.set_cons_succ, i64_w, i32_w]
    rfl
   refine pure_ (i := 11) (N := some 123) (v := ?_) (a' := ?_) #[true, true, true, true, true, true, true, true, true, true, true, true, false, false, false, false, false, false, false, false, false, false, false, false, false, false] rfl rfl (any_of HT_.out (by kernel_rfl)) (fun _ _ _ h => h) (Or.inl ⟨by rfl, ?_⟩) ?_ ?_
   rotate_left
   ·intro w'
    go_simp
    with_reducible rfl
   rotate_left
   ·simp only [Act.put, List.setIfInBounds_toArray, List.set_cons_zero, List.set_cons_succ, i64_w, i32_w]
    rfl
   refine pure_ (i := 12) (N := some 124) (v := ?_) (a' := ?_) #[true, true, true, true, true, true, true, true, true, true, true, true, true, false, false, false, false, false, false, false, false, false, false, false, false, false] rfl rfl (any_of HT_.out (by kernel_rfl)) (fun _ _ _ h => h) (Or.inl ⟨by rfl, ?_⟩) ?_ ?_
   rotate_left
   ·intro w'
    go_simp
    with_reducible rfl
   rotate_left
   ·simp only [Act.put, List.setIfInBounds_toArray, List.set_cons_zero, List.set_cons_succ, i64_w, i32_w]
    rfl
   refine pure_ (i := 13) (N := some 125) (v := ?_) (a' := ?_) #[true, true, true, true, true, true, true, true, true, true, true, true, true, true, false, false, false, false, false, false, false, false, false, false, false, false] rfl rfl (any_of HT_.out (by kernel_rfl)) (fun _ _ _ h => h) (Or.inl ⟨by rfl, ?_⟩) ?_ ?_
   rotate_left
   ·intro w'
    go_simp
    with_reducible rfl
   rotate_left
   ·simp only [Act.put, List.setIfInBounds_toArray, List.set_cons_zero, List.set_cons_succ, i64_w, i32_w]
    rfl
   refine pure_ (i := 14) (N := some 126) (v := ?_) (a' := ?_) #[true, true, true, true, true, true, true, true, true, true, true, true, true, true, true, false, false, false, false, false, false, false, false, false, false, false] rfl rfl (any_of HT_.out (by kernel_rfl)) (fun _ _ _ h => h) (Or.inl ⟨by rfl, ?_⟩) ?_ ?_
   rotate_left
   ·intro w'
    go_simp
    with_reducible rfl
   rotate_left
   ·simp only [Act.put, List.setIfInBounds_toArray, List.set_cons_zero, List.set_cons_succ, i64_w, i32_w]
    rfl
   refine pure_ (i := 15) (N := some 127) (v := ?_) (a' := ?_) #[true, true, true, true, true, true, true, true, true, true, true, true, true, true, true, true, false, false, false, false, false, false, false, false, false, false] rfl rfl (any_of HT_.out (by kernel_rfl)) (fun _ _ _ h => h) (Or.inl ⟨by rfl, ?_⟩) ?_ ?_
   rotate_left
   ·intro w'
    go_simp
    with_reducible rfl
   rotate_left
   ·simp only [Act.put, List.setIfInBounds_toArray, List.set_cons_zero, List.set_cons_succ, i64_w, i32_w]
    rfl
   refine pure_ (i := 16) (N := some 128) (v := ?_) (a' := ?_) #[true, true, true, true, true, true, true, true, true, true, true, true, true, true, true, true, true, false, false, false, false, false, false, false, false, false] rfl rfl (any_of HT_.out (by kernel_rfl)) (fun _ _ _ h => h) (Or.inl ⟨by rfl, ?_⟩) ?_ ?_
   rotate_left
   ·intro w'
    go_simp
    with_reducible rfl
   rotate_left
   ·simp only [Act.put, List.setIfInBounds_toArray, List.set_cons_zero, List.set_cons_succ, i64_w, i32_w]
    rfl
   refine pure_ (i := 18) (N := some 130) (v := ?_) (a' := ?_) #[true, true, true, true, true, true, true, true, true, true, true, true, true, true, true, true, true, false, true, false, false, false, false, false, false, false] rfl rfl (any_of HT_.out (by kernel_rfl)) (fun _ _ _ h => h) (Or.inl ⟨by rfl, ?_⟩) ?_ ?_
   rotate_left
   ·intro w'
    go_simp
    with_reducible rfl
   rotate_left
   ·simp only [Act.put, List.setIfInBounds_toArray, List.set_cons_zero, List.set_cons_succ, i64_w, i32_w]
    rfl
   refine pure_ (i := 19) (N := some 131) (v := ?_) (a' := ?_) #[true, true, true, true, true, true, true, true, true, true, true, true, true, true, true, true, true, false, true, true, false, false, false, false, false, false] rfl rfl (any_of HT_.out (by kernel_rfl)) (fun _ _ _ h => h) (Or.inl ⟨by rfl, ?_⟩) ?_ ?_
   rotate_left
   ·intro w'
    go_simp
    with_reducible rfl
   rotate_left
   ·simp only [Act.put, List.setIfInBounds_toArray, List.set_cons_zero, List.set_cons_succ, i64_w, i32_w]
    rfl
   refine pure_ (i := 20) (N := some 132) (v := ?_) (a' := ?_) #[true, true, true, true, true, true, true, true, true, true, true, true, true, true, true, true, true, false, true, true, true, false, false, false, false, false] rfl rfl (any_of HT_.out (by kernel_rfl)) (fun _ _ _ h => h) (Or.inl ⟨by rfl, ?_⟩) ?_ ?_
   rotate_left
   ·intro w'
    go_simp
    with_reducible rfl
   rotate_left
   ·simp only [Act.put, List.setIfInBounds_toArray, List.set_cons_zero, List.set_cons_succ, i64_w, i32_w]
    rfl
   refine pure_ (i := 21) (N := some 133) (v := ?_) (a' := ?_) #[true, true, true, true, true, true, true, true, true, true, true, true, true, true, true, true, true, false, true, true, true, true, false, false, false, false] rfl rfl (any_of HT_.out (by kernel_rfl)) (fun _ _ _ h => h) (Or.inl ⟨by rfl, ?_⟩) ?_ ?_
   rotate_left
   ·intro w'
    go_simp
    with_reducible rfl
   rotate_left
   ·simp only [Act.put, List.setIfInBounds_toArray, List.set_cons_zero, List.set_cons_succ, i64_w, i32_w]
    rfl
   refine take_ (i := 17) (N := some 129) (v := ?_) (a' := ?_) #[true, true, true, true, true, true, true, true, true, true, true, true, true, true, true, true, true, true, true, true, true, true, false, false, false, false] rfl rfl (take_ofW HT_.out HW_.out (by kernel_rfl)) (fun _ _ _ h => h) (Or.inl ⟨by rfl, ?_⟩) hHeld ?_ ?_
   rotate_left
   ·rintro w' ⟨s0, s1, s2, s3, s4, s5, s6, s7, s8, s9, s10, s11⟩
    go_simp
    with_reducible rfl
   rotate_left
   ·simp only [Act.put, List.setIfInBounds_toArray, List.set_cons_zero, List.set_cons_succ, i64_w, i32_w]
    rfl
   refine take_ (i := 22) (N := some 134) (v := ?_) (a' := ?_) #[true, true, true, true, true, true, true, true, true, true, true, true, true, true, true, true, true, true, true, true, true, true, true, false, false, false] rfl rfl (take_ofW HT_.out HW_.out (by kernel_rfl)) (fun _ _ _ h => h) (Or.inl ⟨by rfl, ?_⟩) hHeld ?_ ?_
   rotate_left
   ·rintro w' ⟨s0, s1, s2, s3, s4, s5, s6, s7, s8, s9, s10, s11⟩
    go_simp
    with_reducible rfl
   rotate_left
   ·simp only [Act.put, List.setIfInBounds_toArray, List.set_cons_zero, List.set_cons_succ, i64_w, i32_w]
    rfl
   refine pure_ (i := 23) (N := some 135) (v := ?_) (a' := ?_) #[true, true, true, true, true, true, true, true, true, true, true, true, true, true, true, true, true, true, true, true, true, true, true, true, false, false] rfl rfl (any_of HT_.out (by kernel_rfl)) (fun _ _ _ h => h) (Or.inl ⟨by rfl, ?_⟩) ?_ ?_
   rotate_left
   ·intro w'
    go_simp
    with_reducible rfl
   rotate_left
   ·simp only [Act.put, List.setIfInBounds_toArray, List.set_cons_zero, List.set_cons_succ, i64_w, i32_w]
    rfl
   refine pure_ (i := 24) (N := some 136) (v := ?_) (a' := ?_) #[true, true, true, true, true, true, true, true, true, true, true, true, true, true, true, true, true, true, true, true, true, true, true, true, true, false] rfl rfl (any_of HT_.out (by kernel_rfl)) (fun _ _ _ h => h) (Or.inl ⟨by rfl, ?_⟩) ?_ ?_
   rotate_left
   ·intro w'
    go_simp
    with_reducible rfl
   rotate_left
   ·simp only [Act.put, List.setIfInBounds_toArray, List.set_cons_zero, List.set_cons_succ, i64_w, i32_w]
    rfl
   refine pure_ (i := 25) (N := some 137) (v := ?_) (a' := ?_) #[true, true, true, true, true, true, true, true, true, true, true, true, true, true, true, true, true, true, true, true, true, true, true, true, true, true] rfl rfl (any_of HT_.out (by kernel_rfl)) (fun _ _ _ h => h) (Or.inl ⟨by rfl, ?_⟩) ?_ ?_
   rotate_left
   ·intro w'
    go_simp
    with_reducible rfl
   rotate_left
   ·simp only [Act.put, List.setIfInBounds_toArray, List.set_cons_zero, List.set_cons_succ, i64_w, i32_w]
    rfl
   refine done_ (done_of HT_.out (by kernel_rfl)) ?_
   try go_wp2
   go_meet
   case rel => exact ⟨_, ((((rd_T39 x8_3 (ji57)).f0).toList != ((rd_T39 x8_3 x13_3).f0).toList)), (by first | rfl | (simp; done) | (simp only [← hji57] <;> (first | rfl | simp)) | (simp [*]; done)), H', ⟨by have := HK1.out; have := HK2.out; have := HK3.out; have := HJ45.out; first | omega | exact Nat.le_refl _⟩, ⟨by (with_reducible repeat (first | apply Kd.R_alloc | apply Kd.R_drewN | apply Kd.R_drew)); exact HO_8.out⟩, ⟨by repeat (first | (with_reducible first | exact HB.out | apply below_alloc | apply pw_below_drewN | apply below_drew1) | exact HB.out)⟩⟩
  clear HC49
  try clear p2
  try clear q2
  try clear hx2
  try clear c5
  try clear q5
  try clear p6
  try clear p25
  try clear q25
  try clear hx25
  try clear c50
  try clear c51
  try clear q52
  try clear c53
  try clear c54
  try clear c54b0
  try clear c54b1
  try clear c58
  try clear c58b0
  try clear c59
  try clear c59b0
  try clear hx251_0
  try clear hx251_1
  try clear hx251_2
  try clear hx251_3
  try clear hx252_0
  try clear hx252_1
  try clear hx252_2
  try clear hx252_3
  try clear hx253_0
  try clear hx253_1
  try clear hx253_2
  try clear hx253_3
  try clear p251
  try clear p252
  try clear p253
  try clear q251
  try clear q252
  try clear q253
  obtain ⟨kq, x137_48, rfl, HA, HJ48, HO_8, HB⟩ := hcut
  cases kq with
  | zero => exact absurd HA.out (by simp [ravelinref6_Pack.j8])
  | succ kj48 => ?_
  have H := HA.out
  clear HA
  simp only [ravelinref6_Pack.j8] at H
  by_cases c64 : x137_48 = true
  rotate_left
  ·replace c64 := Bool.eq_false_iff.mpr c64
   subst c64
   have H1 : (ravelinref6_Pack.l3 kj48 a2 x8_3 (wrap64 (x13_3 - 1))) = some r := by rw [if_neg (show ¬ (false = true) by decide)] at H; exact H
   clear H
   have H := H1
   clear H1
   have H' := Aside0.mk H
   clear H
   go_wp2
   go_roundg kj48
   case measure => have := HK1.out; have := HK2.out; have := HK3.out; have := HJ45.out; have := HJ48.out; omega
   case rel => exact ⟨(x8_3), (wrap64 (x13_3 - 1)), (by first | rfl | (simp; done) | (simp [*]; done)), H', ⟨by have := HK1.out; have := HK2.out; have := HK3.out; have := HJ45.out; have := HJ48.out; omega⟩, ⟨by (with_reducible repeat (first | apply Kd.R_alloc | apply Kd.R_drewN | apply Kd.R_drew)); exact HO_8.out⟩, ⟨by repeat (first | (with_reducible first | exact HB.out | apply below_alloc | apply pw_below_drewN | apply below_drew1) | exact HB.out)⟩⟩
  subst c64
  have H1 : (if 0 ≤ x13_3 then (if x13_3 ≤ (x8_3.length : Int) then ((some (x8_3.take (x13_3 : Int).toNat : List (S39))).bind fun y254 => (if ([] : List (S39)).length + y254.length < 2932031007402 then ((some (([] : List (S39)) ++ y254 : List (S39))).bind fun y258 => (if 0 ≤ (wrap64 (x13_3 + 1)) then (if (wrap64 (x13_3 + 1)) ≤ (x8_3.length : Int) then ((some (x8_3.drop ((wrap64 (x13_3 + 1)) : Int).toNat : List (S39))).bind fun y261 => (if y258.length + y261.length < 2932031007402 then (ravelinref6_Pack.l3 kj48 a2 (y258 ++ y261) (wrap64 (x13_3 - 1))) else (none))) else (none)) else (none))) else (none))) else (none)) else (none)) = some r := by rw [if_pos rfl] at H; exact H
  clear H
  have H := H1
  clear H1
  by_cases c65 : 0 ≤ x13_3
  rotate_left
  ·rw [if_neg c65] at H
   exact absurd H (by simp)
  rw [if_pos c65] at H
  have c65b0 := eq_true c65
  have c65b1 : decide (0 ≤ x13_3) = true := decide_eq_true c65
  clear c65
  by_cases c66 : x13_3 ≤ (x8_3.length : Int)
  rotate_left
  ·rw [if_neg c66] at H
   exact absurd H (by simp)
  rw [if_pos c66] at H
  have c66b0 := eq_true c66
  have c66b1 : decide (x13_3 ≤ (x8_3.length : Int)) = true := decide_eq_true c66
  clear c66
  obtain ⟨y254, hy254⟩ : ∃ y_ : List (S39), y_ = (x8_3.take (x13_3 : Int).toNat) := ⟨_, rfl⟩
  replace H : (if ([] : List (S39)).length + y254.length < 2932031007402 then ((some (([] : List (S39)) ++ y254 : List (S39))).bind fun y258 => (if 0 ≤ (wrap64 (x13_3 + 1)) then (if (wrap64 (x13_3 + 1)) ≤ (x8_3.length : Int) then ((some (x8_3.drop ((wrap64 (x13_3 + 1)) : Int).toNat : List (S39))).bind fun y261 => (if y258.length + y261.length < 2932031007402 then (ravelinref6_Pack.l3 kj48 a2 (y258 ++ y261) (wrap64 (x13_3 - 1))) else (none))) else (none)) else (none))) else (none)) = some r := by first | (rw [hy254]; with_reducible exact H) | (have H2_ := (Option.bind_some _ _).symm.trans H; rw [hy254]; with_reducible exact H2_) | (have H2_ := (Option.bind_some _ _).symm.trans H; with_reducible exact H2_) | with_reducible exact H | (rw [hy254]; exact H) | exact H
  have Ny254 := Aside0.mk hy254
  clear hy254
  by_cases c67 : ([] : List (S39)).length + y254.length < 2932031007402
  rotate_left
  ·rw [if_neg c67] at H
   exact absurd H (by simp)
  rw [if_pos c67] at H
  have LMc67 := Aside0.mk c67
  clear c67
  obtain ⟨y258, hy258⟩ : ∃ y_ : List (S39), y_ = (([] : List (S39)) ++ y254) := ⟨_, rfl⟩
  replace H : (if 0 ≤ (wrap64 (x13_3 + 1)) then (if (wrap64 (x13_3 + 1)) ≤ (x8_3.length : Int) then ((some (x8_3.drop ((wrap64 (x13_3 + 1)) : Int).toNat : List (S39))).bind fun y261 => (if y258.length + y261.length < 2932031007402 then (ravelinref6_Pack.l3 kj48 a2 (y258 ++ y261) (wrap64 (x13_3 - 1))) else (none))) else (none)) else (none)) = some r := by first | (rw [hy258]; with_reducible exact H) | (have H2_ := (Option.bind_some _ _).symm.trans H; rw [hy258]; with_reducible exact H2_) | (have H2_ := (Option.bind_some _ _).symm.trans H; with_reducible exact H2_) | with_reducible exact H | (rw [hy258]; exact H) | exact H
  have Ny258 := Aside0.mk hy258
  clear hy258
  obtain ⟨ji68, hji68⟩ : ∃ j_ : Int, (wrap64 (x13_3 + 1)) = j_ := ⟨_, rfl⟩
  replace H : (if 0 ≤ (ji68) then (if (ji68) ≤ (x8_3.length : Int) then ((some (x8_3.drop ((ji68) : Int).toNat : List (S39))).bind fun y261 => (if y258.length + y261.length < 2932031007402 then (ravelinref6_Pack.l3 kj48 a2 (y258 ++ y261) (wrap64 (x13_3 - 1))) else (none))) else (none)) else (none)) = some r := by first | (rw [hji68] at H; exact H) | (simp only [hji68] at H ⊢; exact H)
  (try (have hji57ji68 := hji57; rw [hji68] at hji57ji68))
  (try (have hji57wji68 := hji57w; rw [hji68] at hji57wji68))
  (try (have hji57_ji68 := hji57_; rw [hji68] at hji57_ji68))
  have hji68w : (IntKind.i64.wrap (x13_3 + 1)) = ji68 := (i64_w _).trans hji68
  by_cases c69 : 0 ≤ (ji68)
  rotate_left
  ·rw [if_neg c69] at H
   exact absurd H (by simp)
  rw [if_pos c69] at H
  have c69b0 := eq_true c69
  have c69b1 : decide (0 ≤ (ji68)) = true := decide_eq_true c69
  clear c69
  by_cases c70 : (ji68) ≤ (x8_3.length : Int)
  rotate_left
  ·rw [if_neg c70] at H
   exact absurd H (by simp)
  rw [if_pos c70] at H
  have c70b0 := eq_true c70
  have c70b1 : decide ((ji68) ≤ (x8_3.length : Int)) = true := decide_eq_true c70
  clear c70
  obtain ⟨y261, hy261⟩ : ∃ y_ : List (S39), y_ = (x8_3.drop ((ji68) : Int).toNat) := ⟨_, rfl⟩
  replace H : (if y258.length + y261.length < 2932031007402 then (ravelinref6_Pack.l3 kj48 a2 (y258 ++ y261) (wrap64 (x13_3 - 1))) else (none)) = some r := by first | (rw [hy261]; with_reducible exact H) | (have H2_ := (Option.bind_some _ _).symm.trans H; rw [hy261]; with_reducible exact H2_) | (have H2_ := (Option.bind_some _ _).symm.trans H; with_reducible exact H2_) | with_reducible exact H | (rw [hy261]; exact H) | exact H
  have Ny261 := Aside0.mk hy261
  clear hy261
  by_cases c71 : y258.length + y261.length < 2932031007402
  rotate_left
  ·rw [if_neg c71] at H
   exact absurd H (by simp)
  rw [if_pos c71] at H
  have LMc71 := Aside0.mk c71
  clear c71
  obtain ⟨y265, hy265⟩ : ∃ y_ : List (S39), y_ = (y258 ++ y261) := ⟨_, rfl⟩
  replace H : (ravelinref6_Pack.l3 kj48 a2 y265 (wrap64 (x13_3 - 1))) = some r := by first | (rw [hy265]; with_reducible exact H) | (have H2_ := (Option.bind_some _ _).symm.trans H; rw [hy265]; with_reducible exact H2_) | (have H2_ := (Option.bind_some _ _).symm.trans H; with_reducible exact H2_) | with_reducible exact H | (rw [hy265]; exact H) | exact H
  have Ny265 := Aside0.mk hy265
  clear hy265
  have H' := Aside0.mk H
  clear H
  try go_wp2
  have n0_ := Aside0.mk (Kd.R_drew HO_8.out)
  have n1_ := Aside0.mk (below_drew1 HB.out)
  clear HO_8
  clear HB
  have HO_8 := n0_
  have HB := n1_
  clear n0_ n1_
  obtain ⟨Ao74, co74, eo74⟩ := Kd.R_slice HO_8.out
  (first | subst eo74 | (injection eo74 with f1_ f2_ f3_; have f4_ := f1_.symm; have f5_ := f3_.symm; clear f1_ f2_ f3_; subst f4_; subst f5_))
  have q73 : (x13_3 : Int) ≤ ((x8_3.length : Int) : Int) := of_decide_eq_true (by first | (with_reducible assumption) | assumption)
  obtain ⟨i073, hi073, _, hsz73, _⟩ := info_parts info39
  have hroom73 : x8_3.length ≤ co74 := (Kd.R_reads' HO_8.out).2.1
  have hC73 : Kd.C k39 _ Ao74 x8_3.length x8_3 := (Kd.R_reads' HO_8.out).2.2
  have hcut73 := cut_to (P := Try.prog) 23 39 .i64 Try.underlying23 hi073 Ao74 x8_3.length co74 x13_3 (of_decide_eq_true (by first | (with_reducible assumption) | assumption)) q73 hroom73
  have hr73 := Kd.C_take (m := (x13_3 : Int).toNat) hC73 (by omega)
  have hy73 : y254.length = (x13_3 : Int).toNat := (by rw [Ny254.out, List.length_take]; omega)
  rw [← Ny254.out] at hr73
  rw [← hy73] at hcut73
  have HR257 := Aside0.mk hr73
  have HC257 := Aside0.mk (show y254.length ≤ co74 from by omega)
  clear hr73 hC73 hroom73 hi073 hsz73
  have KY73 := Aside0.mk hy73
  clear hy73
  have KL73 := Aside0.mk (show (x13_3 : Int).toNat ≤ x8_3.length from by omega)
  replace q73 := eq_true q73
  have q75 : ((ji68) : Int) ≤ ((x8_3.length : Int) : Int) := of_decide_eq_true (by first | (with_reducible assumption) | assumption)
  obtain ⟨i075, hi075, _, hsz75, _⟩ := info_parts info39
  have hroom75 : x8_3.length ≤ co74 := (Kd.R_reads' HO_8.out).2.1
  have hC75 : Kd.C k39 _ Ao74 x8_3.length x8_3 := (Kd.R_reads' HO_8.out).2.2
  have q075 : (0 : Int) ≤ ((ji68) : Int) := of_decide_eq_true (by first | (with_reducible assumption) | assumption)
  have hcut75 := cut_from (P := Try.prog) 23 39 .i64 Try.underlying23 hi075 4 hsz75 Ao74 x8_3.length co74 (ji68) q075 q75
  have hr75 := Kd.C_drop (m := ((ji68) : Int).toNat) (c := co74) hC75 (by omega) hroom75
  obtain ⟨A75, hA75⟩ : ∃ A1, A1 = (if co74 = ((ji68) : Int).toNat then Ao74 else (Ao74 : Option Addr).map (·.add (((ji68) : Int).toNat * 4))) := ⟨_, rfl⟩
  obtain ⟨c75, hc75⟩ : ∃ c1, c1 = co74 - ((ji68) : Int).toNat := ⟨_, rfl⟩
  have hy75 : y261.length = x8_3.length - ((ji68) : Int).toNat := (by rw [Ny261.out, List.length_drop] <;> omega)
  rw [show (x8_3).drop ((ji68) : Int).toNat = y261 from Ny261.out.symm] at hr75
  replace hr75 : Kd.C k39 _ A75 y261.length y261 := (by rw [hA75]; exact hr75)
  rw [← hy75, ← hA75, ← hc75] at hcut75
  have HR264 := Aside0.mk hr75
  have HC264 := Aside0.mk (show y261.length ≤ c75 from by rw [hy75, hc75]; exact Nat.sub_le_sub_right hroom75 _)
  clear hr75 hC75 hroom75 hi075 hsz75 hc75
  have KY75 := Aside0.mk hy75
  have KA75 := Aside0.mk hA75
  clear hy75 hA75
  have KL75 := Aside0.mk (show ((ji68) : Int).toNat ≤ x8_3.length from by omega)
  replace q75 := eq_true q75
  refine start_ (n := 10) (S := fun w' => True) (ds := []) #[false, false, false, false, false, false, false, false, false, false] (by kernel_rfl) rfl rfl trivial (fun hHeld => ?_); refine with_tabW ravelinref6_Pack.tab26 ravelinref6_Pack.bits26 (fun HT_ HW_ => ?_)
  generalize wc.drew = w72 at HO_8 HB HR257 HR264 hHeld ⊢
  refine pure_ (i := 0) (N := some 138) (v := ?_) (a' := ?_) #[true, false, false, false, false, false, false, false, false, false] rfl rfl (any_of HT_.out (by kernel_rfl)) (fun _ _ _ h => h) (Or.inl ⟨by rfl, ?_⟩) ?_ ?_
  rotate_left
  ·intro w'
   go_simp
   with_reducible rfl
  rotate_left
  ·simp only [Act.put, List.setIfInBounds_toArray, List.set_cons_zero, List.set_cons_succ, i64_w, i32_w]
   rfl
  refine pure_ (i := 1) (N := some 139) (v := ?_) (a' := ?_) #[true, true, false, false, false, false, false, false, false, false] rfl rfl (any_of HT_.out (by kernel_rfl)) (fun _ _ _ h => h) (Or.inl ⟨by rfl, ?_⟩) ?_ ?_
  rotate_left
  ·intro w'
   go_simp
   with_reducible rfl
  rotate_left
  ·simp only [Act.put, List.setIfInBounds_toArray, List.set_cons_zero, List.set_cons_succ, i64_w, i32_w]
   rfl
  refine pure_ (i := 2) (N := some 140) (v := ?_) (a' := ?_) #[true, true, true, false, false, false, false, false, false, false] rfl rfl (any_of HT_.out (by kernel_rfl)) (fun _ _ _ h => h) (Or.inl ⟨by rfl, ?_⟩) ?_ ?_
  rotate_left
  ·intro w'
   go_simp
   with_reducible rfl
  rotate_left
  ·simp only [Act.put, List.setIfInBounds_toArray, List.set_cons_zero, List.set_cons_succ, i64_w, i32_w]
   rfl
  refine pure_ (i := 4) (N := some 142) (v := ?_) (a' := ?_) #[true, true, true, false, true, false, false, false, false, false] rfl rfl (any_of HT_.out (by kernel_rfl)) (fun _ _ _ h => h) (Or.inl ⟨by rfl, ?_⟩) ?_ ?_
  rotate_left
  ·intro w'
   go_simp
   with_reducible rfl
  rotate_left
  ·simp only [Act.put, List.setIfInBounds_toArray, List.set_cons_zero, List.set_cons_succ, i64_w, i32_w]
   rfl
  refine pure_ (i := 5) (N := some 143) (v := ?_) (a' := ?_) #[true, true, true, false, true, true, false, false, false, false] rfl rfl (any_of HT_.out (by kernel_rfl)) (fun _ _ _ h => h) (Or.inl ⟨by rfl, ?_⟩) ?_ ?_
  rotate_left
  ·intro w'
   go_simp
   with_reducible rfl
  rotate_left
  ·simp only [Act.put, List.setIfInBounds_toArray, List.set_cons_zero, List.set_cons_succ, i64_w, i32_w]
   rfl
  refine pure_ (i := 6) (N := some 144) (v := ?_) (a' := ?_) #[true, true, true, false, true, true, true, false, false, false] rfl rfl (any_of HT_.out (by kernel_rfl)) (fun _ _ _ h => h) (Or.inl ⟨by rfl, ?_⟩) ?_ ?_
  rotate_left
  ·intro w'
   go_simp
   with_reducible rfl
  rotate_left
  ·simp only [Act.put, List.setIfInBounds_toArray, List.set_cons_zero, List.set_cons_succ, i64_w, i32_w]
   rfl
  refine pure_ (i := 7) (N := some 145) (v := ?_) (a' := ?_) #[true, true, true, false, true, true, true, true, false, false] rfl rfl (any_of HT_.out (by kernel_rfl)) (fun _ _ _ h => h) (Or.inl ⟨by rfl, ?_⟩) ?_ ?_
  rotate_left
  ·intro w'
   go_simp
   with_reducible rfl
  rotate_left
  ·simp only [Act.put, List.setIfInBounds_toArray, List.set_cons_zero, List.set_cons_succ, i64_w, i32_w]
   rfl
  refine one_ (i := 3) (N := some 141) #[true, true, true, true, true, true, true, true, false, false] rfl rfl (one_of HT_.out (by kernel_rfl)) (by decide) (fun K hK => ?_)
  refine Kd.R_append_rows_step k39 (w0 := w) w.heap.size (by rfl) (.const (.slice none 0 0)) (.tmp 140) 23 39 (.agg #[(.string ⟨#[]⟩), (.int .i64 0), (.bool false), (.string ⟨#[]⟩)]) 48 rfl Try.underlying23 info39 rfl (by decide) (by omega) (.slice none 0 0) ([] : List (S39)) y254 _ _ _ (fun k_ => some k_ ≠ (.slice Ao74 x8_3.length co74 : Value).ownBlock) (fun _ => False) rfl rfl ?aO ?aR (fun _ _ h => h) (fun _ h => h.elim) ?aF ?aB ?aS ?aL ?_
  (case aR => repeat (first | exact (by repeat (first | (with_reducible exact HR257.out) | (with_reducible refine Kd.C_alloc ?_ _) | (with_reducible refine Kd.C_drewN ?_ _) | (with_reducible refine Kd.C_drew ?_) | exact HR257.out)) | (with_reducible refine Kd.C_alloc ?_ _) | (with_reducible refine Kd.C_drewN ?_ _) | (with_reducible refine Kd.C_drew ?_)))
  (case aB => exact (by repeat (first | (with_reducible first | exact HB.out | apply below_alloc | apply pw_below_drewN | apply below_drew1) | exact HB.out)))
  (case aF => exact (fun k_ hk => Kd.fresh' (Kd.R_lt (by (with_reducible repeat (first | apply Kd.R_alloc | apply Kd.R_drewN | apply Kd.R_drew)); exact HO_8.out)) k_ hk))
  (case aO => exact ((Kd.R_nil _ _ _ _ (fun k_ => some k_ ≠ (.slice Ao74 x8_3.length co74 : Value).ownBlock))))
  (case aS => exact (below_size (by repeat (first | (with_reducible first | exact HB.out | apply below_alloc | apply pw_below_drewN | apply below_drew1) | exact HB.out))))
  (case aL => have := LMc67.out; omega)
  intro v259 w76 ho hb hg hat
  rw [← Ny258.out] at ho
  have n0_ := Aside0.mk (Kd.R_after (Kd.R_apart_nil (by (with_reducible repeat (first | apply Kd.R_alloc | apply Kd.R_drewN | apply Kd.R_drew)); exact HO_8.out)) hg hat)
  have n1_ := Aside0.mk (hb)
  have n2_ := Aside0.mk ((show Kd.C k39 w76 Ao74 y254.length y254 from by rw [Ny254.out]; exact Kd.C_take (m := (x13_3 : Int).toNat) ((Kd.R_reads' (Kd.R_after (Kd.R_apart_nil (by (with_reducible repeat (first | apply Kd.R_alloc | apply Kd.R_drewN | apply Kd.R_drew)); exact HO_8.out)) hg hat)).2.2) KL73.out))
  have n3_ := Aside0.mk ((show Kd.C k39 w76 A75 y261.length y261 from by rw [Ny261.out, KA75.out]; exact Kd.C_drop (m := ((ji68) : Int).toNat) (c := co74) ((Kd.R_reads' (Kd.R_after (Kd.R_apart_nil (by (with_reducible repeat (first | apply Kd.R_alloc | apply Kd.R_drewN | apply Kd.R_drew)); exact HO_8.out)) hg hat)).2.2) KL75.out ((Kd.R_reads' (Kd.R_after (Kd.R_apart_nil (by (with_reducible repeat (first | apply Kd.R_alloc | apply Kd.R_drewN | apply Kd.R_drew)); exact HO_8.out)) hg hat)).2.1)))
  have n4_ := Aside0.mk (ho)
  clear HO_8
  clear HB
  clear HR257
  clear HR264
  have HO_8 := n0_
  have HB := n1_
  have HR257 := n2_
  have HR264 := n3_
  have HO260 := n4_
  clear n0_ n1_ n2_ n3_ n4_
  clear ho hb hg hat
  refine hK.out _ _ trivial (fun hHeld => ?_)
  clear hK K
  refine norm_ (a' := ?_) ?_ ?_
  rotate_left
  ·show Act.put _ (some 141) _ = _
   simp only [Act.put, List.setIfInBounds_toArray, List.set_cons_zero, List.set_cons_succ, i64_w, i32_w]
   rfl
  refine one_ (i := 8) (N := some 146) #[true, true, true, true, true, true, true, true, true, false] rfl rfl (one_of HT_.out (by kernel_rfl)) (by decide) (fun K hK => ?_)
  refine Kd.R_append_rows_step k39 (w0 := w) w.heap.size (by rfl) (.tmp 141) (.tmp 145) 23 39 (.agg #[(.string ⟨#[]⟩), (.int .i64 0), (.bool false), (.string ⟨#[]⟩)]) 48 rfl Try.underlying23 info39 rfl (by decide) (by omega) v259 y258 y261 _ _ _ (fun k_ => some k_ ≠ (.slice Ao74 x8_3.length co74 : Value).ownBlock) (fun _ => False) rfl rfl ?aO ?aR (fun _ _ h => h) (fun _ h => h.elim) ?aF ?aB ?aS ?aL ?_
  (case aR => repeat (first | exact (by repeat (first | (with_reducible exact HR264.out) | (with_reducible refine Kd.C_alloc ?_ _) | (with_reducible refine Kd.C_drewN ?_ _) | (with_reducible refine Kd.C_drew ?_) | exact HR264.out)) | (with_reducible refine Kd.C_alloc ?_ _) | (with_reducible refine Kd.C_drewN ?_ _) | (with_reducible refine Kd.C_drew ?_)))
  (case aB => exact (by repeat (first | (with_reducible first | exact HB.out | apply below_alloc | apply pw_below_drewN | apply below_drew1) | exact HB.out)))
  (case aF => exact (fun k_ hk => Kd.fresh' (Kd.R_lt (by (with_reducible repeat (first | apply Kd.R_alloc | apply Kd.R_drewN | apply Kd.R_drew)); exact HO_8.out)) k_ hk))
  (case aO => exact (by (with_reducible repeat (first | apply Kd.R_alloc | apply Kd.R_drewN | apply Kd.R_drew)); exact HO260.out))
  (case aS => exact (below_size (by repeat (first | (with_reducible first | exact HB.out | apply below_alloc | apply pw_below_drewN | apply below_drew1) | exact HB.out))))
  (case aL => have := LMc71.out; omega)
  intro v266 w77 ho hb hg hat
  rw [← Ny265.out] at ho
  have n0_ := Aside0.mk (Kd.R_after (ok := (fun _ => True)) (by (with_reducible repeat (first | apply Kd.R_alloc | apply Kd.R_drewN | apply Kd.R_drew)); exact HO_8.out) hg hat)
  have n1_ := Aside0.mk (hb)
  have n2_ := Aside0.mk ((show Kd.C k39 w77 Ao74 y254.length y254 from by rw [Ny254.out]; exact Kd.C_take (m := (x13_3 : Int).toNat) ((Kd.R_reads' (Kd.R_after (ok := (fun _ => True)) (by (with_reducible repeat (first | apply Kd.R_alloc | apply Kd.R_drewN | apply Kd.R_drew)); exact HO_8.out) hg hat)).2.2) KL73.out))
  have n3_ := Aside0.mk ((show Kd.C k39 w77 A75 y261.length y261 from by rw [Ny261.out, KA75.out]; exact Kd.C_drop (m := ((ji68) : Int).toNat) (c := co74) ((Kd.R_reads' (Kd.R_after (ok := (fun _ => True)) (by (with_reducible repeat (first | apply Kd.R_alloc | apply Kd.R_drewN | apply Kd.R_drew)); exact HO_8.out) hg hat)).2.2) KL75.out ((Kd.R_reads' (Kd.R_after (ok := (fun _ => True)) (by (with_reducible repeat (first | apply Kd.R_alloc | apply Kd.R_drewN | apply Kd.R_drew)); exact HO_8.out) hg hat)).2.1)))
  have n4_ := Aside0.mk (ho)
  clear HO_8
  clear HB
  clear HR257
  clear HR264
  clear HO260
  have HO_8 := n0_
  have HB := n1_
  have HR257 := n2_
  have HR264 := n3_
  have HO267 := n4_
  clear n0_ n1_ n2_ n3_ n4_
  clear ho hb hg hat
  refine hK.out _ _ trivial (fun hHeld => ?_)
  clear hK K
  refine norm_ (a' := ?_) ?_ ?_
  rotate_left
  ·show Act.put _ (some 146) _ = _
   simp only [Act.put, List.setIfInBounds_toArray, List.set_cons_zero, List.set_cons_succ, i64_w, i32_w]
   rfl
  refine pure_ (i := 9) (N := some 8) (v := ?_) (a' := ?_) #[true, true, true, true, true, true, true, true, true, true] rfl rfl (any_of HT_.out (by kernel_rfl)) (fun _ _ _ h => h) (Or.inl ⟨by rfl, ?_⟩) ?_ ?_
  rotate_left
  ·intro w'
   go_simp
   with_reducible rfl
  rotate_left
  ·simp only [Act.put, List.setIfInBounds_toArray, List.set_cons_zero, List.set_cons_succ, i64_w, i32_w]
   rfl
  refine done_ (done_of HT_.out (by kernel_rfl)) ?_
  try go_wp2
  go_roundg kj48
  case measure => have := HK1.out; have := HK2.out; have := HK3.out; have := HJ45.out; have := HJ48.out; omega
  case rel => exact ⟨(y265), (wrap64 (x13_3 - 1)), (by first | rfl | (simp; done) | (simp [*]; done)), H', ⟨by have := HK1.out; have := HK2.out; have := HK3.out; have := HJ45.out; have := HJ48.out; omega⟩, ⟨by (with_reducible repeat (first | apply Kd.R_alloc | apply Kd.R_drewN | apply Kd.R_drew)); exact Kd.R_mono HO267.out (fun _ hk => trivial)⟩, ⟨by repeat (first | (with_reducible first | exact HB.out | apply below_alloc | apply pw_below_drewN | apply below_drew1) | exact HB.out)⟩⟩
 rw [if_pos c13] at H
 have c13b0 : decide (x9_2 < (l0.length : Int)) = true := decide_eq_true c13
 clear c13
 have HC14 := Aside0.mk H
 clear H
 go_upto_region 13 with (fail)
 go_cut [50] (fun v50 wc => ∃ (kq : Nat) (x50_13 : Bool), v50 = .bool x50_13 ∧ Aside0 (ravelinref6_Pack.j2 kq l0 l1 a2 x8_2 x9_2 1000001 x50_13 = some r) ∧ Aside0 (kq ≤ k2) ∧ Aside0 (Kd.R k39 39 wc w.heap.size (fun _ => True) u8 x8_2) ∧ Aside0 (Below w.heap.size w wc))
 case first =>
  have H := HC14.out
  clear HC14
  by_cases c15 : x9_2 > 0
  rotate_left
  ·rw [if_neg c15] at H
   have c15b0 : decide (0 < x9_2) = false := decide_eq_false c15
   clear c15
   (first | rw [c15b0] | (simp only [i64_w, i32_w]; rw [c15b0]) | skip)
   have H' := Aside0.mk H
   clear H
   try go_wp2
   have n0_ := Aside0.mk (Kd.R_drew HO_8.out)
   have n1_ := Aside0.mk (below_drew1 HB.out)
   clear HO_8
   clear HB
   have HO_8 := n0_
   have HB := n1_
   clear n0_ n1_
   refine start_ (n := 16) (S := fun w' => True) (ds := []) #[false, false, false, false, false, false, false, false, false, false, false, false, false, false, false, false] (by kernel_rfl) rfl rfl trivial (fun hHeld => ?_); refine with_tabW ravelinref6_Pack.tab13 ravelinref6_Pack.bits13 (fun HT_ HW_ => ?_)
   generalize wr.drew = w21 at HO_8 HB hHeld ⊢
   refine pure_ (i := 0) (N := some 35) (v := ?_) (a' := ?_) #[true, false, false, false, false, false, false, false, false, false, false, false, false, false, false, false] rfl rfl (any_of HT_.out (by kernel_rfl)) (fun _ _ _ h => h) (Or.inl ⟨by rfl, ?_⟩) ?_ ?_
   rotate_left
   ·intro w'
    go_simp
    with_reducible rfl
   rotate_left
   ·simp only [Act.put, List.setIfInBounds_toArray, List.set_cons_zero, List.set_cons_succ, i64_w, i32_w]
    rfl
   refine pure_ (i := 1) (N := some 36) (v := ?_) (a' := ?_) #[true, true, false, false, false, false, false, false, false, false, false, false, false, false, false, false] rfl rfl (any_of HT_.out (by kernel_rfl)) (fun _ _ _ h => h) (Or.inl ⟨by rfl, ?_⟩) ?_ ?_
   rotate_left
   ·intro w'
    go_simp
    with_reducible rfl
   rotate_left
   ·simp only [Act.put, List.setIfInBounds_toArray, List.set_cons_zero, List.set_cons_succ, i64_w, i32_w]
    rfl
   refine pure_ (i := 2) (N := some 37) (v := ?_) (a' := ?_) #[true, true, true, false, false, false, false, false, false, false, false, false, false, false, false, false] rfl rfl (any_of HT_.out (by kernel_rfl)) (fun _ _ _ h => h) (Or.inl ⟨by rfl, ?_⟩) ?_ ?_
   rotate_left
   ·intro w'
    go_simp
    with_reducible rfl
   rotate_left
   ·simp only [Act.put, List.setIfInBounds_toArray, List.set_cons_zero, List.set_cons_succ, i64_w, i32_w]
    rfl
   refine pure_ (i := 3) (N := some 38) (v := undef) (a' := ?_) #[true, true, true, true, false, false, false, false, false, false, false, false, false, false, false, false] rfl rfl (any_of HT_.out (by kernel_rfl)) (fun _ _ _ h => h) (Or.inr ⟨by rfl, rfl⟩) ?_ ?_
   rotate_left
   ·simp only [Act.put, List.setIfInBounds_toArray, List.set_cons_zero, List.set_cons_succ, i64_w, i32_w]
    rfl
   refine pure_ (i := 4) (N := some 39) (v := undef) (a' := ?_) #[true, true, true, true, true, false, false, false, false, false, false, false, false, false, false, false] rfl rfl (any_of HT_.out (by kernel_rfl)) (fun _ _ _ h => h) (Or.inr ⟨by rfl, rfl⟩) ?_ ?_
   rotate_left
   ·simp only [Act.put, List.setIfInBounds_toArray, List.set_cons_zero, List.set_cons_succ, i64_w, i32_w]
    rfl
   refine pure_ (i := 5) (N := some 40) (v := undef) (a' := ?_) #[true, true, true, true, true, true, false, false, false, false, false, false, false, false, false, false] rfl rfl (any_of HT_.out (by kernel_rfl)) (fun _ _ _ h => h) (Or.inr ⟨by rfl, rfl⟩) ?_ ?_
   rotate_left
   ·simp only [Act.put, List.setIfInBounds_toArray, List.set_cons_zero, List.set_cons_succ, i64_w, i32_w]
    rfl
   refine pure_ (i := 6) (N := some 41) (v := undef) (a' := ?_) #[true, true, true, true, true, true, true, false, false, false, false, false, false, false, false, false] rfl rfl (any_of HT_.out (by kernel_rfl)) (fun _ _ _ h => h) (Or.inr ⟨by rfl, rfl⟩) ?_ ?_
   rotate_left
   ·simp only [Act.put, List.setIfInBounds_toArray, List.set_cons_zero, List.set_cons_succ, i64_w, i32_w]
    rfl
   refine pure_ (i := 7) (N := some 42) (v := undef) (a' := ?_) #[true, true, true, true, true, true, true, true, false, false, false, false, false, false, false, false] rfl rfl (any_of HT_.out (by kernel_rfl)) (fun _ _ _ h => h) (Or.inr ⟨by rfl, rfl⟩) ?_ ?_
   rotate_left
   ·simp only [Act.put, List.setIfInBounds_toArray, List.set_cons_zero, List.set_cons_succ, i64_w, i32_w]
    rfl
   refine pure_ (i := 8) (N := some 43) (v := undef) (a' := ?_) #[true, true, true, true, true, true, true, true, true, false, false, false, false, false, false, false] rfl rfl (any_of HT_.out (by kernel_rfl)) (fun _ _ _ h => h) (Or.inr ⟨by rfl, rfl⟩) ?_ ?_
   rotate_left
   ·simp only [Act.put, List.setIfInBounds_toArray, List.set_cons_zero, List.set_cons_succ, i64_w, i32_w]
    rfl
   refine pure_ (i := 9) (N := some 44) (v := undef) (a' := ?_) #[true, true, true, true, true, true, true, true, true, true, false, false, false, false, false, false] rfl rfl (any_of HT_.out (by kernel_rfl)) (fun _ _ _ h => h) (Or.inr ⟨by rfl, rfl⟩) ?_ ?_
   rotate_left
   ·simp only [Act.put, List.setIfInBounds_toArray, List.set_cons_zero, List.set_cons_succ, i64_w, i32_w]
    rfl
   refine pure_ (i := 10) (N := some 45) (v := undef) (a' := ?_) #[true, true, true, true, true, true, true, true, true, true, true, false, false, false, false, false] rfl rfl (any_of HT_.out (by kernel_rfl)) (fun _ _ _ h => h) (Or.inr ⟨by rfl, rfl⟩) ?_ ?_
   rotate_left
   ·simp only [Act.put, List.setIfInBounds_toArray, List.set_cons_zero, List.set_cons_succ, i64_w, i32_w]
    rfl
   refine pure_ (i := 11) (N := some 46) (v := undef) (a' := ?_) #[true, true, true, true, true, true, true, true, true, true, true, true, false, false, false, false] rfl rfl (any_of HT_.out (by kernel_rfl)) (fun _ _ _ h => h) (Or.inr ⟨by rfl, rfl⟩) ?_ ?_
   rotate_left
   ·simp only [Act.put, List.setIfInBounds_toArray, List.set_cons_zero, List.set_cons_succ, i64_w, i32_w]
    rfl
   refine pure_ (i := 12) (N := some 47) (v := undef) (a' := ?_) #[true, true, true, true, true, true, true, true, true, true, true, true, true, false, false, false] rfl rfl (any_of HT_.out (by kernel_rfl)) (fun _ _ _ h => h) (Or.inr ⟨by rfl, rfl⟩) ?_ ?_
   rotate_left
   ·simp only [Act.put, List.setIfInBounds_toArray, List.set_cons_zero, List.set_cons_succ, i64_w, i32_w]
    rfl
   refine pure_ (i := 13) (N := some 48) (v := undef) (a' := ?_) #[true, true, true, true, true, true, true, true, true, true, true, true, true, true, false, false] rfl rfl (any_of HT_.out (by kernel_rfl)) (fun _ _ _ h => h) (Or.inr ⟨by rfl, rfl⟩) ?_ ?_
   rotate_left
   ·simp only [Act.put, List.setIfInBounds_toArray, List.set_cons_zero, List.set_cons_succ, i64_w, i32_w]
    rfl
   refine pure_ (i := 14) (N := some 49) (v := undef) (a' := ?_) #[true, true, true, true, true, true, true, true, true, true, true, true, true, true, true, false] rfl rfl (any_of HT_.out (by kernel_rfl)) (fun _ _ _ h => h) (Or.inr ⟨by rfl, rfl⟩) ?_ ?_
   rotate_left
   ·simp only [Act.put, List.setIfInBounds_toArray, List.set_cons_zero, List.set_cons_succ, i64_w, i32_w]
    rfl
   refine pure_ (i := 15) (N := some 50) (v := ?_) (a' := ?_) #[true, true, true, true, true, true, true, true, true, true, true, true, true, true, true, true] rfl rfl (any_of HT_.out (by kernel_rfl)) (fun _ _ _ h => h) (Or.inl ⟨by rfl, ?_⟩) ?_ ?_
   rotate_left
   ·intro w'
    go_simp
    with_reducible rfl
   rotate_left
   ·simp only [Act.put, List.setIfInBounds_toArray, List.set_cons_zero, List.set_cons_succ, i64_w, i32_w]
    rfl
   refine done_ (done_of HT_.out (by kernel_rfl)) ?_
   try go_wp2
   go_meet
   case rel => exact ⟨_, (false), (by first | rfl | (simp; done) | (simp [*]; done)), H', ⟨by have := HK1.out; have := HK2.out; first | omega | exact Nat.le_refl _⟩, ⟨by (with_reducible repeat (first | apply Kd.R_alloc | apply Kd.R_drewN | apply Kd.R_drew)); exact HO_8.out⟩, ⟨by repeat (first | (with_reducible first | exact HB.out | apply below_alloc | apply pw_below_drewN | apply below_drew1) | exact HB.out)⟩⟩
  rw [if_pos c15] at H
  have c15b0 : decide (0 < x9_2) = true := decide_eq_true c15
  clear c15
  (first | rw [c15b0] | (simp only [i64_w, i32_w]; rw [c15b0]) | skip)
  obtain ⟨ji16, hji16⟩ : ∃ j_ : Int, (wrap64 (x9_2 - 1)) = j_ := ⟨_, rfl⟩
  replace H : (if 0 ≤ (ji16) then (if (ji16) < (l0.length : Int) then (if 0 ≤ x9_2 then (ravelinref6_Pack.j2 k2 l0 l1 a2 x8_2 x9_2 1000001 (((rd_T39 l0 (ji16)).f0).toList == ((rd_T39 l0 x9_2).f0).toList)) else (none)) else (none)) else (none)) = some r := by first | (rw [hji16] at H; exact H) | (simp only [hji16] at H ⊢; exact H)
  have hji16w : (IntKind.i64.wrap (x9_2 - 1)) = ji16 := (i64_w _).trans hji16
  by_cases c17 : 0 ≤ (ji16)
  rotate_left
  ·rw [if_neg c17] at H
   exact absurd H (by simp)
  rw [if_pos c17] at H
  have c17b0 : decide (0 ≤ (ji16)) = true := decide_eq_true c17
  clear c17
  by_cases c18 : (ji16) < (l0.length : Int)
  rotate_left
  ·rw [if_neg c18] at H
   exact absurd H (by simp)
  rw [if_pos c18] at H
  have c18b0 : decide ((ji16) < (l0.length : Int)) = true := decide_eq_true c18
  clear c18
  by_cases c19 : 0 ≤ x9_2
  rotate_left
  ·rw [if_neg c19] at H
   exact absurd H (by simp)
  rw [if_pos c19] at H
  have c19b0 : decide (0 ≤ x9_2) = true := decide_eq_true c19
  clear c19
  have H' := Aside0.mk H
  clear H
  try go_wp2
  have n0_ := Aside0.mk (Kd.R_drew HO_8.out)
  have n1_ := Aside0.mk (below_drew1 HB.out)
  clear HO_8
  clear HB
  have HO_8 := n0_
  have HB := n1_
  clear n0_ n1_
  have p240 : 0 ≤ ((ji16) : Int) := of_decide_eq_true (by first | (with_reducible assumption) | assumption)
  have q240 : (ji16) < (l0.length : Int) := of_decide_eq_true (by first | (with_reducible assumption) | assumption)
  obtain ⟨ad240, e240, hx240_0, hx240_1, hx240_2, hx240_3⟩ := at_T39 HR0.out (ji16) p240 q240
  have hw240_3 := hx240_3
  have hw240_2 := hx240_2
  have hw240_1 := hx240_1
  have hw240_0 := hx240_0
  cases e240
  replace hx240_0 := (HB.out.cell (World.block_lt_of_cell? w _ hx240_0)).trans hx240_0
  replace hx240_1 := (HB.out.cell (World.block_lt_of_cell? w _ hx240_1)).trans hx240_1
  replace hx240_2 := (HB.out.cell (World.block_lt_of_cell? w _ hx240_2)).trans hx240_2
  replace hx240_3 := (HB.out.cell (World.block_lt_of_cell? w _ hx240_3)).trans hx240_3
  replace p240 := eq_true p240
  replace q240 := eq_true q240
  have p241 : 0 ≤ (x9_2 : Int) := of_decide_eq_true (by first | (with_reducible assumption) | assumption)
  have q241 : x9_2 < (l0.length : Int) := of_decide_eq_true (by first | (with_reducible assumption) | assumption)
  obtain ⟨ad241, e241, hx241_0, hx241_1, hx241_2, hx241_3⟩ := at_T39 HR0.out x9_2 p241 q241
  have hw241_3 := hx241_3
  have hw241_2 := hx241_2
  have hw241_1 := hx241_1
  have hw241_0 := hx241_0
  obtain rfl : ad240 = ad241 := (by injection e241)
  replace hx241_0 := (HB.out.cell (World.block_lt_of_cell? w _ hx241_0)).trans hx241_0
  replace hx241_1 := (HB.out.cell (World.block_lt_of_cell? w _ hx241_1)).trans hx241_1
  replace hx241_2 := (HB.out.cell (World.block_lt_of_cell? w _ hx241_2)).trans hx241_2
  replace hx241_3 := (HB.out.cell (World.block_lt_of_cell? w _ hx241_3)).trans hx241_3
  replace p241 := eq_true p241
  replace q241 := eq_true q241
  refine start_ (n := 16) (S := fun w' => w'.cell? (ad240.add (((ji16)).toNat * 4)) = some (.string ((rd_T39 l0 (ji16)).f0)) ∧ w'.cell? ⟨(ad240.add (((ji16)).toNat * 4)).block, (ad240.add (((ji16)).toNat * 4)).off + 1, none⟩ = some (.int .i64 ((rd_T39 l0 (ji16)).f1)) ∧ w'.cell? ⟨(ad240.add (((ji16)).toNat * 4)).block, (ad240.add (((ji16)).toNat * 4)).off + 2, none⟩ = some (.bool ((rd_T39 l0 (ji16)).f2)) ∧ w'.cell? ⟨(ad240.add (((ji16)).toNat * 4)).block, (ad240.add (((ji16)).toNat * 4)).off + 3, none⟩ = some (.string ((rd_T39 l0 (ji16)).f3)) ∧ w'.cell? (ad240.add ((x9_2).toNat * 4)) = some (.string ((rd_T39 l0 x9_2).f0)) ∧ w'.cell? ⟨(ad240.add ((x9_2).toNat * 4)).block, (ad240.add ((x9_2).toNat * 4)).off + 1, none⟩ = some (.int .i64 ((rd_T39 l0 x9_2).f1)) ∧ w'.cell? ⟨(ad240.add ((x9_2).toNat * 4)).block, (ad240.add ((x9_2).toNat * 4)).off + 2, none⟩ = some (.bool ((rd_T39 l0 x9_2).f2)) ∧ w'.cell? ⟨(ad240.add ((x9_2).toNat * 4)).block, (ad240.add ((x9_2).toNat * 4)).off + 3, none⟩ = some (.string ((rd_T39 l0 x9_2).f3))) (ds := []) #[false, false, false, false, false, false, false, false, false, false, false, false, false, false, false, false] (by kernel_rfl) rfl rfl ⟨((HB.out.cell (World.block_lt_of_cell? w _ hw240_0)).trans hw240_0), ((HB.out.cell (World.block_lt_of_cell? w _ hw240_1)).trans hw240_1), ((HB.out.cell (World.block_lt_of_cell? w _ hw240_2)).trans hw240_2), ((HB.out.cell (World.block_lt_of_cell? w _ hw240_3)).trans hw240_3), ((HB.out.cell (World.block_lt_of_cell? w _ hw241_0)).trans hw241_0), ((HB.out.cell (World.block_lt_of_cell? w _ hw241_1)).trans hw241_1), ((HB.out.cell (World.block_lt_of_cell? w _ hw241_2)).trans hw241_2), ((HB.out.cell (World.block_lt_of_cell? w _ hw241_3)).trans hw241_3)⟩ (fun hHeld => ?_); refine with_tabW ravelinref6_Pack.tab13 ravelinref6_Pack.bits13 (fun HT_ HW_ => ?_)
  generalize wr.drew = w20 at HO_8 HB hx240_0 hx240_1 hx240_2 hx240_3 hx241_0 hx241_1 hx241_2 hx241_3 hHeld ⊢
  refine pure_ (i := 0) (N := some 35) (v := ?_) (a' := ?_) #[true, false, false, false, false, false, false, false, false, false, false, false, false, false, false, false] rfl rfl (any_of HT_.out (by kernel_rfl)) (fun _ _ _ h => h) (Or.inl ⟨by rfl, ?_⟩) ?_ ?_
  rotate_left
  ·intro w'
   go_simp
   with_reducible rfl
  rotate_left
  ·simp only [Act.put, List.setIfInBounds_toArray, List.set_cons_zero, List.set_cons_succ, i64_w, i32_w]
   rfl
  refine pure_ (i := 1) (N := some 36) (v := ?_) (a' := ?_) #[true, true, false, false, false, false, false, false, false, false, false, false, false, false, false, false] rfl rfl (any_of HT_.out (by kernel_rfl)) (fun _ _ _ h => h) (Or.inl ⟨by rfl, ?_⟩) ?_ ?_
  rotate_left
  ·intro w'
   go_simp
   with_reducible rfl
  rotate_left
  ·simp only [Act.put, List.setIfInBounds_toArray, List.set_cons_zero, List.set_cons_succ, i64_w, i32_w]
   rfl
  refine pure_ (i := 2) (N := some 37) (v := ?_) (a' := ?_) #[true, true, true, false, false, false, false, false, false, false, false, false, false, false, false, false] rfl rfl (any_of HT_.out (by kernel_rfl)) (fun _ _ _ h => h) (Or.inl ⟨by rfl, ?_⟩) ?_ ?_
  rotate_left
  ·intro w'
   go_simp
   with_reducible rfl
  rotate_left
  ·simp only [Act.put, List.setIfInBounds_toArray, List.set_cons_zero, List.set_cons_succ, i64_w, i32_w]
   rfl
  refine pure_ (i := 3) (N := some 38) (v := ?_) (a' := ?_) #[true, true, true, true, false, false, false, false, false, false, false, false, false, false, false, false] rfl rfl (any_of HT_.out (by kernel_rfl)) (fun _ _ _ h => h) (Or.inl ⟨by rfl, ?_⟩) ?_ ?_
  rotate_left
  ·intro w'
   go_simp
   with_reducible rfl
  rotate_left
  ·simp only [Act.put, List.setIfInBounds_toArray, List.set_cons_zero, List.set_cons_succ, i64_w, i32_w]
   rfl
  refine pure_ (i := 4) (N := some 39) (v := ?_) (a' := ?_) #[true, true, true, true, true, false, false, false, false, false, false, false, false, false, false, false] rfl rfl (any_of HT_.out (by kernel_rfl)) (fun _ _ _ h => h) (Or.inl ⟨by rfl, ?_⟩) ?_ ?_
  rotate_left
  ·intro w'
   go_simp
   with_reducible rfl
  rotate_left
  ·simp only [Act.put, List.setIfInBounds_toArray, List.set_cons_zero, List.set_cons_succ, i64_w, i32_w]
   rfl
  refine pure_ (i := 5) (N := some 40) (v := ?_) (a' := ?_) #[true, true, true, true, true, true, false, false, false, false, false, false, false, false, false, false] rfl rfl (any_of HT_.out (by kernel_rfl)) (fun _ _ _ h => h) (Or.inl ⟨by rfl, ?_⟩) ?_ ?_
  rotate_left
  ·intro w'
   go_simp
   with_reducible rfl
  rotate_left
  ·simp only [Act.put, List.setIfInBounds_toArray, List.set_cons_zero, List.set_cons_succ, i64_w, i32_w]
   rfl
  refine pure_ (i := 6) (N := some 41) (v := ?_) (a' := ?_) #[true, true, true, true, true, true, true, false, false, false, false, false, false, false, false, false] rfl rfl (any_of HT_.out (by kernel_rfl)) (fun _ _ _ h => h) (Or.inl ⟨by rfl, ?_⟩) ?_ ?_
  rotate_left
  ·intro w'
   go_simp
   with_reducible rfl
  rotate_left
  ·simp only [Act.put, List.setIfInBounds_toArray, List.set_cons_zero, List.set_cons_succ, i64_w, i32_w]
   rfl
  refine pure_ (i := 7) (N := some 42) (v := ?_) (a' := ?_) #[true, true, true, true, true, true, true, true, false, false, false, false, false, false, false, false] rfl rfl (any_of HT_.out (by kernel_rfl)) (fun _ _ _ h => h) (Or.inl ⟨by rfl, ?_⟩) ?_ ?_
  rotate_left
  ·intro w'
   go_simp
   with_reducible rfl
  rotate_left
  ·simp only [Act.put, List.setIfInBounds_toArray, List.set_cons_zero, List.set_cons_succ, i64_w, i32_w]
   rfl
  refine pure_ (i := 9) (N := some 44) (v := ?_) (a' := ?_) #[true, true, true, true, true, true, true, true, false, true, false, false, false, false, false, false] rfl rfl (any_of HT_.out (by kernel_rfl)) (fun _ _ _ h => h) (Or.inl ⟨by rfl, ?_⟩) ?_ ?_
  rotate_left
  ·intro w'
   go_simp
   with_reducible rfl
  rotate_left
  ·simp only [Act.put, List.setIfInBounds_toArray, List.set_cons_zero, List.set_cons_succ, i64_w, i32_w]
   rfl
  refine pure_ (i := 10) (N := some 45) (v := ?_) (a' := ?_) #[true, true, true, true, true, true, true, true, false, true, true, false, false, false, false, false] rfl rfl (any_of HT_.out (by kernel_rfl)) (fun _ _ _ h => h) (Or.inl ⟨by rfl, ?_⟩) ?_ ?_
  rotate_left
  ·intro w'
   go_simp
   with_reducible rfl
  rotate_left
  ·simp only [Act.put, List.setIfInBounds_toArray, List.set_cons_zero, List.set_cons_succ, i64_w, i32_w]
   rfl
  refine pure_ (i := 11) (N := some 46) (v := ?_) (a' := ?_) #[true, true, true, true, true, true, true, true, false, true, true, true, false, false, false, false] rfl rfl (any_of HT_.out (by kernel_rfl)) (fun _ _ _ h => h) (Or.inl ⟨by rfl, ?_⟩) ?_ ?_
  rotate_left
  ·intro w'
   go_simp
   with_reducible rfl
  rotate_left
  ·simp only [Act.put, List.setIfInBounds_toArray, List.set_cons_zero, List.set_cons_succ, i64_w, i32_w]
   rfl
  refine pure_ (i := 12) (N := some 47) (v := ?_) (a' := ?_) #[true, true, true, true, true, true, true, true, false, true, true, true, true, false, false, false] rfl rfl (any_of HT_.out (by kernel_rfl)) (fun _ _ _ h => h) (Or.inl ⟨by rfl, ?_⟩) ?_ ?_
  rotate_left
  ·intro w'
   go_simp
   with_reducible rfl
  rotate_left
  ·simp only [Act.put, List.setIfInBounds_toArray, List.set_cons_zero, List.set_cons_succ, i64_w, i32_w]
   rfl
  refine take_ (i := 8) (N := some 43) (v := ?_) (a' := ?_) #[true, true, true, true, true, true, true, true, true, true, true, true, true, false, false, false] rfl rfl (take_ofW HT_.out HW_.out (by kernel_rfl)) (fun _ _ _ h => h) (Or.inl ⟨by rfl, ?_⟩) hHeld ?_ ?_
  rotate_left
  ·rintro w' ⟨s0, s1, s2, s3, s4, s5, s6, s7⟩
   go_simp
   with_reducible rfl
  rotate_left
  ·simp only [Act.put, List.setIfInBounds_toArray, List.set_cons_zero, List.set_cons_succ, i64_w, i32_w]
   rfl
  refine take_ (i := 13) (N := some 48) (v := ?_) (a' := ?_) #[true, true, true, true, true, true, true, true, true, true, true, true, true, true, false, false] rfl rfl (take_ofW HT_.out HW_.out (by kernel_rfl)) (fun _ _ _ h => h) (Or.inl ⟨by rfl, ?_⟩) hHeld ?_ ?_
  rotate_left
  ·rintro w' ⟨s0, s1, s2, s3, s4, s5, s6, s7⟩
   go_simp
   with_reducible rfl
  rotate_left
  ·simp only [Act.put, List.setIfInBounds_toArray, List.set_cons_zero, List.set_cons_succ, i64_w, i32_w]
   rfl
  refine pure_ (i := 14) (N := some 49) (v := ?_) (a' := ?_) #[true, true, true, true, true, true, true, true, true, true, true, true, true, true, true, false] rfl rfl (any_of HT_.out (by kernel_rfl)) (fun _ _ _ h => h) (Or.inl ⟨by rfl, ?_⟩) ?_ ?_
  rotate_left
  ·intro w'
   go_simp
   with_reducible rfl
  rotate_left
  ·simp only [Act.put, List.setIfInBounds_toArray, List.set_cons_zero, List.set_cons_succ, i64_w, i32_w]
   rfl
  refine pure_ (i := 15) (N := some 50) (v := ?_) (a' := ?_) #[true, true, true, true, true, true, true, true, true, true, true, true, true, true, true, true] rfl rfl (any_of HT_.out (by kernel_rfl)) (fun _ _ _ h => h) (Or.inl ⟨by rfl, ?_⟩) ?_ ?_
  rotate_left
  ·intro w'
   go_simp
   with_reducible rfl
  rotate_left
  ·simp only [Act.put, List.setIfInBounds_toArray, List.set_cons_zero, List.set_cons_succ, i64_w, i32_w]
   rfl
  refine done_ (done_of HT_.out (by kernel_rfl)) ?_
  try go_wp2
  go_meet
  case rel => exact ⟨_, ((((rd_T39 l0 (ji16)).f0).toList == ((rd_T39 l0 x9_2).f0).toList)), (by first | rfl | (simp; done) | (simp only [← hji16] <;> (first | rfl | simp)) | (simp [*]; done)), H', ⟨by have := HK1.out; have := HK2.out; first | omega | exact Nat.le_refl _⟩, ⟨by (with_reducible repeat (first | apply Kd.R_alloc | apply Kd.R_drewN | apply Kd.R_drew)); exact HO_8.out⟩, ⟨by repeat (first | (with_reducible first | exact HB.out | apply below_alloc | apply pw_below_drewN | apply below_drew1) | exact HB.out)⟩⟩
 clear HC14
 try clear c1
 try clear p2
 try clear q2
 try clear hx2
 try clear c4
 try clear c4b0
 try clear c5
 try clear c5b0
 try clear p6
 try clear c7
 try clear c11
 try clear c13
 try clear c13b0
 try clear c15
 try clear c15b0
 try clear c17
 try clear c17b0
 try clear c18
 try clear c18b0
 try clear c19
 try clear c19b0
 try clear hx237_0
 try clear hx237_1
 try clear hx237_2
 try clear hx237_3
 try clear hx240_0
 try clear hx240_1
 try clear hx240_2
 try clear hx240_3
 try clear hx241_0
 try clear hx241_1
 try clear hx241_2
 try clear hx241_3
 try clear p2
 try clear p237
 try clear p240
 try clear p241
 try clear p6
 try clear q2
 try clear q237
 try clear q240
 try clear q241
 obtain ⟨kq, x50_13, rfl, HA, HJ13, HO_8, HB⟩ := hcut
 cases kq with
 | zero => exact absurd HA.out (by simp [ravelinref6_Pack.j2])
 | succ kj13 => ?_
 have H := HA.out
 clear HA
 simp only [ravelinref6_Pack.j2] at H
 have HC22 := Aside0.mk H
 clear H
 go_upto_if 50 with (fail)
 go_cut [10] (fun v10 wc => ∃ (kq : Nat) (x10_21 : Int), v10 = .int .i64 x10_21 ∧ Aside0 (ravelinref6_Pack.j3 kq l0 l1 a2 x8_2 x9_2 x10_21 = some r) ∧ Aside0 (kq ≤ kj13) ∧ Aside0 (Kd.R k39 39 wc w.heap.size (fun _ => True) u8 x8_2) ∧ Aside0 (Below w.heap.size w wc))
 case first =>
  have H := HC22.out
  clear HC22
  by_cases c23 : x50_13 = true
  rotate_left
  ·replace c23 := Bool.eq_false_iff.mpr c23
   subst c23
   have H1 : (ravelinref6_Pack.j3 kj13 l0 l1 a2 x8_2 x9_2 1000001) = some r := by rw [if_neg (show ¬ (false = true) by decide)] at H; exact H
   clear H
   have H := H1
   clear H1
   have H' := Aside0.mk H
   clear H
   go_wp2
   go_meet
   case rel => exact ⟨_, (1000001), (by first | rfl | (simp; done) | (simp [*]; done)), H', ⟨by have := HK1.out; have := HK2.out; have := HJ13.out; first | omega | exact Nat.le_refl _⟩, ⟨by (with_reducible repeat (first | apply Kd.R_alloc | apply Kd.R_drewN | apply Kd.R_drew)); exact HO_8.out⟩, ⟨by repeat (first | (with_reducible first | exact HB.out | apply below_alloc | apply pw_below_drewN | apply below_drew1) | exact HB.out)⟩⟩
  subst c23
  have H1 : (if 0 ≤ (wrap64 (x9_2 - 1)) then (if (wrap64 (x9_2 - 1)) < (l0.length : Int) then (ravelinref6_Pack.j3 kj13 l0 l1 a2 x8_2 x9_2 ((rd_T39 l0 (wrap64 (x9_2 - 1))).f1)) else (none)) else (none)) = some r := by rw [if_pos rfl] at H; exact H
  clear H
  have H := H1
  clear H1
  obtain ⟨ji24, hji24⟩ : ∃ j_ : Int, (wrap64 (x9_2 - 1)) = j_ := ⟨_, rfl⟩
  replace H : (if 0 ≤ (ji24) then (if (ji24) < (l0.length : Int) then (ravelinref6_Pack.j3 kj13 l0 l1 a2 x8_2 x9_2 ((rd_T39 l0 (ji24)).f1)) else (none)) else (none)) = some r := by first | (rw [hji24] at H; exact H) | (simp only [hji24] at H ⊢; exact H)
  (try (have hji16ji24 := hji16; rw [hji24] at hji16ji24))
  (try (have hji16wji24 := hji16w; rw [hji24] at hji16wji24))
  (try (have hji16_ji24 := hji16_; rw [hji24] at hji16_ji24))
  have hji24w : (IntKind.i64.wrap (x9_2 - 1)) = ji24 := (i64_w _).trans hji24
  by_cases c25 : 0 ≤ (ji24)
  rotate_left
  ·rw [if_neg c25] at H
   exact absurd H (by simp)
  rw [if_pos c25] at H
  have c25b0 : decide (0 ≤ (ji24)) = true := decide_eq_true c25
  clear c25
  (first | rw [c25b0] | (simp only [i64_w, i32_w]; rw [c25b0]) | skip)
  by_cases c26 : (ji24) < (l0.length : Int)
  rotate_left
  ·rw [if_neg c26] at H
   exact absurd H (by simp)
  rw [if_pos c26] at H
  have c26b0 : decide ((ji24) < (l0.length : Int)) = true := decide_eq_true c26
  clear c26
  have H' := Aside0.mk H
  clear H
  have p242 : 0 ≤ ((ji24) : Int) := of_decide_eq_true (by first | (with_reducible assumption) | assumption)
  have q242 : (ji24) < (l0.length : Int) := of_decide_eq_true (by first | (with_reducible assumption) | assumption)
  obtain ⟨ad242, e242, hx242_0, hx242_1, hx242_2, hx242_3⟩ := at_T39 HR0.out (ji24) p242 q242
  cases e242
  replace hx242_0 := (HB.out.cell (World.block_lt_of_cell? w _ hx242_0)).trans hx242_0
  replace hx242_1 := (HB.out.cell (World.block_lt_of_cell? w _ hx242_1)).trans hx242_1
  replace hx242_2 := (HB.out.cell (World.block_lt_of_cell? w _ hx242_2)).trans hx242_2
  replace hx242_3 := (HB.out.cell (World.block_lt_of_cell? w _ hx242_3)).trans hx242_3
  replace p242 := eq_true p242
  replace q242 := eq_true q242
  go_wp2
  go_meet
  case rel => exact ⟨_, ((rd_T39 l0 (ji24)).f1), (by first | rfl | (simp; done) | (simp only [← hji24] <;> (first | rfl | simp)) | (simp [*]; done)), H', ⟨by have := HK1.out; have := HK2.out; have := HJ13.out; first | omega | exact Nat.le_refl _⟩, ⟨by (with_reducible repeat (first | apply Kd.R_alloc | apply Kd.R_drewN | apply Kd.R_drew)); exact HO_8.out⟩, ⟨by repeat (first | (with_reducible first | exact HB.out | apply below_alloc | apply pw_below_drewN | apply below_drew1) | exact HB.out)⟩⟩
 clear HC22
 try clear c1
 try clear c2
 try clear p2
 try clear q2
 try clear hx2
 try clear c4
 try clear c4b0
 try clear c5
 try clear c5b0
 try clear p6
 try clear c7
 try clear c11
 try clear c13
 try clear c13b0
 try clear c15
 try clear c15b0
 try clear c17
 try clear c17b0
 try clear c18
 try clear c18b0
 try clear c19
 try clear c19b0
 try clear c23
 try clear p23
 try clear q23
 try clear hx23
 try clear p24
 try clear q24
 try clear hx24
 try clear c25
 try clear c25b0
 try clear c26
 try clear c26b0
 try clear hx237_0
 try clear hx237_1
 try clear hx237_2
 try clear hx237_3
 try clear hx240_0
 try clear hx240_1
 try clear hx240_2
 try clear hx240_3
 try clear hx241_0
 try clear hx241_1
 try clear hx241_2
 try clear hx241_3
 try clear hx242_0
 try clear hx242_1
 try clear hx242_2
 try clear hx242_3
 try clear p2
 try clear p237
 try clear p240
 try clear p241
 try clear p242
 try clear p6
 try clear q2
 try clear q237
 try clear q240
 try clear q241
 try clear q242
 obtain ⟨kq, x10_21, rfl, HA, HJ21, HO_8, HB⟩ := hcut
 cases kq with
 | zero => exact absurd HA.out (by simp [ravelinref6_Pack.j3])
 | succ kj21 => ?_
 have H := HA.out
 clear HA
 simp only [ravelinref6_Pack.j3] at H
 have HC27 := Aside0.mk H
 clear H
 go_upto_region 15 with (fail)
 go_cut [11] (fun v11 wc => ∃ (kq : Nat) (x11_26 : Bool), v11 = .bool x11_26 ∧ Aside0 (ravelinref6_Pack.j4 kq l0 l1 a2 x8_2 x9_2 x10_21 x11_26 = some r) ∧ Aside0 (kq ≤ kj21) ∧ Aside0 (Kd.R k39 39 wc w.heap.size (fun _ => True) u8 x8_2) ∧ Aside0 (Below w.heap.size w wc))
 case first =>
  have H := HC27.out
  clear HC27
  by_cases c28 : 0 ≤ x9_2
  rotate_left
  ·rw [if_neg c28] at H
   exact absurd H (by simp)
  rw [if_pos c28] at H
  have c28b0 : decide (0 ≤ x9_2) = true := decide_eq_true c28
  clear c28
  (first | rw [c28b0] | (simp only [i64_w, i32_w]; rw [c28b0]) | skip)
  by_cases c29 : x9_2 < (l0.length : Int)
  rotate_left
  ·rw [if_neg c29] at H
   exact absurd H (by simp)
  rw [if_pos c29] at H
  have c29b0 : decide (x9_2 < (l0.length : Int)) = true := decide_eq_true c29
  clear c29
  by_cases c30 : ((rd_T39 l0 x9_2).f1) ≤ 1000000
  rotate_left
  ·rw [if_neg c30] at H
   have c30b0 : decide (((rd_T39 l0 x9_2).f1) ≤ 1000000) = false := decide_eq_false c30
   clear c30
   have H' := Aside0.mk H
   clear H
   have p243 : 0 ≤ (x9_2 : Int) := of_decide_eq_true (by first | (with_reducible assumption) | assumption)
   have q243 : x9_2 < (l0.length : Int) := of_decide_eq_true (by first | (with_reducible assumption) | assumption)
   obtain ⟨ad243, e243, hx243_0, hx243_1, hx243_2, hx243_3⟩ := at_T39 HR0.out x9_2 p243 q243
   cases e243
   replace hx243_0 := (HB.out.cell (World.block_lt_of_cell? w _ hx243_0)).trans hx243_0
   replace hx243_1 := (HB.out.cell (World.block_lt_of_cell? w _ hx243_1)).trans hx243_1
   replace hx243_2 := (HB.out.cell (World.block_lt_of_cell? w _ hx243_2)).trans hx243_2
   replace hx243_3 := (HB.out.cell (World.block_lt_of_cell? w _ hx243_3)).trans hx243_3
   replace p243 := eq_true p243
   replace q243 := eq_true q243
   go_wp2
   go_meet
   case rel => exact ⟨_, (false), (by first | rfl | (simp; done) | (simp [*]; done)), H', ⟨by have := HK1.out; have := HK2.out; have := HJ13.out; have := HJ21.out; first | omega | exact Nat.le_refl _⟩, ⟨by (with_reducible repeat (first | apply Kd.R_alloc | apply Kd.R_drewN | apply Kd.R_drew)); exact HO_8.out⟩, ⟨by repeat (first | (with_reducible first | exact HB.out | apply below_alloc | apply pw_below_drewN | apply below_drew1) | exact HB.out)⟩⟩
  rw [if_pos c30] at H
  have c30b0 : decide (((rd_T39 l0 x9_2).f1) ≤ 1000000) = true := decide_eq_true c30
  clear c30
  have H' := Aside0.mk H
  clear H
  have p243 : 0 ≤ (x9_2 : Int) := of_decide_eq_true (by first | (with_reducible assumption) | assumption)
  have q243 : x9_2 < (l0.length : Int) := of_decide_eq_true (by first | (with_reducible assumption) | assumption)
  obtain ⟨ad243, e243, hx243_0, hx243_1, hx243_2, hx243_3⟩ := at_T39 HR0.out x9_2 p243 q243
  cases e243
  replace hx243_0 := (HB.out.cell (World.block_lt_of_cell? w _ hx243_0)).trans hx243_0
  replace hx243_1 := (HB.out.cell (World.block_lt_of_cell? w _ hx243_1)).trans hx243_1
  replace hx243_2 := (HB.out.cell (World.block_lt_of_cell? w _ hx243_2)).trans hx243_2
  replace hx243_3 := (HB.out.cell (World.block_lt_of_cell? w _ hx243_3)).trans hx243_3
  replace p243 := eq_true p243
  replace q243 := eq_true q243
  go_wp2
  go_meet
  case rel => exact ⟨_, (decide (x10_21 > 1000000)), (by first | rfl | (simp; done) | (simp [*]; done)), H', ⟨by have := HK1.out; have := HK2.out; have := HJ13.out; have := HJ21.out; first | omega | exact Nat.le_refl _⟩, ⟨by (with_reducible repeat (first | apply Kd.R_alloc | apply Kd.R_drewN | apply Kd.R_drew)); exact HO_8.out⟩, ⟨by repeat (first | (with_reducible first | exact HB.out | apply below_alloc | apply pw_below_drewN | apply below_drew1) | exact HB.out)⟩⟩
 clear HC27
 try clear c1
 try clear c2
 try clear p2
 try clear q2
 try clear hx2
 try clear c3
 try clear c4
 try clear c4b0
 try clear c5
 try clear c5b0
 try clear p6
 try clear c7
 try clear c11
 try clear c13
 try clear c13b0
 try clear c15
 try clear c15b0
 try clear c17
 try clear c17b0
 try clear c18
 try clear c18b0
 try clear c19
 try clear c19b0
 try clear c23
 try clear p23
 try clear q23
 try clear hx23
 try clear p24
 try clear q24
 try clear hx24
 try clear c25
 try clear c25b0
 try clear c26
 try clear c26b0
 try clear c28
 try clear c28b0
 try clear c29
 try clear c29b0
 try clear c30
 try clear c30b0
 try clear hx237_0
 try clear hx237_1
 try clear hx237_2
 try clear hx237_3
 try clear hx240_0
 try clear hx240_1
 try clear hx240_2
 try clear hx240_3
 try clear hx241_0
 try clear hx241_1
 try clear hx241_2
 try clear hx241_3
 try clear hx242_0
 try clear hx242_1
 try clear hx242_2
 try clear hx242_3
 try clear hx243_0
 try clear hx243_1
 try clear hx243_2
 try clear hx243_3
 try clear p2
 try clear p23
 try clear p237
 try clear p24
 try clear p240
 try clear p241
 try clear p242
 try clear p243
 try clear p6
 try clear q2
 try clear q23
 try clear q237
 try clear q24
 try clear q240
 try clear q241
 try clear q242
 try clear q243
 obtain ⟨kq, x11_26, rfl, HA, HJ26, HO_8, HB⟩ := hcut
 cases kq with
 | zero => exact absurd HA.out (by simp [ravelinref6_Pack.j4])
 | succ kj26 => ?_
 have H := HA.out
 clear HA
 simp only [ravelinref6_Pack.j4] at H
 have H' := Aside0.mk H
 clear H
 go_wp2
 go_loopg [11, 12] kj26 (fun kq v11 v12 w' => ∃ (x11_6 : Bool) (x12_6 : Int), v11 = .bool x11_6 ∧ v12 = .int .i64 x12_6 ∧ Aside0 (ravelinref6_Pack.l2 kq l0 l1 a2 x8_2 x9_2 x10_21 x11_6 x12_6 = some r) ∧ Aside0 (kq ≤ kj26) ∧ Aside0 (Kd.R k39 39 w' w.heap.size (fun _ => True) u8 x8_2) ∧ Aside0 (Below w.heap.size w w'))
 case atStart => exact ⟨(x11_26), (0), (by first | rfl | (simp; done) | (simp [*]; done)), (by first | rfl | (simp; done) | (simp [*]; done)), H', ⟨Nat.le_refl _⟩, ⟨by (with_reducible repeat (first | apply Kd.R_alloc | apply Kd.R_drewN | apply Kd.R_drew)); exact HO_8.out⟩, ⟨by repeat (first | (with_reducible first | exact HB.out | apply below_alloc | apply pw_below_drewN | apply below_drew1) | exact HB.out)⟩⟩
 clear H'
 try clear c1
 try clear c2
 try clear p2
 try clear q2
 try clear hx2
 try clear c3
 try clear c4
 try clear c4b0
 try clear c5
 try clear c5b0
 try clear p6
 try clear c7
 try clear c11
 try clear c13
 try clear c13b0
 try clear c15
 try clear c15b0
 try clear c17
 try clear c17b0
 try clear c18
 try clear c18b0
 try clear c19
 try clear c19b0
 try clear c23
 try clear p23
 try clear q23
 try clear hx23
 try clear p24
 try clear q24
 try clear hx24
 try clear c25
 try clear c25b0
 try clear c26
 try clear c26b0
 try clear c28
 try clear c28b0
 try clear c29
 try clear c29b0
 try clear c30
 try clear c30b0
 try clear hx237_0
 try clear hx237_1
 try clear hx237_2
 try clear hx237_3
 try clear hx240_0
 try clear hx240_1
 try clear hx240_2
 try clear hx240_3
 try clear hx241_0
 try clear hx241_1
 try clear hx241_2
 try clear hx241_3
 try clear hx242_0
 try clear hx242_1
 try clear hx242_2
 try clear hx242_3
 try clear hx243_0
 try clear hx243_1
 try clear hx243_2
 try clear hx243_3
 try clear p2
 try clear p23
 try clear p237
 try clear p24
 try clear p240
 try clear p241
 try clear p242
 try clear p243
 try clear p6
 try clear q2
 try clear q23
 try clear q237
 try clear q24
 try clear q240
 try clear q241
 try clear q242
 try clear q243
 obtain ⟨x11_6, x12_6, rfl, rfl, HA, HK6, HO_8, HB⟩ := hrel
 cases gk with
 | zero => exact absurd HA.out (by simp [ravelinref6_Pack.l2])
 | succ k6 => ?_
 have H := HA.out
 clear HA
 simp only [ravelinref6_Pack.l2] at H
 by_cases c31 : x12_6 < (l1.length : Int)
 rotate_left
 ·rw [if_neg c31] at H
  have c31b0 : decide (x12_6 < (l1.length : Int)) = false := decide_eq_false c31
  clear c31
  by_cases c40 : x11_6 = true
  rotate_left
  ·replace c40 := Bool.eq_false_iff.mpr c40
   subst c40
   have H1 : (ravelinref6_Pack.l1 k6 l0 l1 a2 x8_2 (wrap64 (x9_2 + 1))) = some r := by rw [if_neg (show ¬ (false = true) by decide)] at H; exact H
   clear H
   have H := H1
   clear H1
   have H' := Aside0.mk H
   clear H
   go_wp2
   go_roundg k6
   case measure => have := HK1.out; have := HK2.out; have := HJ13.out; have := HJ21.out; have := HJ26.out; have := HK6.out; omega
   case rel => exact ⟨(x8_2), (wrap64 (x9_2 + 1)), (by first | rfl | (simp; done) | (simp [*]; done)), H', ⟨by have := HK1.out; have := HK2.out; have := HJ13.out; have := HJ21.out; have := HJ26.out; have := HK6.out; omega⟩, ⟨by (with_reducible repeat (first | apply Kd.R_alloc | apply Kd.R_drewN | apply Kd.R_drew)); exact HO_8.out⟩, ⟨by repeat (first | (with_reducible first | exact HB.out | apply below_alloc | apply pw_below_drewN | apply below_drew1) | exact HB.out)⟩⟩
  subst c40
  have H1 : (if 0 ≤ x9_2 then (if x9_2 < (l0.length : Int) then (if x8_2.length < 2932031007402 then (ravelinref6_Pack.l1 k6 l0 l1 a2 (x8_2 ++ [(⟨(rd_T39 l0 x9_2).f0, (rd_T39 l0 x9_2).f1, (rd_T39 l0 x9_2).f2, (rd_T39 l0 x9_2).f3⟩ : S39)]) (wrap64 (x9_2 + 1))) else (none)) else (none)) else (none)) = some r := by rw [if_pos rfl] at H; exact H
  clear H
  have H := H1
  clear H1
  by_cases c41 : 0 ≤ x9_2
  rotate_left
  ·rw [if_neg c41] at H
   exact absurd H (by simp)
  rw [if_pos c41] at H
  have c41b0 : decide (0 ≤ x9_2) = true := decide_eq_true c41
  clear c41
  by_cases c42 : x9_2 < (l0.length : Int)
  rotate_left
  ·rw [if_neg c42] at H
   exact absurd H (by simp)
  rw [if_pos c42] at H
  have c42b0 : decide (x9_2 < (l0.length : Int)) = true := decide_eq_true c42
  clear c42
  by_cases c43 : x8_2.length < 2932031007402
  rotate_left
  ·rw [if_neg c43] at H
   exact absurd H (by simp)
  rw [if_pos c43] at H
  have LMc43 := Aside0.mk c43
  clear c43
  obtain ⟨y248, hy248⟩ : ∃ y_ : List (S39), y_ = (x8_2 ++ [(⟨(rd_T39 l0 x9_2).f0, (rd_T39 l0 x9_2).f1, (rd_T39 l0 x9_2).f2, (rd_T39 l0 x9_2).f3⟩ : S39)]) := ⟨_, rfl⟩
  replace H : (ravelinref6_Pack.l1 k6 l0 l1 a2 y248 (wrap64 (x9_2 + 1))) = some r := by first | (rw [hy248]; with_reducible exact H) | (have H2_ := (Option.bind_some _ _).symm.trans H; rw [hy248]; with_reducible exact H2_) | (have H2_ := (Option.bind_some _ _).symm.trans H; with_reducible exact H2_) | with_reducible exact H | (rw [hy248]; exact H) | exact H
  have Ny248 := Aside0.mk hy248
  clear hy248
  have H' := Aside0.mk H
  clear H
  have p247 : 0 ≤ (x9_2 : Int) := of_decide_eq_true (by first | (with_reducible assumption) | assumption)
  have q247 : x9_2 < (l0.length : Int) := of_decide_eq_true (by first | (with_reducible assumption) | assumption)
  obtain ⟨ad247, e247, hx247_0, hx247_1, hx247_2, hx247_3⟩ := at_T39 HR0.out x9_2 p247 q247
  cases e247
  replace hx247_0 := (HB.out.cell (World.block_lt_of_cell? w _ hx247_0)).trans hx247_0
  replace hx247_1 := (HB.out.cell (World.block_lt_of_cell? w _ hx247_1)).trans hx247_1
  replace hx247_2 := (HB.out.cell (World.block_lt_of_cell? w _ hx247_2)).trans hx247_2
  replace hx247_3 := (HB.out.cell (World.block_lt_of_cell? w _ hx247_3)).trans hx247_3
  replace p247 := eq_true p247
  replace q247 := eq_true q247
  go_wp2_with (first | ((with_reducible refine gate_builtin (b := .append) (xs := #[.tmp 95, .tmp 100]) rfl ?_); (try (refine gate_guard (by rfl) ?_; dsimp only)); at_builtin; refine Kd.R_append k39 (w0 := w) w.heap.size rfl (.tmp 95) (.tmp 100) 23 39 (.agg #[(.string ⟨#[]⟩), (.int .i64 0), (.bool false), (.string ⟨#[]⟩)]) 48 rfl Try.underlying23 info39 rfl (by decide) (by omega) u8 x8_2 (⟨(rd_T39 l0 x9_2).f0, (rd_T39 l0 x9_2).f1, (rd_T39 l0 x9_2).f2, (rd_T39 l0 x9_2).f3⟩ : S39) [.string ((rd_T39 l0 x9_2).f0), .int .i64 ((rd_T39 l0 x9_2).f1), .bool ((rd_T39 l0 x9_2).f2), .string ((rd_T39 l0 x9_2).f3)] (fun _ => True) (fun _ => False) rfl rfl ?aP (fun _ hk => hk.elim) ?aF ?aO ?aB ?aS ?aL ?_; (case aP => exact k39_mkM _ _ _ (⟨(rd_T39 l0 x9_2).f0, (rd_T39 l0 x9_2).f1, (rd_T39 l0 x9_2).f2, (rd_T39 l0 x9_2).f3⟩ : S39)); (case aB => exact (by repeat (first | (with_reducible first | exact HB.out | apply below_alloc | apply pw_below_drewN | apply below_drew1) | exact HB.out))); (case aF => exact (fun _ _ => trivial)); (case aO => exact (by (with_reducible repeat (first | apply Kd.R_alloc | apply Kd.R_drewN | apply Kd.R_drew)); exact HO_8.out)); (case aS => exact (below_size (by repeat (first | (with_reducible first | exact HB.out | apply below_alloc | apply pw_below_drewN | apply below_drew1) | exact HB.out)))); (case aL => have := LMc43.out; omega); intro v249 w44 ho hb hg hat; rw [← Ny248.out] at ho; have n0_ := Aside0.mk (hb); have n1_ := Aside0.mk (ho); clear HB; clear HO_8; have HB := n0_; have HO250 := n1_; clear n0_ n1_; clear ho hb hg hat))
  go_roundg k6
  case measure => have := HK1.out; have := HK2.out; have := HJ13.out; have := HJ21.out; have := HJ26.out; have := HK6.out; omega
  case rel => exact ⟨(y248), (wrap64 (x9_2 + 1)), (by first | rfl | (simp; done) | (simp [*]; done)), H', ⟨by have := HK1.out; have := HK2.out; have := HJ13.out; have := HJ21.out; have := HJ26.out; have := HK6.out; omega⟩, ⟨by (with_reducible repeat (first | apply Kd.R_alloc | apply Kd.R_drewN | apply Kd.R_drew)); exact HO250.out⟩, ⟨by repeat (first | (with_reducible first | exact HB.out | apply below_alloc | apply pw_below_drewN | apply below_drew1) | exact HB.out)⟩⟩
 rw [if_pos c31] at H
 have c31b0 : decide (x12_6 < (l1.length : Int)) = true := decide_eq_true c31
 clear c31
 by_cases c32 : x11_6 = true
 ·subst c32
  have H1 : (ravelinref6_Pack.l2 k6 l0 l1 a2 x8_2 x9_2 x10_21 true (wrap64 (x12_6 + 1))) = some r := by rw [if_pos rfl] at H; exact H
  clear H
  have H := H1
  clear H1
  have H' := Aside0.mk H
  clear H
  try go_wp2
  have n0_ := Aside0.mk (Kd.R_drew HO_8.out)
  have n1_ := Aside0.mk (below_drew1 HB.out)
  clear HO_8
  clear HB
  have HO_8 := n0_
  have HB := n1_
  clear n0_ n1_
  refine start_ (n := 22) (S := fun w' => True) (ds := []) #[false, false, false, false, false, false, false, false, false, false, false, false, false, false, false, false, false, false, false, false, false, false] (by kernel_rfl) rfl rfl trivial (fun hHeld => ?_); refine with_tabW ravelinref6_Pack.tab19 ravelinref6_Pack.bits19 (fun HT_ HW_ => ?_)
  generalize wr.drew = w33 at HO_8 HB hHeld ⊢
  refine pure_ (i := 0) (N := some 73) (v := ?_) (a' := ?_) #[true, false, false, false, false, false, false, false, false, false, false, false, false, false, false, false, false, false, false, false, false, false] rfl rfl (any_of HT_.out (by kernel_rfl)) (fun _ _ _ h => h) (Or.inl ⟨by rfl, ?_⟩) ?_ ?_
  rotate_left
  ·intro w'
   go_simp
   with_reducible rfl
  rotate_left
  ·simp only [Act.put, List.setIfInBounds_toArray, List.set_cons_zero, List.set_cons_succ, i64_w, i32_w]
   rfl
  refine pure_ (i := 1) (N := some 74) (v := ?_) (a' := ?_) #[true, true, false, false, false, false, false, false, false, false, false, false, false, false, false, false, false, false, false, false, false, false] rfl rfl (any_of HT_.out (by kernel_rfl)) (fun _ _ _ h => h) (Or.inl ⟨by rfl, ?_⟩) ?_ ?_
  rotate_left
  ·intro w'
   go_simp
   with_reducible rfl
  rotate_left
  ·simp only [Act.put, List.setIfInBounds_toArray, List.set_cons_zero, List.set_cons_succ, i64_w, i32_w]
   rfl
  refine pure_ (i := 2) (N := some 75) (v := undef) (a' := ?_) #[true, true, true, false, false, false, false, false, false, false, false, false, false, false, false, false, false, false, false, false, false, false] rfl rfl (any_of HT_.out (by kernel_rfl)) (fun _ _ _ h => h) (Or.inr ⟨by rfl, rfl⟩) ?_ ?_
  rotate_left
  ·simp only [Act.put, List.setIfInBounds_toArray, List.set_cons_zero, List.set_cons_succ, i64_w, i32_w]
   rfl
  refine pure_ (i := 3) (N := some 76) (v := undef) (a' := ?_) #[true, true, true, true, false, false, false, false, false, false, false, false, false, false, false, false, false, false, false, false, false, false] rfl rfl (any_of HT_.out (by kernel_rfl)) (fun _ _ _ h => h) (Or.inr ⟨by rfl, rfl⟩) ?_ ?_
  rotate_left
  ·simp only [Act.put, List.setIfInBounds_toArray, List.set_cons_zero, List.set_cons_succ, i64_w, i32_w]
   rfl
  refine pure_ (i := 4) (N := some 77) (v := undef) (a' := ?_) #[true, true, true, true, true, false, false, false, false, false, false, false, false, false, false, false, false, false, false, false, false, false] rfl rfl (any_of HT_.out (by kernel_rfl)) (fun _ _ _ h => h) (Or.inr ⟨by rfl, rfl⟩) ?_ ?_
  rotate_left
  ·simp only [Act.put, List.setIfInBounds_toArray, List.set_cons_zero, List.set_cons_succ, i64_w, i32_w]
   rfl
  refine pure_ (i := 5) (N := some 78) (v := undef) (a' := ?_) #[true, true, true, true, true, true, false, false, false, false, false, false, false, false, false, false, false, false, false, false, false, false] rfl rfl (any_of HT_.out (by kernel_rfl)) (fun _ _ _ h => h) (Or.inr ⟨by rfl, rfl⟩) ?_ ?_
  rotate_left
  ·simp only [Act.put, List.setIfInBounds_toArray, List.set_cons_zero, List.set_cons_succ, i64_w, i32_w]
   rfl
  refine pure_ (i := 6) (N := some 79) (v := undef) (a' := ?_) #[true, true, true, true, true, true, true, false, false, false, false, false, false, false, false, false, false, false, false, false, false, false] rfl rfl (any_of HT_.out (by kernel_rfl)) (fun _ _ _ h => h) (Or.inr ⟨by rfl, rfl⟩) ?_ ?_
  rotate_left
  ·simp only [Act.put, List.setIfInBounds_toArray, List.set_cons_zero, List.set_cons_succ, i64_w, i32_w]
   rfl
  refine pure_ (i := 7) (N := some 80) (v := undef) (a' := ?_) #[true, true, true, true, true, true, true, true, false, false, false, false, false, false, false, false, false, false, false, false, false, false] rfl rfl (any_of HT_.out (by kernel_rfl)) (fun _ _ _ h => h) (Or.inr ⟨by rfl, rfl⟩) ?_ ?_
  rotate_left
  ·simp only [Act.put, List.setIfInBounds_toArray, List.set_cons_zero, List.set_cons_succ, i64_w, i32_w]
   rfl
  refine pure_ (i := 8) (N := some 81) (v := undef) (a' := ?_) #[true, true, true, true, true, true, true, true, true, false, false, false, false, false, false, false, false, false, false, false, false, false] rfl rfl (any_of HT_.out (by kernel_rfl)) (fun _ _ _ h => h) (Or.inr ⟨by rfl, rfl⟩) ?_ ?_
  rotate_left
  ·simp only [Act.put, List.setIfInBounds_toArray, List.set_cons_zero, List.set_cons_succ, i64_w, i32_w]
   rfl
  refine pure_ (i := 9) (N := some 82) (v := undef) (a' := ?_) #[true, true, true, true, true, true, true, true, true, true, false, false, false, false, false, false, false, false, false, false, false, false] rfl rfl (any_of HT_.out (by kernel_rfl)) (fun _ _ _ h => h) (Or.inr ⟨by rfl, rfl⟩) ?_ ?_
  rotate_left
  ·simp only [Act.put, List.setIfInBounds_toArray, List.set_cons_zero, List.set_cons_succ, i64_w, i32_w]
   rfl
  refine pure_ (i := 10) (N := some 83) (v := undef) (a' := ?_) #[true, true, true, true, true, true, true, true, true, true, true, false, false, false, false, false, false, false, false, false, false, false] rfl rfl (any_of HT_.out (by kernel_rfl)) (fun _ _ _ h => h) (Or.inr ⟨by rfl, rfl⟩) ?_ ?_
  rotate_left
  ·simp only [Act.put, List.setIfInBounds_toArray, List.set_cons_zero, List.set_cons_succ, i64_w, i32_w]
   rfl
  refine pure_ (i := 11) (N := some 84) (v := undef) (a' := ?_) #[true, true, true, true, true, true, true, true, true, true, true, true, false, false, false, false, false, false, false, false, false, false] rfl rfl (any_of HT_.out (by kernel_rfl)) (fun _ _ _ h => h) (Or.inr ⟨by rfl, rfl⟩) ?_ ?_
  rotate_left
  ·simp only [Act.put, List.setIfInBounds_toArray, List.set_cons_zero, List.set_cons_succ, i64_w, i32_w]
   rfl
  refine pure_ (i := 12) (N := some 85) (v := undef) (a' := ?_) #[true, true, true, true, true, true, true, true, true, true, true, true, true, false, false, false, false, false, false, false, false, false] rfl rfl (any_of HT_.out (by kernel_rfl)) (fun _ _ _ h => h) (Or.inr ⟨by rfl, rfl⟩) ?_ ?_
  rotate_left
  ·simp only [Act.put, List.setIfInBounds_toArray, List.set_cons_zero, List.set_cons_succ, i64_w, i32_w]
   rfl
  refine pure_ (i := 13) (N := some 86) (v := undef) (a' := ?_) #[true, true, true, true, true, true, true, true, true, true, true, true, true, true, false, false, false, false, false, false, false, false] rfl rfl (any_of HT_.out (by kernel_rfl)) (fun _ _ _ h => h) (Or.inr ⟨by rfl, rfl⟩) ?_ ?_
  rotate_left
  ·simp only [Act.put, List.setIfInBounds_toArray, List.set_cons_zero, List.set_cons_succ, i64_w, i32_w]
   rfl
  refine pure_ (i := 14) (N := some 87) (v := undef) (a' := ?_) #[true, true, true, true, true, true, true, true, true, true, true, true, true, true, true, false, false, false, false, false, false, false] rfl rfl (any_of HT_.out (by kernel_rfl)) (fun _ _ _ h => h) (Or.inr ⟨by rfl, rfl⟩) ?_ ?_
  rotate_left
  ·simp only [Act.put, List.setIfInBounds_toArray, List.set_cons_zero, List.set_cons_succ, i64_w, i32_w]
   rfl
  refine pure_ (i := 15) (N := some 88) (v := undef) (a' := ?_) #[true, true, true, true, true, true, true, true, true, true, true, true, true, true, true, true, false, false, false, false, false, false] rfl rfl (any_of HT_.out (by kernel_rfl)) (fun _ _ _ h => h) (Or.inr ⟨by rfl, rfl⟩) ?_ ?_
  rotate_left
  ·simp only [Act.put, List.setIfInBounds_toArray, List.set_cons_zero, List.set_cons_succ, i64_w, i32_w]
   rfl
  refine pure_ (i := 16) (N := some 89) (v := undef) (a' := ?_) #[true, true, true, true, true, true, true, true, true, true, true, true, true, true, true, true, true, false, false, false, false, false] rfl rfl (any_of HT_.out (by kernel_rfl)) (fun _ _ _ h => h) (Or.inr ⟨by rfl, rfl⟩) ?_ ?_
  rotate_left
  ·simp only [Act.put, List.setIfInBounds_toArray, List.set_cons_zero, List.set_cons_succ, i64_w, i32_w]
   rfl
  refine pure_ (i := 17) (N := some 90) (v := undef) (a' := ?_) #[true, true, true, true, true, true, true, true, true, true, true, true, true, true, true, true, true, true, false, false, false, false] rfl rfl (any_of HT_.out (by kernel_rfl)) (fun _ _ _ h => h) (Or.inr ⟨by rfl, rfl⟩) ?_ ?_
  rotate_left
  ·simp only [Act.put, List.setIfInBounds_toArray, List.set_cons_zero, List.set_cons_succ, i64_w, i32_w]
   rfl
  refine pure_ (i := 18) (N := some 91) (v := undef) (a' := ?_) #[true, true, true, true, true, true, true, true, true, true, true, true, true, true, true, true, true, true, true, false, false, false] rfl rfl (any_of HT_.out (by kernel_rfl)) (fun _ _ _ h => h) (Or.inr ⟨by rfl, rfl⟩) ?_ ?_
  rotate_left
  ·simp only [Act.put, List.setIfInBounds_toArray, List.set_cons_zero, List.set_cons_succ, i64_w, i32_w]
   rfl
  refine pure_ (i := 19) (N := some 92) (v := undef) (a' := ?_) #[true, true, true, true, true, true, true, true, true, true, true, true, true, true, true, true, true, true, true, true, false, false] rfl rfl (any_of HT_.out (by kernel_rfl)) (fun _ _ _ h => h) (Or.inr ⟨by rfl, rfl⟩) ?_ ?_
  rotate_left
  ·simp only [Act.put, List.setIfInBounds_toArray, List.set_cons_zero, List.set_cons_succ, i64_w, i32_w]
   rfl
  refine pure_ (i := 20) (N := some 93) (v := ?_) (a' := ?_) #[true, true, true, true, true, true, true, true, true, true, true, true, true, true, true, true, true, true, true, true, true, false] rfl rfl (any_of HT_.out (by kernel_rfl)) (fun _ _ _ h => h) (Or.inl ⟨by rfl, ?_⟩) ?_ ?_
  rotate_left
  ·intro w'
   go_simp
   with_reducible rfl
  rotate_left
  ·simp only [Act.put, List.setIfInBounds_toArray, List.set_cons_zero, List.set_cons_succ, i64_w, i32_w]
   rfl
  refine pure_ (i := 21) (N := some 11) (v := ?_) (a' := ?_) #[true, true, true, true, true, true, true, true, true, true, true, true, true, true, true, true, true, true, true, true, true, true] rfl rfl (any_of HT_.out (by kernel_rfl)) (fun _ _ _ h => h) (Or.inl ⟨by rfl, ?_⟩) ?_ ?_
  rotate_left
  ·intro w'
   go_simp
   with_reducible rfl
  rotate_left
  ·simp only [Act.put, List.setIfInBounds_toArray, List.set_cons_zero, List.set_cons_succ, i64_w, i32_w]
   rfl
  refine done_ (done_of HT_.out (by kernel_rfl)) ?_
  try go_wp2
  go_roundg k6
  case measure => have := HK1.out; have := HK2.out; have := HJ13.out; have := HJ21.out; have := HJ26.out; have := HK6.out; omega
  case rel => exact ⟨(true), (wrap64 (x12_6 + 1)), (by first | rfl | (simp; done) | (simp [*]; done)), (by first | rfl | (simp; done) | (simp [*]; done)), H', ⟨by have := HK1.out; have := HK2.out; have := HJ13.out; have := HJ21.out; have := HJ26.out; have := HK6.out; omega⟩, ⟨by (with_reducible repeat (first | apply Kd.R_alloc | apply Kd.R_drewN | apply Kd.R_drew)); exact HO_8.out⟩, ⟨by repeat (first | (with_reducible first | exact HB.out | apply below_alloc | apply pw_below_drewN | apply below_drew1) | exact HB.out)⟩⟩
 replace c32 := Bool.eq_false_iff.mpr c32
 subst c32
 have H1 : (if 0 ≤ x12_6 then (if 0 ≤ x9_2 then (if x9_2 < (l0.length : Int) then (if (rd l1 x12_6) ≥ ((rd_T39 l0 x9_2).f1) then (ravelinref6_Pack.l2 k6 l0 l1 a2 x8_2 x9_2 x10_21 (decide ((rd l1 x12_6) < x10_21)) (wrap64 (x12_6 + 1))) else (ravelinref6_Pack.l2 k6 l0 l1 a2 x8_2 x9_2 x10_21 false (wrap64 (x12_6 + 1)))) else (none)) else (none)) else (none)) = some r := by rw [if_neg (show ¬ (false = true) by decide)] at H; exact H
 clear H
 have H := H1
 clear H1
 by_cases c34 : 0 ≤ x12_6
 rotate_left
 ·rw [if_neg c34] at H
  exact absurd H (by simp)
 rw [if_pos c34] at H
 have c34b0 : decide (0 ≤ x12_6) = true := decide_eq_true c34
 clear c34
 by_cases c35 : 0 ≤ x9_2
 rotate_left
 ·rw [if_neg c35] at H
  exact absurd H (by simp)
 rw [if_pos c35] at H
 have c35b0 : decide (0 ≤ x9_2) = true := decide_eq_true c35
 clear c35
 by_cases c36 : x9_2 < (l0.length : Int)
 rotate_left
 ·rw [if_neg c36] at H
  exact absurd H (by simp)
 rw [if_pos c36] at H
 have c36b0 : decide (x9_2 < (l0.length : Int)) = true := decide_eq_true c36
 clear c36
 by_cases c37 : (rd l1 x12_6) ≥ ((rd_T39 l0 x9_2).f1)
 rotate_left
 ·rw [if_neg c37] at H
  have c37b0 : decide (((rd_T39 l0 x9_2).f1) ≤ (rd l1 x12_6)) = false := decide_eq_false c37
  clear c37
  have H' := Aside0.mk H
  clear H
  try go_wp2
  have n0_ := Aside0.mk (Kd.R_drew HO_8.out)
  have n1_ := Aside0.mk (below_drew1 HB.out)
  clear HO_8
  clear HB
  have HO_8 := n0_
  have HB := n1_
  clear n0_ n1_
  have p244 : 0 ≤ (x12_6 : Int) := of_decide_eq_true (by first | (with_reducible assumption) | assumption)
  have q244 : x12_6 < (l1.length : Int) := of_decide_eq_true (by first | (with_reducible assumption) | assumption)
  obtain ⟨ad244, e244, hx244_0⟩ := Kd.at_int HR1.out x12_6 p244 q244
  have hw244_0 := hx244_0
  cases e244
  replace hx244_0 := (HB.out.cell (World.block_lt_of_cell? w _ hx244_0)).trans hx244_0
  replace p244 := eq_true p244
  replace q244 := eq_true q244
  have p245 : 0 ≤ (x9_2 : Int) := of_decide_eq_true (by first | (with_reducible assumption) | assumption)
  have q245 : x9_2 < (l0.length : Int) := of_decide_eq_true (by first | (with_reducible assumption) | assumption)
  obtain ⟨ad245, e245, hx245_0, hx245_1, hx245_2, hx245_3⟩ := at_T39 HR0.out x9_2 p245 q245
  have hw245_3 := hx245_3
  have hw245_2 := hx245_2
  have hw245_1 := hx245_1
  have hw245_0 := hx245_0
  cases e245
  replace hx245_0 := (HB.out.cell (World.block_lt_of_cell? w _ hx245_0)).trans hx245_0
  replace hx245_1 := (HB.out.cell (World.block_lt_of_cell? w _ hx245_1)).trans hx245_1
  replace hx245_2 := (HB.out.cell (World.block_lt_of_cell? w _ hx245_2)).trans hx245_2
  replace hx245_3 := (HB.out.cell (World.block_lt_of_cell? w _ hx245_3)).trans hx245_3
  replace p245 := eq_true p245
  replace q245 := eq_true q245
  refine start_ (n := 22) (S := fun w' => w'.cell? (ad244.add (x12_6).toNat) = some (.int .i64 (rd l1 x12_6)) ∧ w'.cell? (ad245.add ((x9_2).toNat * 4)) = some (.string ((rd_T39 l0 x9_2).f0)) ∧ w'.cell? ⟨(ad245.add ((x9_2).toNat * 4)).block, (ad245.add ((x9_2).toNat * 4)).off + 1, none⟩ = some (.int .i64 ((rd_T39 l0 x9_2).f1)) ∧ w'.cell? ⟨(ad245.add ((x9_2).toNat * 4)).block, (ad245.add ((x9_2).toNat * 4)).off + 2, none⟩ = some (.bool ((rd_T39 l0 x9_2).f2)) ∧ w'.cell? ⟨(ad245.add ((x9_2).toNat * 4)).block, (ad245.add ((x9_2).toNat * 4)).off + 3, none⟩ = some (.string ((rd_T39 l0 x9_2).f3))) (ds := []) #[false, false, false, false, false, false, false, false, false, false, false, false, false, false, false, false, false, false, false, false, false, false] (by kernel_rfl) rfl rfl ⟨((HB.out.cell (World.block_lt_of_cell? w _ hw244_0)).trans hw244_0), ((HB.out.cell (World.block_lt_of_cell? w _ hw245_0)).trans hw245_0), ((HB.out.cell (World.block_lt_of_cell? w _ hw245_1)).trans hw245_1), ((HB.out.cell (World.block_lt_of_cell? w _ hw245_2)).trans hw245_2), ((HB.out.cell (World.block_lt_of_cell? w _ hw245_3)).trans hw245_3)⟩ (fun hHeld => ?_); refine with_tabW ravelinref6_Pack.tab19 ravelinref6_Pack.bits19 (fun HT_ HW_ => ?_)
  generalize wr.drew = w39 at HO_8 HB hx244_0 hx245_0 hx245_1 hx245_2 hx245_3 hHeld ⊢
  refine pure_ (i := 0) (N := some 73) (v := ?_) (a' := ?_) #[true, false, false, false, false, false, false, false, false, false, false, false, false, false, false, false, false, false, false, false, false, false] rfl rfl (any_of HT_.out (by kernel_rfl)) (fun _ _ _ h => h) (Or.inl ⟨by rfl, ?_⟩) ?_ ?_
  rotate_left
  ·intro w'
   go_simp
   with_reducible rfl
  rotate_left
  ·simp only [Act.put, List.setIfInBounds_toArray, List.set_cons_zero, List.set_cons_succ, i64_w, i32_w]
   rfl
  refine pure_ (i := 1) (N := some 74) (v := ?_) (a' := ?_) #[true, true, false, false, false, false, false, false, false, false, false, false, false, false, false, false, false, false, false, false, false, false] rfl rfl (any_of HT_.out (by kernel_rfl)) (fun _ _ _ h => h) (Or.inl ⟨by rfl, ?_⟩) ?_ ?_
  rotate_left
  ·intro w'
   go_simp
   with_reducible rfl
  rotate_left
  ·simp only [Act.put, List.setIfInBounds_toArray, List.set_cons_zero, List.set_cons_succ, i64_w, i32_w]
   rfl
  refine pure_ (i := 2) (N := some 75) (v := ?_) (a' := ?_) #[true, true, true, false, false, false, false, false, false, false, false, false, false, false, false, false, false, false, false, false, false, false] rfl rfl (any_of HT_.out (by kernel_rfl)) (fun _ _ _ h => h) (Or.inl ⟨by rfl, ?_⟩) ?_ ?_
  rotate_left
  ·intro w'
   go_simp
   with_reducible rfl
  rotate_left
  ·simp only [Act.put, List.setIfInBounds_toArray, List.set_cons_zero, List.set_cons_succ, i64_w, i32_w]
   rfl
  refine pure_ (i := 3) (N := some 76) (v := ?_) (a' := ?_) #[true, true, true, true, false, false, false, false, false, false, false, false, false, false, false, false, false, false, false, false, false, false] rfl rfl (any_of HT_.out (by kernel_rfl)) (fun _ _ _ h => h) (Or.inl ⟨by rfl, ?_⟩) ?_ ?_
  rotate_left
  ·intro w'
   go_simp
   with_reducible rfl
  rotate_left
  ·simp only [Act.put, List.setIfInBounds_toArray, List.set_cons_zero, List.set_cons_succ, i64_w, i32_w]
   rfl
  refine pure_ (i := 4) (N := some 77) (v := ?_) (a' := ?_) #[true, true, true, true, true, false, false, false, false, false, false, false, false, false, false, false, false, false, false, false, false, false] rfl rfl (any_of HT_.out (by kernel_rfl)) (fun _ _ _ h => h) (Or.inl ⟨by rfl, ?_⟩) ?_ ?_
  rotate_left
  ·intro w'
   go_simp
   with_reducible rfl
  rotate_left
  ·simp only [Act.put, List.setIfInBounds_toArray, List.set_cons_zero, List.set_cons_succ, i64_w, i32_w]
   rfl
  refine pure_ (i := 6) (N := some 79) (v := ?_) (a' := ?_) #[true, true, true, true, true, false, true, false, false, false, false, false, false, false, false, false, false, false, false, false, false, false] rfl rfl (any_of HT_.out (by kernel_rfl)) (fun _ _ _ h => h) (Or.inl ⟨by rfl, ?_⟩) ?_ ?_
  rotate_left
  ·intro w'
   go_simp
   with_reducible rfl
  rotate_left
  ·simp only [Act.put, List.setIfInBounds_toArray, List.set_cons_zero, List.set_cons_succ, i64_w, i32_w]
   rfl
  refine pure_ (i := 7) (N := some 80) (v := ?_) (a' := ?_) #[true, true, true, true, true, false, true, true, false, false, false, false, false, false, false, false, false, false, false, false, false, false] rfl rfl (any_of HT_.out (by kernel_rfl)) (fun _ _ _ h => h) (Or.inl ⟨by rfl, ?_⟩) ?_ ?_
  rotate_left
  ·intro w'
   go_simp
   with_reducible rfl
  rotate_left
  ·simp only [Act.put, List.setIfInBounds_toArray, List.set_cons_zero, List.set_cons_succ, i64_w, i32_w]
   rfl
  refine pure_ (i := 8) (N := some 81) (v := ?_) (a' := ?_) #[true, true, true, true, true, false, true, true, true, false, false, false, false, false, false, false, false, false, false, false, false, false] rfl rfl (any_of HT_.out (by kernel_rfl)) (fun _ _ _ h => h) (Or.inl ⟨by rfl, ?_⟩) ?_ ?_
  rotate_left
  ·intro w'
   go_simp
   with_reducible rfl
  rotate_left
  ·simp only [Act.put, List.setIfInBounds_toArray, List.set_cons_zero, List.set_cons_succ, i64_w, i32_w]
   rfl
  refine pure_ (i := 9) (N := some 82) (v := ?_) (a' := ?_) #[true, true, true, true, true, false, true, true, true, true, false, false, false, false, false, false, false, false, false, false, false, false] rfl rfl (any_of HT_.out (by kernel_rfl)) (fun _ _ _ h => h) (Or.inl ⟨by rfl, ?_⟩) ?_ ?_
  rotate_left
  ·intro w'
   go_simp
   with_reducible rfl
  rotate_left
  ·simp only [Act.put, List.setIfInBounds_toArray, List.set_cons_zero, List.set_cons_succ, i64_w, i32_w]
   rfl
  refine take_ (i := 5) (N := some 78) (v := ?_) (a' := ?_) #[true, true, true, true, true, true, true, true, true, true, false, false, false, false, false, false, false, false, false, false, false, false] rfl rfl (take_ofW HT_.out HW_.out (by kernel_rfl)) (fun _ _ _ h => h) (Or.inl ⟨by rfl, ?_⟩) hHeld ?_ ?_
  rotate_left
  ·rintro w' ⟨s0, s1, s2, s3, s4⟩
   go_simp
   with_reducible rfl
  rotate_left
  ·simp only [Act.put, List.setIfInBounds_toArray, List.set_cons_zero, List.set_cons_succ, i64_w, i32_w]
   rfl
  refine take_ (i := 10) (N := some 83) (v := ?_) (a' := ?_) #[true, true, true, true, true, true, true, true, true, true, true, false, false, false, false, false, false, false, false, false, false, false] rfl rfl (take_ofW HT_.out HW_.out (by kernel_rfl)) (fun _ _ _ h => h) (Or.inl ⟨by rfl, ?_⟩) hHeld ?_ ?_
  rotate_left
  ·rintro w' ⟨s0, s1, s2, s3, s4⟩
   go_simp
   with_reducible rfl
  rotate_left
  ·simp only [Act.put, List.setIfInBounds_toArray, List.set_cons_zero, List.set_cons_succ, i64_w, i32_w]
   rfl
  refine pure_ (i := 11) (N := some 84) (v := ?_) (a' := ?_) #[true, true, true, true, true, true, true, true, true, true, true, true, false, false, false, false, false, false, false, false, false, false] rfl rfl (any_of HT_.out (by kernel_rfl)) (fun _ _ _ h => h) (Or.inl ⟨by rfl, ?_⟩) ?_ ?_
  rotate_left
  ·intro w'
   go_simp
   with_reducible rfl
  rotate_left
  ·simp only [Act.put, List.setIfInBounds_toArray, List.set_cons_zero, List.set_cons_succ, i64_w, i32_w]
   rfl
  refine pure_ (i := 12) (N := some 85) (v := ?_) (a' := ?_) #[true, true, true, true, true, true, true, true, true, true, true, true, true, false, false, false, false, false, false, false, false, false] rfl rfl (any_of HT_.out (by kernel_rfl)) (fun _ _ _ h => h) (Or.inl ⟨by rfl, ?_⟩) ?_ ?_
  rotate_left
  ·intro w'
   go_simp
   with_reducible rfl
  rotate_left
  ·simp only [Act.put, List.setIfInBounds_toArray, List.set_cons_zero, List.set_cons_succ, i64_w, i32_w]
   rfl
  refine pure_ (i := 13) (N := some 86) (v := undef) (a' := ?_) #[true, true, true, true, true, true, true, true, true, true, true, true, true, true, false, false, false, false, false, false, false, false] rfl rfl (any_of HT_.out (by kernel_rfl)) (fun _ _ _ h => h) (Or.inr ⟨by rfl, rfl⟩) ?_ ?_
  rotate_left
  ·simp only [Act.put, List.setIfInBounds_toArray, List.set_cons_zero, List.set_cons_succ, i64_w, i32_w]
   rfl
  refine pure_ (i := 14) (N := some 87) (v := undef) (a' := ?_) #[true, true, true, true, true, true, true, true, true, true, true, true, true, true, true, false, false, false, false, false, false, false] rfl rfl (any_of HT_.out (by kernel_rfl)) (fun _ _ _ h => h) (Or.inr ⟨by rfl, rfl⟩) ?_ ?_
  rotate_left
  ·simp only [Act.put, List.setIfInBounds_toArray, List.set_cons_zero, List.set_cons_succ, i64_w, i32_w]
   rfl
  refine pure_ (i := 15) (N := some 88) (v := undef) (a' := ?_) #[true, true, true, true, true, true, true, true, true, true, true, true, true, true, true, true, false, false, false, false, false, false] rfl rfl (any_of HT_.out (by kernel_rfl)) (fun _ _ _ h => h) (Or.inr ⟨by rfl, rfl⟩) ?_ ?_
  rotate_left
  ·simp only [Act.put, List.setIfInBounds_toArray, List.set_cons_zero, List.set_cons_succ, i64_w, i32_w]
   rfl
  refine pure_ (i := 16) (N := some 89) (v := undef) (a' := ?_) #[true, true, true, true, true, true, true, true, true, true, true, true, true, true, true, true, true, false, false, false, false, false] rfl rfl (any_of HT_.out (by kernel_rfl)) (fun _ _ _ h => h) (Or.inr ⟨by rfl, rfl⟩) ?_ ?_
  rotate_left
  ·simp only [Act.put, List.setIfInBounds_toArray, List.set_cons_zero, List.set_cons_succ, i64_w, i32_w]
   rfl
  refine pure_ (i := 17) (N := some 90) (v := undef) (a' := ?_) #[true, true, true, true, true, true, true, true, true, true, true, true, true, true, true, true, true, true, false, false, false, false] rfl rfl (any_of HT_.out (by kernel_rfl)) (fun _ _ _ h => h) (Or.inr ⟨by rfl, rfl⟩) ?_ ?_
  rotate_left
  ·simp only [Act.put, List.setIfInBounds_toArray, List.set_cons_zero, List.set_cons_succ, i64_w, i32_w]
   rfl
  refine pure_ (i := 18) (N := some 91) (v := undef) (a' := ?_) #[true, true, true, true, true, true, true, true, true, true, true, true, true, true, true, true, true, true, true, false, false, false] rfl rfl (any_of HT_.out (by kernel_rfl)) (fun _ _ _ h => h) (Or.inr ⟨by rfl, rfl⟩) ?_ ?_
  rotate_left
  ·simp only [Act.put, List.setIfInBounds_toArray, List.set_cons_zero, List.set_cons_succ, i64_w, i32_w]
   rfl
  refine pure_ (i := 19) (N := some 92) (v := ?_) (a' := ?_) #[true, true, true, true, true, true, true, true, true, true, true, true, true, true, true, true, true, true, true, true, false, false] rfl rfl (any_of HT_.out (by kernel_rfl)) (fun _ _ _ h => h) (Or.inl ⟨by rfl, ?_⟩) ?_ ?_
  rotate_left
  ·intro w'
   go_simp
   with_reducible rfl
  rotate_left
  ·simp only [Act.put, List.setIfInBounds_toArray, List.set_cons_zero, List.set_cons_succ, i64_w, i32_w]
   rfl
  refine pure_ (i := 20) (N := some 93) (v := ?_) (a' := ?_) #[true, true, true, true, true, true, true, true, true, true, true, true, true, true, true, true, true, true, true, true, true, false] rfl rfl (any_of HT_.out (by kernel_rfl)) (fun _ _ _ h => h) (Or.inl ⟨by rfl, ?_⟩) ?_ ?_
  rotate_left
  ·intro w'
   go_simp
   with_reducible rfl
  rotate_left
  ·simp only [Act.put, List.setIfInBounds_toArray, List.set_cons_zero, List.set_cons_succ, i64_w, i32_w]
   rfl
  refine pure_ (i := 21) (N := some 11) (v := ?_) (a' := ?_) #[true, true, true, true, true, true, true, true, true, true, true, true, true, true, true, true, true, true, true, true, true, true] rfl rfl (any_of HT_.out (by kernel_rfl)) (fun _ _ _ h => h) (Or.inl ⟨by rfl, ?_⟩) ?_ ?_
  rotate_left
  ·intro w'
   go_simp
   with_reducible rfl
  rotate_left
  ·simp only [Act.put, List.setIfInBounds_toArray, List.set_cons_zero, List.set_cons_succ, i64_w, i32_w]
   rfl
  refine done_ (done_of HT_.out (by kernel_rfl)) ?_
  try go_wp2
  go_roundg k6
  case measure => have := HK1.out; have := HK2.out; have := HJ13.out; have := HJ21.out; have := HJ26.out; have := HK6.out; omega
  case rel => exact ⟨(false), (wrap64 (x12_6 + 1)), (by first | rfl | (simp; done) | (simp [*]; done)), (by first | rfl | (simp; done) | (simp [*]; done)), H', ⟨by have := HK1.out; have := HK2.out; have := HJ13.out; have := HJ21.out; have := HJ26.out; have := HK6.out; omega⟩, ⟨by (with_reducible repeat (first | apply Kd.R_alloc | apply Kd.R_drewN | apply Kd.R_drew)); exact HO_8.out⟩, ⟨by repeat (first | (with_reducible first | exact HB.out | apply below_alloc | apply pw_below_drewN | apply below_drew1) | exact HB.out)⟩⟩
 rw [if_pos c37] at H
 have c37b0 : decide (((rd_T39 l0 x9_2).f1) ≤ (rd l1 x12_6)) = true := decide_eq_true c37
 clear c37
 have H' := Aside0.mk H
 clear H
 try go_wp2
 have n0_ := Aside0.mk (Kd.R_drew HO_8.out)
 have n1_ := Aside0.mk (below_drew1 HB.out)
 clear HO_8
 clear HB
 have HO_8 := n0_
 have HB := n1_
 clear n0_ n1_
 have p244 : 0 ≤ (x12_6 : Int) := of_decide_eq_true (by first | (with_reducible assumption) | assumption)
 have q244 : x12_6 < (l1.length : Int) := of_decide_eq_true (by first | (with_reducible assumption) | assumption)
 obtain ⟨ad244, e244, hx244_0⟩ := Kd.at_int HR1.out x12_6 p244 q244
 have hw244_0 := hx244_0
 cases e244
 replace hx244_0 := (HB.out.cell (World.block_lt_of_cell? w _ hx244_0)).trans hx244_0
 replace p244 := eq_true p244
 replace q244 := eq_true q244
 have p245 : 0 ≤ (x9_2 : Int) := of_decide_eq_true (by first | (with_reducible assumption) | assumption)
 have q245 : x9_2 < (l0.length : Int) := of_decide_eq_true (by first | (with_reducible assumption) | assumption)
 obtain ⟨ad245, e245, hx245_0, hx245_1, hx245_2, hx245_3⟩ := at_T39 HR0.out x9_2 p245 q245
 have hw245_3 := hx245_3
 have hw245_2 := hx245_2
 have hw245_1 := hx245_1
 have hw245_0 := hx245_0
 cases e245
 replace hx245_0 := (HB.out.cell (World.block_lt_of_cell? w _ hx245_0)).trans hx245_0
 replace hx245_1 := (HB.out.cell (World.block_lt_of_cell? w _ hx245_1)).trans hx245_1
 replace hx245_2 := (HB.out.cell (World.block_lt_of_cell? w _ hx245_2)).trans hx245_2
 replace hx245_3 := (HB.out.cell (World.block_lt_of_cell? w _ hx245_3)).trans hx245_3
 replace p245 := eq_true p245
 replace q245 := eq_true q245
 have p246 : 0 ≤ (x12_6 : Int) := of_decide_eq_true (by first | (with_reducible assumption) | assumption)
 have q246 : x12_6 < (l1.length : Int) := of_decide_eq_true (by first | (with_reducible assumption) | assumption)
 obtain ⟨ad246, e246, hx246_0⟩ := Kd.at_int HR1.out x12_6 p246 q246
 have hw246_0 := hx246_0
 obtain rfl : ad244 = ad246 := (by injection e246)
 replace hx246_0 := (HB.out.cell (World.block_lt_of_cell? w _ hx246_0)).trans hx246_0
 replace p246 := eq_true p246
 replace q246 := eq_true q246
 refine start_ (n := 22) (S := fun w' => w'.cell? (ad244.add (x12_6).toNat) = some (.int .i64 (rd l1 x12_6)) ∧ w'.cell? (ad245.add ((x9_2).toNat * 4)) = some (.string ((rd_T39 l0 x9_2).f0)) ∧ w'.cell? ⟨(ad245.add ((x9_2).toNat * 4)).block, (ad245.add ((x9_2).toNat * 4)).off + 1, none⟩ = some (.int .i64 ((rd_T39 l0 x9_2).f1)) ∧ w'.cell? ⟨(ad245.add ((x9_2).toNat * 4)).block, (ad245.add ((x9_2).toNat * 4)).off + 2, none⟩ = some (.bool ((rd_T39 l0 x9_2).f2)) ∧ w'.cell? ⟨(ad245.add ((x9_2).toNat * 4)).block, (ad245.add ((x9_2).toNat * 4)).off + 3, none⟩ = some (.string ((rd_T39 l0 x9_2).f3)) ∧ w'.cell? (ad244.add (x12_6).toNat) = some (.int .i64 (rd l1 x12_6))) (ds := []) #[false, false, false, false, false, false, false, false, false, false, false, false, false, false, false, false, false, false, false, false, false, false] (by kernel_rfl) rfl rfl ⟨((HB.out.cell (World.block_lt_of_cell? w _ hw244_0)).trans hw244_0), ((HB.out.cell (World.block_lt_of_cell? w _ hw245_0)).trans hw245_0), ((HB.out.cell (World.block_lt_of_cell? w _ hw245_1)).trans hw245_1), ((HB.out.cell (World.block_lt_of_cell? w _ hw245_2)).trans hw245_2), ((HB.out.cell (World.block_lt_of_cell? w _ hw245_3)).trans hw245_3), ((HB.out.cell (World.block_lt_of_cell? w _ hw246_0)).trans hw246_0)⟩ (fun hHeld => ?_); refine with_tabW ravelinref6_Pack.tab19 ravelinref6_Pack.bits19 (fun HT_ HW_ => ?_)
 generalize wr.drew = w38 at HO_8 HB hx244_0 hx245_0 hx245_1 hx245_2 hx245_3 hx246_0 hHeld ⊢
 refine pure_ (i := 0) (N := some 73) (v := ?_) (a' := ?_) #[true, false, false, false, false, false, false, false, false, false, false, false, false, false, false, false, false, false, false, false, false, false] rfl rfl (any_of HT_.out (by kernel_rfl)) (fun _ _ _ h => h) (Or.inl ⟨by rfl, ?_⟩) ?_ ?_
 rotate_left
 ·intro w'
  go_simp
  with_reducible rfl
 rotate_left
 ·simp only [Act.put, List.setIfInBounds_toArray, List.set_cons_zero, List.set_cons_succ, i64_w, i32_w]
  rfl
 refine pure_ (i := 1) (N := some 74) (v := ?_) (a' := ?_) #[true, true, false, false, false, false, false, false, false, false, false, false, false, false, false, false, false, false, false, false, false, false] rfl rfl (any_of HT_.out (by kernel_rfl)) (fun _ _ _ h => h) (Or.inl ⟨by rfl, ?_⟩) ?_ ?_
 rotate_left
 ·intro w'
  go_simp
  with_reducible rfl
 rotate_left
 ·simp only [Act.put, List.setIfInBounds_toArray, List.set_cons_zero, List.set_cons_succ, i64_w, i32_w]
  rfl
 refine pure_ (i := 2) (N := some 75) (v := ?_) (a' := ?_) #[true, true, true, false, false, false, false, false, false, false, false, false, false, false, false, false, false, false, false, false, false, false] rfl rfl (any_of HT_.out (by kernel_rfl)) (fun _ _ _ h => h) (Or.inl ⟨by rfl, ?_⟩) ?_ ?_
 rotate_left
 ·intro w'
  go_simp
  with_reducible rfl
 rotate_left
 ·simp only [Act.put, List.setIfInBounds_toArray, List.set_cons_zero, List.set_cons_succ, i64_w, i32_w]
  rfl
 refine pure_ (i := 3) (N := some 76) (v := ?_) (a' := ?_) #[true, true, true, true, false, false, false, false, false, false, false, false, false, false, false, false, false, false, false, false, false, false] rfl rfl (any_of HT_.out (by kernel_rfl)) (fun _ _ _ h => h) (Or.inl ⟨by rfl, ?_⟩) ?_ ?_
 rotate_left
 ·intro w'
  go_simp
  with_reducible rfl
 rotate_left
 ·simp only [Act.put, List.setIfInBounds_toArray, List.set_cons_zero, List.set_cons_succ, i64_w, i32_w]
  rfl
 refine pure_ (i := 4) (N := some 77) (v := ?_) (a' := ?_) #[true, true, true, true, true, false, false, false, false, false, false, false, false, false, false, false, false, false, false, false, false, false] rfl rfl (any_of HT_.out (by kernel_rfl)) (fun _ _ _ h => h) (Or.inl ⟨by rfl, ?_⟩) ?_ ?_
 rotate_left
 ·intro w'
  go_simp
  with_reducible rfl
 rotate_left
 ·simp only [Act.put, List.setIfInBounds_toArray, List.set_cons_zero, List.set_cons_succ, i64_w, i32_w]
  rfl
 refine pure_ (i := 6) (N := some 79) (v := ?_) (a' := ?_) #[true, true, true, true, true, false, true, false, false, false, false, false, false, false, false, false, false, false, false, false, false, false] rfl rfl (any_of HT_.out (by kernel_rfl)) (fun _ _ _ h => h) (Or.inl ⟨by rfl, ?_⟩) ?_ ?_
 rotate_left
 ·intro w'
  go_simp
  with_reducible rfl
 rotate_left
 ·simp only [Act.put, List.setIfInBounds_toArray, List.set_cons_zero, List.set_cons_succ, i64_w, i32_w]
  rfl
 refine pure_ (i := 7) (N := some 80) (v := ?_) (a' := ?_) #[true, true, true, true, true, false, true, true, false, false, false, false, false, false, false, false, false, false, false, false, false, false] rfl rfl (any_of HT_.out (by kernel_rfl)) (fun _ _ _ h => h) (Or.inl ⟨by rfl, ?_⟩) ?_ ?_
 rotate_left
 ·intro w'
  go_simp
  with_reducible rfl
 rotate_left
 ·simp only [Act.put, List.setIfInBounds_toArray, List.set_cons_zero, List.set_cons_succ, i64_w, i32_w]
  rfl
 refine pure_ (i := 8) (N := some 81) (v := ?_) (a' := ?_) #[true, true, true, true, true, false, true, true, true, false, false, false, false, false, false, false, false, false, false, false, false, false] rfl rfl (any_of HT_.out (by kernel_rfl)) (fun _ _ _ h => h) (Or.inl ⟨by rfl, ?_⟩) ?_ ?_
 rotate_left
 ·intro w'
  go_simp
  with_reducible rfl
 rotate_left
 ·simp only [Act.put, List.setIfInBounds_toArray, List.set_cons_zero, List.set_cons_succ, i64_w, i32_w]
  rfl
 refine pure_ (i := 9) (N := some 82) (v := ?_) (a' := ?_) #[true, true, true, true, true, false, true, true, true, true, false, false, false, false, false, false, false, false, false, false, false, false] rfl rfl (any_of HT_.out (by kernel_rfl)) (fun _ _ _ h => h) (Or.inl ⟨by rfl, ?_⟩) ?_ ?_
 rotate_left
 ·intro w'
  go_simp
  with_reducible rfl
 rotate_left
 ·simp only [Act.put, List.setIfInBounds_toArray, List.set_cons_zero, List.set_cons_succ, i64_w, i32_w]
  rfl
 refine take_ (i := 5) (N := some 78) (v := ?_) (a' := ?_) #[true, true, true, true, true, true, true, true, true, true, false, false, false, false, false, false, false, false, false, false, false, false] rfl rfl (take_ofW HT_.out HW_.out (by kernel_rfl)) (fun _ _ _ h => h) (Or.inl ⟨by rfl, ?_⟩) hHeld ?_ ?_
 rotate_left
 ·rintro w' ⟨s0, s1, s2, s3, s4, s5⟩
  go_simp
  with_reducible rfl
 rotate_left
 ·simp only [Act.put, List.setIfInBounds_toArray, List.set_cons_zero, List.set_cons_succ, i64_w, i32_w]
  rfl
 refine take_ (i := 10) (N := some 83) (v := ?_) (a' := ?_) #[true, true, true, true, true, true, true, true, true, true, true, false, false, false, false, false, false, false, false, false, false, false] rfl rfl (take_ofW HT_.out HW_.out (by kernel_rfl)) (fun _ _ _ h => h) (Or.inl ⟨by rfl, ?_⟩) hHeld ?_ ?_
 rotate_left
 ·rintro w' ⟨s0, s1, s2, s3, s4, s5⟩
  go_simp
  with_reducible rfl
 rotate_left
 ·simp only [Act.put, List.setIfInBounds_toArray, List.set_cons_zero, List.set_cons_succ, i64_w, i32_w]
  rfl
 refine pure_ (i := 11) (N := some 84) (v := ?_) (a' := ?_) #[true, true, true, true, true, true, true, true, true, true, true, true, false, false, false, false, false, false, false, false, false, false] rfl rfl (any_of HT_.out (by kernel_rfl)) (fun _ _ _ h => h) (Or.inl ⟨by rfl, ?_⟩) ?_ ?_
 rotate_left
 ·intro w'
  go_simp
  with_reducible rfl
 rotate_left
 ·simp only [Act.put, List.setIfInBounds_toArray, List.set_cons_zero, List.set_cons_succ, i64_w, i32_w]
  rfl
 refine pure_ (i := 12) (N := some 85) (v := ?_) (a' := ?_) #[true, true, true, true, true, true, true, true, true, true, true, true, true, false, false, false, false, false, false, false, false, false] rfl rfl (any_of HT_.out (by kernel_rfl)) (fun _ _ _ h => h) (Or.inl ⟨by rfl, ?_⟩) ?_ ?_
 rotate_left
 ·intro w'
  go_simp
  with_reducible rfl
 rotate_left
 ·simp only [Act.put, List.setIfInBounds_toArray, List.set_cons_zero, List.set_cons_succ, i64_w, i32_w]
  rfl
 refine pure_ (i := 13) (N := some 86) (v := ?_) (a' := ?_) #[true, true, true, true, true, true, true, true, true, true, true, true, true, true, false, false, false, false, false, false, false, false] rfl rfl (any_of HT_.out (by kernel_rfl)) (fun _ _ _ h => h) (Or.inl ⟨by rfl, ?_⟩) ?_ ?_
 rotate_left
 ·intro w'
  go_simp
  with_reducible rfl
 rotate_left
 ·simp only [Act.put, List.setIfInBounds_toArray, List.set_cons_zero, List.set_cons_succ, i64_w, i32_w]
  rfl
 refine pure_ (i := 14) (N := some 87) (v := ?_) (a' := ?_) #[true, true, true, true, true, true, true, true, true, true, true, true, true, true, true, false, false, false, false, false, false, false] rfl rfl (any_of HT_.out (by kernel_rfl)) (fun _ _ _ h => h) (Or.inl ⟨by rfl, ?_⟩) ?_ ?_
 rotate_left
 ·intro w'
  go_simp
  with_reducible rfl
 rotate_left
 ·simp only [Act.put, List.setIfInBounds_toArray, List.set_cons_zero, List.set_cons_succ, i64_w, i32_w]
  rfl
 refine pure_ (i := 15) (N := some 88) (v := ?_) (a' := ?_) #[true, true, true, true, true, true, true, true, true, true, true, true, true, true, true, true, false, false, false, false, false, false] rfl rfl (any_of HT_.out (by kernel_rfl)) (fun _ _ _ h => h) (Or.inl ⟨by rfl, ?_⟩) ?_ ?_
 rotate_left
 ·intro w'
  go_simp
  with_reducible rfl
 rotate_left
 ·simp only [Act.put, List.setIfInBounds_toArray, List.set_cons_zero, List.set_cons_succ, i64_w, i32_w]
  rfl
 refine pure_ (i := 17) (N := some 90) (v := ?_) (a' := ?_) #[true, true, true, true, true, true, true, true, true, true, true, true, true, true, true, true, false, true, false, false, false, false] rfl rfl (any_of HT_.out (by kernel_rfl)) (fun _ _ _ h => h) (Or.inl ⟨by rfl, ?_⟩) ?_ ?_
 rotate_left
 ·intro w'
  go_simp
  with_reducible rfl
 rotate_left
 ·simp only [Act.put, List.setIfInBounds_toArray, List.set_cons_zero, List.set_cons_succ, i64_w, i32_w]
  rfl
 refine take_ (i := 16) (N := some 89) (v := ?_) (a' := ?_) #[true, true, true, true, true, true, true, true, true, true, true, true, true, true, true, true, true, true, false, false, false, false] rfl rfl (take_ofW HT_.out HW_.out (by kernel_rfl)) (fun _ _ _ h => h) (Or.inl ⟨by rfl, ?_⟩) hHeld ?_ ?_
 rotate_left
 ·rintro w' ⟨s0, s1, s2, s3, s4, s5⟩
  go_simp
  with_reducible rfl
 rotate_left
 ·simp only [Act.put, List.setIfInBounds_toArray, List.set_cons_zero, List.set_cons_succ, i64_w, i32_w]
  rfl
 refine pure_ (i := 18) (N := some 91) (v := ?_) (a' := ?_) #[true, true, true, true, true, true, true, true, true, true, true, true, true, true, true, true, true, true, true, false, false, false] rfl rfl (any_of HT_.out (by kernel_rfl)) (fun _ _ _ h => h) (Or.inl ⟨by rfl, ?_⟩) ?_ ?_
 rotate_left
 ·intro w'
  go_simp
  with_reducible rfl
 rotate_left
 ·simp only [Act.put, List.setIfInBounds_toArray, List.set_cons_zero, List.set_cons_succ, i64_w, i32_w]
  rfl
 refine pure_ (i := 19) (N := some 92) (v := ?_) (a' := ?_) #[true, true, true, true, true, true, true, true, true, true, true, true, true, true, true, true, true, true, true, true, false, false] rfl rfl (any_of HT_.out (by kernel_rfl)) (fun _ _ _ h => h) (Or.inl ⟨by rfl, ?_⟩) ?_ ?_
 rotate_left
 ·intro w'
  go_simp
  with_reducible rfl
 rotate_left
 ·simp only [Act.put, List.setIfInBounds_toArray, List.set_cons_zero, List.set_cons_succ, i64_w, i32_w]
  rfl
 refine pure_ (i := 20) (N := some 93) (v := ?_) (a' := ?_) #[true, true, true, true, true, true, true, true, true, true, true, true, true, true, true, true, true, true, true, true, true, false] rfl rfl (any_of HT_.out (by kernel_rfl)) (fun _ _ _ h => h) (Or.inl ⟨by rfl, ?_⟩) ?_ ?_
 rotate_left
 ·intro w'
  go_simp
  with_reducible rfl
 rotate_left
 ·simp only [Act.put, List.setIfInBounds_toArray, List.set_cons_zero, List.set_cons_succ, i64_w, i32_w]
  rfl
 refine pure_ (i := 21) (N := some 11) (v := ?_) (a' := ?_) #[true, true, true, true, true, true, true, true, true, true, true, true, true, true, true, true, true, true, true, true, true, true] rfl rfl (any_of HT_.out (by kernel_rfl)) (fun _ _ _ h => h) (Or.inl ⟨by rfl, ?_⟩) ?_ ?_
 rotate_left
 ·intro w'
  go_simp
  with_reducible rfl
 rotate_left
 ·simp only [Act.put, List.setIfInBounds_toArray, List.set_cons_zero, List.set_cons_succ, i64_w, i32_w]
  rfl
 refine done_ (done_of HT_.out (by kernel_rfl)) ?_
 try go_wp2
 go_roundg k6
 case measure => have := HK1.out; have := HK2.out; have := HJ13.out; have := HJ21.out; have := HJ26.out; have := HK6.out; omega
 case rel => exact ⟨(decide ((rd l1 x12_6) < x10_21)), (wrap64 (x12_6 + 1)), (by first | rfl | (simp; done) | (simp [*]; done)), (by first | rfl | (simp; done) | (simp [*]; done)), H', ⟨by have := HK1.out; have := HK2.out; have := HJ13.out; have := HJ21.out; have := HJ26.out; have := HK6.out; omega⟩, ⟨by (with_reducible repeat (first | apply Kd.R_alloc | apply Kd.R_drewN | apply Kd.R_drew)); exact HO_8.out⟩, ⟨by repeat (first | (with_reducible first | exact HB.out | apply below_alloc | apply pw_below_drewN | apply below_drew1) | exact HB.out)⟩⟩

end Go.Proofs.Ytjcpdbekdimceaa.P
