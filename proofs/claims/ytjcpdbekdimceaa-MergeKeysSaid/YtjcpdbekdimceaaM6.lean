-- Printed by a changed copy of the kit's printer (wip/tools/ext.py); labels and more
import Derived.Test.YtjcpdbekdimceaaM0
import Derived.Test.YtjcpdbekdimceaaM2
import Derived.Test.YtjcpdbekdimceaaM3
import Derived.Test.YtjcpdbekdimceaaM5
namespace Go.Proofs.Ytjcpdbekdimceaa.P
open Go.RowKit Go.Proofs.YtjcpdbekdimceaaW.PrintWords Go.Proofs.YtjcpdbekdimceaaW.PrintLast Go.Proofs.YtjcpdbekdimceaaW.PrintMore
attribute [local go_sem] max2_int min2_int max_two min_two max_three min_three max_four min_four   -- for this text's walks alone
attribute [local go_sem high] string_leq string_geq string_gtr
set_option linter.unusedVariables false
set_option linter.unusedSimpArgs false

attribute [local go_sem high] eqA39
/-! ### ravelinlaw11_known: function 8 -/
def ravelinlaw11_known.f (k : Nat)  : Option (Bool) := (some (([(⟨(⟨#[97]⟩ : ByteArray), 3, false, (⟨#[122]⟩ : ByteArray)⟩ : S39), (⟨(⟨#[97]⟩ : ByteArray), 1, false, (⟨#[120]⟩ : ByteArray)⟩ : S39)] : List (S39)) : List (S39))).bind fun y126 => ((some (([(⟨(⟨#[97]⟩ : ByteArray), 2, true, (⟨#[]⟩ : ByteArray)⟩ : S39), (⟨(⟨#[98]⟩ : ByteArray), 1, true, (⟨#[]⟩ : ByteArray)⟩ : S39)] : List (S39)) : List (S39))).bind fun y129 => ((merge_Rows.f k (([y126, y129] : List (List (S39))))).bind fun bt135 => (if 1 < (y126.length : Int) then (if 0 < (y126.length : Int) then ((merge_Rows.f k (([(([(⟨(rd_T39 y126 1).f0, (rd_T39 y126 1).f1, (rd_T39 y126 1).f2, (rd_T39 y126 1).f3⟩ : S39), (⟨(rd_T39 y126 0).f0, (rd_T39 y126 0).f1, (rd_T39 y126 0).f2, (rd_T39 y126 0).f3⟩ : S39)] : List (S39)))] : List (List (S39))))).bind fun bt147 => ((merge_Visible.f k bt135.1 2).bind fun t151 => ((merge_Visible.f k bt135.1 3).bind fun t154 => ((merge_Pack.f k bt135.1 (([2] : List Int)) false).bind fun t160 => ((merge_Pack.f k bt135.1 (([2] : List Int)) true).bind fun t166 => (if bt135.2 = 0 then (if (bt135.1.length : Int) = 4 then (if 1 < (bt135.1.length : Int) then (if 0 < (y129.length : Int) then (if ((((rd_T39 bt135.1 1).f0).toList) == (((rd_T39 y129 0).f0).toList) && (((rd_T39 bt135.1 1).f1) == ((rd_T39 y129 0).f1) && (((rd_T39 bt135.1 1).f2) == ((rd_T39 y129 0).f2) && ((((rd_T39 bt135.1 1).f3).toList) == (((rd_T39 y129 0).f3).toList))))) = true then (if bt147.2 = 16 then (if (t151.length : Int) = 0 then (if (t154.length : Int) = 1 then (if (t160.length : Int) = 3 then (some ((t166.length : Int) == 1)) else (some false)) else (some false)) else (some false)) else (some false)) else (some false)) else (none)) else (none)) else (some false)) else (some false))))))) else (none)) else (none))))
theorem ravelinlaw11_known.mono : ∀ k, LeO (ravelinlaw11_known.f k ) (ravelinlaw11_known.f (k + 1) ) := by
  intro  k
  unfold ravelinlaw11_known.f
  repeat' first
      | (with_reducible exact merge_Pack.mono _ _ _ _)
      | (with_reducible exact merge_Rows.mono _ _)
      | (with_reducible exact merge_Visible.mono _ _ _)
      | (with_reducible exact LeO.refl _)
      | (with_reducible exact LeO.none _)
      | (with_reducible refine LeO.ite ?_ ?_)
      | (with_reducible refine LeO.bind ?_ (fun _ => ?_))
      | exact merge_Pack.mono _ _ _ _
      | exact merge_Rows.mono _ _
      | exact merge_Visible.mono _ _ _
      | exact LeO.none _
      | refine LeO.ite ?_ ?_
      | refine LeO.bind ?_ (fun _ => ?_)
def ravelinlaw11_known.T4 : Bool × List (List Nat × List Nat) := (true, [([], []), ([0], [0]), ([1], [1]), ([], []), ([3], [3]), ([4], [4]), ([2, 5], [2, 5]), ([6], [6]), ([7], [7]), ([8], [8]), ([9], [9]), ([9], [9]), ([10, 8, 0, 1, 2, 3, 4, 5, 6, 7, 8, 9, 10], [10]), ([11, 12, 0, 1, 2, 3, 4, 5, 6, 7, 8, 9, 10, 11, 12], [11])])
def ravelinlaw11_known.B4 : List Nat := [0, 1, 3, 0, 8, 24, 63, 127, 255, 511, 1023, 1023, 2047, 8191]
theorem ravelinlaw11_known.tab4 : rtab .any (opsOf Try.f8 4) = ravelinlaw11_known.T4 := by kernel_rfl
theorem ravelinlaw11_known.bits4 : waitsOk ravelinlaw11_known.T4.2 ravelinlaw11_known.B4 = true := by kernel_rfl
def ravelinlaw11_known.T9 : Bool × List (List Nat × List Nat) := (true, [([], []), ([0], [0]), ([1], [1]), ([2], [2]), ([3, 2], [2, 3]), ([4, 2], [2, 4]), ([2, 5], [2, 5]), ([6, 2], [6]), ([7], [7]), ([8, 7], [7, 8]), ([9, 7], [7, 9]), ([7], [7]), ([11, 7], [7, 11]), ([12, 7], [7, 12]), ([10, 13, 7], [7, 10, 13]), ([7, 14], [7, 14]), ([15, 7], [15]), ([16], [16]), ([17, 16], [16, 17]), ([16, 18], [16, 18]), ([19, 16], [19]), ([20], [20]), ([21, 20], [20, 21]), ([22, 20], [20, 22]), ([20, 23], [20, 23]), ([24, 20], [24]), ([25], [25]), ([26, 25], [25, 26]), ([27, 25], [25, 27]), ([25, 28], [25, 28]), ([29, 25], [29]), ([30], [30]), ([31, 30], [30, 31]), ([32, 30], [30, 32]), ([30, 33], [30, 33]), ([34, 30], [34]), ([35], [35]), ([36, 35], [35, 36]), ([37, 35], [35, 37]), ([35, 38], [35, 38]), ([39, 35, 0, 1, 2, 3, 4, 5, 6, 7, 8, 9, 10, 11, 12, 13, 14, 15, 16, 17, 18, 19, 20, 21, 22, 23, 24, 25, 26, 27, 28, 29, 30, 31, 32, 33, 34, 35, 36, 37, 38, 39], [39])])
def ravelinlaw11_known.B9 : List Nat := [0, 1, 3, 7, 15, 31, 63, 127, 255, 511, 1023, 255, 2303, 6399, 16383, 32767, 65535, 131071, 262143, 524287, 1048575, 2097151, 4194303, 8388607, 16777215, 33554431, 67108863, 134217727, 268435455, 536870911, 1073741823, 2147483647, 4294967295, 8589934591, 17179869183, 34359738367, 68719476735, 137438953471, 274877906943, 549755813887, 1099511627775]
theorem ravelinlaw11_known.tab9 : rtab .any (opsOf Try.f8 9) = ravelinlaw11_known.T9 := by kernel_rfl
theorem ravelinlaw11_known.bits9 : waitsOk ravelinlaw11_known.T9.2 ravelinlaw11_known.B9 = true := by kernel_rfl
set_option maxHeartbeats 8000000 in
set_option maxRecDepth 100000 in
theorem ravelinlaw11_known.calls (k : Nat)  (r : Bool) (w : World) (h : ravelinlaw11_known.f k  = some r) (hr_ : r = true) :
    Calls Try.prog 8 #[] w fun e w' => e = .returned (.bool r) ∧ Below w.heap.size w w' := by
  have hu39 := Try.underlying39
  have HB := Aside0.mk (Below.refl w.heap.size w)
  have H : ((some (([(⟨(⟨#[97]⟩ : ByteArray), 3, false, (⟨#[122]⟩ : ByteArray)⟩ : S39), (⟨(⟨#[97]⟩ : ByteArray), 1, false, (⟨#[120]⟩ : ByteArray)⟩ : S39)] : List (S39)) : List (S39))).bind fun y126 => ((some (([(⟨(⟨#[97]⟩ : ByteArray), 2, true, (⟨#[]⟩ : ByteArray)⟩ : S39), (⟨(⟨#[98]⟩ : ByteArray), 1, true, (⟨#[]⟩ : ByteArray)⟩ : S39)] : List (S39)) : List (S39))).bind fun y129 => ((merge_Rows.f k (([y126, y129] : List (List (S39))))).bind fun bt135 => (if 1 < (y126.length : Int) then (if 0 < (y126.length : Int) then ((merge_Rows.f k (([(([(⟨(rd_T39 y126 1).f0, (rd_T39 y126 1).f1, (rd_T39 y126 1).f2, (rd_T39 y126 1).f3⟩ : S39), (⟨(rd_T39 y126 0).f0, (rd_T39 y126 0).f1, (rd_T39 y126 0).f2, (rd_T39 y126 0).f3⟩ : S39)] : List (S39)))] : List (List (S39))))).bind fun bt147 => ((merge_Visible.f k bt135.1 2).bind fun t151 => ((merge_Visible.f k bt135.1 3).bind fun t154 => ((merge_Pack.f k bt135.1 (([2] : List Int)) false).bind fun t160 => ((merge_Pack.f k bt135.1 (([2] : List Int)) true).bind fun t166 => (if bt135.2 = 0 then (if (bt135.1.length : Int) = 4 then (if 1 < (bt135.1.length : Int) then (if 0 < (y129.length : Int) then (if ((((rd_T39 bt135.1 1).f0).toList) == (((rd_T39 y129 0).f0).toList) && (((rd_T39 bt135.1 1).f1) == ((rd_T39 y129 0).f1) && (((rd_T39 bt135.1 1).f2) == ((rd_T39 y129 0).f2) && ((((rd_T39 bt135.1 1).f3).toList) == (((rd_T39 y129 0).f3).toList))))) = true then (if bt147.2 = 16 then (if (t151.length : Int) = 0 then (if (t154.length : Int) = 1 then (if (t160.length : Int) = 3 then (some ((t166.length : Int) == 1)) else (some false)) else (some false)) else (some false)) else (some false)) else (some false)) else (none)) else (none)) else (some false)) else (some false))))))) else (none)) else (none))))) = some r := h
  clear h
  have HR_ := Aside0.mk hr_
  clear hr_
  obtain ⟨y126, hy126⟩ : ∃ y_ : List (S39), y_ = (([(⟨(⟨#[97]⟩ : ByteArray), 3, false, (⟨#[122]⟩ : ByteArray)⟩ : S39), (⟨(⟨#[97]⟩ : ByteArray), 1, false, (⟨#[120]⟩ : ByteArray)⟩ : S39)] : List (S39))) := ⟨_, rfl⟩
  replace H : ((some (([(⟨(⟨#[97]⟩ : ByteArray), 2, true, (⟨#[]⟩ : ByteArray)⟩ : S39), (⟨(⟨#[98]⟩ : ByteArray), 1, true, (⟨#[]⟩ : ByteArray)⟩ : S39)] : List (S39)) : List (S39))).bind fun y129 => ((merge_Rows.f k (([y126, y129] : List (List (S39))))).bind fun bt135 => (if 1 < (y126.length : Int) then (if 0 < (y126.length : Int) then ((merge_Rows.f k (([(([(⟨(rd_T39 y126 1).f0, (rd_T39 y126 1).f1, (rd_T39 y126 1).f2, (rd_T39 y126 1).f3⟩ : S39), (⟨(rd_T39 y126 0).f0, (rd_T39 y126 0).f1, (rd_T39 y126 0).f2, (rd_T39 y126 0).f3⟩ : S39)] : List (S39)))] : List (List (S39))))).bind fun bt147 => ((merge_Visible.f k bt135.1 2).bind fun t151 => ((merge_Visible.f k bt135.1 3).bind fun t154 => ((merge_Pack.f k bt135.1 (([2] : List Int)) false).bind fun t160 => ((merge_Pack.f k bt135.1 (([2] : List Int)) true).bind fun t166 => (if bt135.2 = 0 then (if (bt135.1.length : Int) = 4 then (if 1 < (bt135.1.length : Int) then (if 0 < (y129.length : Int) then (if ((((rd_T39 bt135.1 1).f0).toList) == (((rd_T39 y129 0).f0).toList) && (((rd_T39 bt135.1 1).f1) == ((rd_T39 y129 0).f1) && (((rd_T39 bt135.1 1).f2) == ((rd_T39 y129 0).f2) && ((((rd_T39 bt135.1 1).f3).toList) == (((rd_T39 y129 0).f3).toList))))) = true then (if bt147.2 = 16 then (if (t151.length : Int) = 0 then (if (t154.length : Int) = 1 then (if (t160.length : Int) = 3 then (some ((t166.length : Int) == 1)) else (some false)) else (some false)) else (some false)) else (some false)) else (some false)) else (none)) else (none)) else (some false)) else (some false))))))) else (none)) else (none)))) = some r := by first | (rw [hy126]; with_reducible exact H) | (have H2_ := (Option.bind_some _ _).symm.trans H; rw [hy126]; with_reducible exact H2_) | (have H2_ := (Option.bind_some _ _).symm.trans H; with_reducible exact H2_) | with_reducible exact H | (rw [hy126]; exact H) | exact H
  have Ny126 := Aside0.mk hy126
  clear hy126
  obtain ⟨y129, hy129⟩ : ∃ y_ : List (S39), y_ = (([(⟨(⟨#[97]⟩ : ByteArray), 2, true, (⟨#[]⟩ : ByteArray)⟩ : S39), (⟨(⟨#[98]⟩ : ByteArray), 1, true, (⟨#[]⟩ : ByteArray)⟩ : S39)] : List (S39))) := ⟨_, rfl⟩
  replace H : ((merge_Rows.f k (([y126, y129] : List (List (S39))))).bind fun bt135 => (if 1 < (y126.length : Int) then (if 0 < (y126.length : Int) then ((merge_Rows.f k (([(([(⟨(rd_T39 y126 1).f0, (rd_T39 y126 1).f1, (rd_T39 y126 1).f2, (rd_T39 y126 1).f3⟩ : S39), (⟨(rd_T39 y126 0).f0, (rd_T39 y126 0).f1, (rd_T39 y126 0).f2, (rd_T39 y126 0).f3⟩ : S39)] : List (S39)))] : List (List (S39))))).bind fun bt147 => ((merge_Visible.f k bt135.1 2).bind fun t151 => ((merge_Visible.f k bt135.1 3).bind fun t154 => ((merge_Pack.f k bt135.1 (([2] : List Int)) false).bind fun t160 => ((merge_Pack.f k bt135.1 (([2] : List Int)) true).bind fun t166 => (if bt135.2 = 0 then (if (bt135.1.length : Int) = 4 then (if 1 < (bt135.1.length : Int) then (if 0 < (y129.length : Int) then (if ((((rd_T39 bt135.1 1).f0).toList) == (((rd_T39 y129 0).f0).toList) && (((rd_T39 bt135.1 1).f1) == ((rd_T39 y129 0).f1) && (((rd_T39 bt135.1 1).f2) == ((rd_T39 y129 0).f2) && ((((rd_T39 bt135.1 1).f3).toList) == (((rd_T39 y129 0).f3).toList))))) = true then (if bt147.2 = 16 then (if (t151.length : Int) = 0 then (if (t154.length : Int) = 1 then (if (t160.length : Int) = 3 then (some ((t166.length : Int) == 1)) else (some false)) else (some false)) else (some false)) else (some false)) else (some false)) else (none)) else (none)) else (some false)) else (some false))))))) else (none)) else (none))) = some r := by first | (rw [hy129]; with_reducible exact H) | (have H2_ := (Option.bind_some _ _).symm.trans H; rw [hy129]; with_reducible exact H2_) | (have H2_ := (Option.bind_some _ _).symm.trans H; with_reducible exact H2_) | with_reducible exact H | (rw [hy129]; exact H) | exact H
  have Ny129 := Aside0.mk hy129
  clear hy129
  obtain ⟨y132, hy132⟩ : ∃ y_ : List (List (S39)), y_ = (([y126, y129] : List (List (S39)))) := ⟨_, rfl⟩
  replace H : ((merge_Rows.f k y132).bind fun bt135 => (if 1 < (y126.length : Int) then (if 0 < (y126.length : Int) then ((merge_Rows.f k (([(([(⟨(rd_T39 y126 1).f0, (rd_T39 y126 1).f1, (rd_T39 y126 1).f2, (rd_T39 y126 1).f3⟩ : S39), (⟨(rd_T39 y126 0).f0, (rd_T39 y126 0).f1, (rd_T39 y126 0).f2, (rd_T39 y126 0).f3⟩ : S39)] : List (S39)))] : List (List (S39))))).bind fun bt147 => ((merge_Visible.f k bt135.1 2).bind fun t151 => ((merge_Visible.f k bt135.1 3).bind fun t154 => ((merge_Pack.f k bt135.1 (([2] : List Int)) false).bind fun t160 => ((merge_Pack.f k bt135.1 (([2] : List Int)) true).bind fun t166 => (if bt135.2 = 0 then (if (bt135.1.length : Int) = 4 then (if 1 < (bt135.1.length : Int) then (if 0 < (y129.length : Int) then (if ((((rd_T39 bt135.1 1).f0).toList) == (((rd_T39 y129 0).f0).toList) && (((rd_T39 bt135.1 1).f1) == ((rd_T39 y129 0).f1) && (((rd_T39 bt135.1 1).f2) == ((rd_T39 y129 0).f2) && ((((rd_T39 bt135.1 1).f3).toList) == (((rd_T39 y129 0).f3).toList))))) = true then (if bt147.2 = 16 then (if (t151.length : Int) = 0 then (if (t154.length : Int) = 1 then (if (t160.length : Int) = 3 then (some ((t166.length : Int) == 1)) else (some false)) else (some false)) else (some false)) else (some false)) else (some false)) else (none)) else (none)) else (some false)) else (some false))))))) else (none)) else (none))) = some r := by first | (rw [hy132]; with_reducible exact H) | (have H2_ := (Option.bind_some _ _).symm.trans H; rw [hy132]; with_reducible exact H2_) | (have H2_ := (Option.bind_some _ _).symm.trans H; with_reducible exact H2_) | with_reducible exact H | (rw [hy132]; exact H) | exact H
  have Ny132 := Aside0.mk hy132
  clear hy132
  replace H := Option.bind_eq_some_iff.mp H
  obtain ⟨⟨t135, t136⟩, A10, H⟩ := H
  replace H : (if 1 < (y126.length : Int) then (if 0 < (y126.length : Int) then ((merge_Rows.f k (([(([(⟨(rd_T39 y126 1).f0, (rd_T39 y126 1).f1, (rd_T39 y126 1).f2, (rd_T39 y126 1).f3⟩ : S39), (⟨(rd_T39 y126 0).f0, (rd_T39 y126 0).f1, (rd_T39 y126 0).f2, (rd_T39 y126 0).f3⟩ : S39)] : List (S39)))] : List (List (S39))))).bind fun bt147 => ((merge_Visible.f k t135 2).bind fun t151 => ((merge_Visible.f k t135 3).bind fun t154 => ((merge_Pack.f k t135 (([2] : List Int)) false).bind fun t160 => ((merge_Pack.f k t135 (([2] : List Int)) true).bind fun t166 => (if t136 = 0 then (if (t135.length : Int) = 4 then (if 1 < (t135.length : Int) then (if 0 < (y129.length : Int) then (if ((((rd_T39 t135 1).f0).toList) == (((rd_T39 y129 0).f0).toList) && (((rd_T39 t135 1).f1) == ((rd_T39 y129 0).f1) && (((rd_T39 t135 1).f2) == ((rd_T39 y129 0).f2) && ((((rd_T39 t135 1).f3).toList) == (((rd_T39 y129 0).f3).toList))))) = true then (if bt147.2 = 16 then (if (t151.length : Int) = 0 then (if (t154.length : Int) = 1 then (if (t160.length : Int) = 3 then (some ((t166.length : Int) == 1)) else (some false)) else (some false)) else (some false)) else (some false)) else (some false)) else (none)) else (none)) else (some false)) else (some false))))))) else (none)) else (none)) = some r := H
  have A1 := Aside0.mk A10
  clear A10
  by_cases c2 : 1 < (y126.length : Int)
  rotate_left
  · rw [if_neg c2] at H
    exact absurd H (by simp)
  rw [if_pos c2] at H
  have c2b0 : decide (1 < (y126.length : Int)) = true := decide_eq_true c2
  have c2b1 : decide (1 < y126.length) = true := decide_eq_true (by omega)
  clear c2
  by_cases c3 : 0 < (y126.length : Int)
  rotate_left
  · rw [if_neg c3] at H
    exact absurd H (by simp)
  rw [if_pos c3] at H
  have c3b0 : decide (0 < (y126.length : Int)) = true := decide_eq_true c3
  have c3b1 : decide (0 < y126.length) = true := decide_eq_true (by omega)
  clear c3
  obtain ⟨y141, hy141⟩ : ∃ y_ : List (S39), y_ = (([(⟨(rd_T39 y126 1).f0, (rd_T39 y126 1).f1, (rd_T39 y126 1).f2, (rd_T39 y126 1).f3⟩ : S39), (⟨(rd_T39 y126 0).f0, (rd_T39 y126 0).f1, (rd_T39 y126 0).f2, (rd_T39 y126 0).f3⟩ : S39)] : List (S39))) := ⟨_, rfl⟩
  replace H : ((merge_Rows.f k (([y141] : List (List (S39))))).bind fun bt147 => ((merge_Visible.f k t135 2).bind fun t151 => ((merge_Visible.f k t135 3).bind fun t154 => ((merge_Pack.f k t135 (([2] : List Int)) false).bind fun t160 => ((merge_Pack.f k t135 (([2] : List Int)) true).bind fun t166 => (if t136 = 0 then (if (t135.length : Int) = 4 then (if 1 < (t135.length : Int) then (if 0 < (y129.length : Int) then (if ((((rd_T39 t135 1).f0).toList) == (((rd_T39 y129 0).f0).toList) && (((rd_T39 t135 1).f1) == ((rd_T39 y129 0).f1) && (((rd_T39 t135 1).f2) == ((rd_T39 y129 0).f2) && ((((rd_T39 t135 1).f3).toList) == (((rd_T39 y129 0).f3).toList))))) = true then (if bt147.2 = 16 then (if (t151.length : Int) = 0 then (if (t154.length : Int) = 1 then (if (t160.length : Int) = 3 then (some ((t166.length : Int) == 1)) else (some false)) else (some false)) else (some false)) else (some false)) else (some false)) else (none)) else (none)) else (some false)) else (some false))))))) = some r := by first | (rw [hy141]; with_reducible exact H) | (have H2_ := (Option.bind_some _ _).symm.trans H; rw [hy141]; with_reducible exact H2_) | (have H2_ := (Option.bind_some _ _).symm.trans H; with_reducible exact H2_) | with_reducible exact H | (rw [hy141]; exact H) | exact H
  have Ny141 := Aside0.mk hy141
  clear hy141
  obtain ⟨y144, hy144⟩ : ∃ y_ : List (List (S39)), y_ = (([y141] : List (List (S39)))) := ⟨_, rfl⟩
  replace H : ((merge_Rows.f k y144).bind fun bt147 => ((merge_Visible.f k t135 2).bind fun t151 => ((merge_Visible.f k t135 3).bind fun t154 => ((merge_Pack.f k t135 (([2] : List Int)) false).bind fun t160 => ((merge_Pack.f k t135 (([2] : List Int)) true).bind fun t166 => (if t136 = 0 then (if (t135.length : Int) = 4 then (if 1 < (t135.length : Int) then (if 0 < (y129.length : Int) then (if ((((rd_T39 t135 1).f0).toList) == (((rd_T39 y129 0).f0).toList) && (((rd_T39 t135 1).f1) == ((rd_T39 y129 0).f1) && (((rd_T39 t135 1).f2) == ((rd_T39 y129 0).f2) && ((((rd_T39 t135 1).f3).toList) == (((rd_T39 y129 0).f3).toList))))) = true then (if bt147.2 = 16 then (if (t151.length : Int) = 0 then (if (t154.length : Int) = 1 then (if (t160.length : Int) = 3 then (some ((t166.length : Int) == 1)) else (some false)) else (some false)) else (some false)) else (some false)) else (some false)) else (none)) else (none)) else (some false)) else (some false))))))) = some r := by first | (rw [hy144]; with_reducible exact H) | (have H2_ := (Option.bind_some _ _).symm.trans H; rw [hy144]; with_reducible exact H2_) | (have H2_ := (Option.bind_some _ _).symm.trans H; with_reducible exact H2_) | with_reducible exact H | (rw [hy144]; exact H) | exact H
  have Ny144 := Aside0.mk hy144
  clear hy144
  replace H := Option.bind_eq_some_iff.mp H
  obtain ⟨⟨t147, t148⟩, A40, H⟩ := H
  replace H : ((merge_Visible.f k t135 2).bind fun t151 => ((merge_Visible.f k t135 3).bind fun t154 => ((merge_Pack.f k t135 (([2] : List Int)) false).bind fun t160 => ((merge_Pack.f k t135 (([2] : List Int)) true).bind fun t166 => (if t136 = 0 then (if (t135.length : Int) = 4 then (if 1 < (t135.length : Int) then (if 0 < (y129.length : Int) then (if ((((rd_T39 t135 1).f0).toList) == (((rd_T39 y129 0).f0).toList) && (((rd_T39 t135 1).f1) == ((rd_T39 y129 0).f1) && (((rd_T39 t135 1).f2) == ((rd_T39 y129 0).f2) && ((((rd_T39 t135 1).f3).toList) == (((rd_T39 y129 0).f3).toList))))) = true then (if t148 = 16 then (if (t151.length : Int) = 0 then (if (t154.length : Int) = 1 then (if (t160.length : Int) = 3 then (some ((t166.length : Int) == 1)) else (some false)) else (some false)) else (some false)) else (some false)) else (some false)) else (none)) else (none)) else (some false)) else (some false)))))) = some r := H
  have A4 := Aside0.mk A40
  clear A40
  replace H := Option.bind_eq_some_iff.mp H
  obtain ⟨t151, A50, H⟩ := H
  replace H : ((merge_Visible.f k t135 3).bind fun t154 => ((merge_Pack.f k t135 (([2] : List Int)) false).bind fun t160 => ((merge_Pack.f k t135 (([2] : List Int)) true).bind fun t166 => (if t136 = 0 then (if (t135.length : Int) = 4 then (if 1 < (t135.length : Int) then (if 0 < (y129.length : Int) then (if ((((rd_T39 t135 1).f0).toList) == (((rd_T39 y129 0).f0).toList) && (((rd_T39 t135 1).f1) == ((rd_T39 y129 0).f1) && (((rd_T39 t135 1).f2) == ((rd_T39 y129 0).f2) && ((((rd_T39 t135 1).f3).toList) == (((rd_T39 y129 0).f3).toList))))) = true then (if t148 = 16 then (if (t151.length : Int) = 0 then (if (t154.length : Int) = 1 then (if (t160.length : Int) = 3 then (some ((t166.length : Int) == 1)) else (some false)) else (some false)) else (some false)) else (some false)) else (some false)) else (none)) else (none)) else (some false)) else (some false))))) = some r := H
  have A5 := Aside0.mk A50
  clear A50
  replace H := Option.bind_eq_some_iff.mp H
  obtain ⟨t154, A60, H⟩ := H
  replace H : ((merge_Pack.f k t135 (([2] : List Int)) false).bind fun t160 => ((merge_Pack.f k t135 (([2] : List Int)) true).bind fun t166 => (if t136 = 0 then (if (t135.length : Int) = 4 then (if 1 < (t135.length : Int) then (if 0 < (y129.length : Int) then (if ((((rd_T39 t135 1).f0).toList) == (((rd_T39 y129 0).f0).toList) && (((rd_T39 t135 1).f1) == ((rd_T39 y129 0).f1) && (((rd_T39 t135 1).f2) == ((rd_T39 y129 0).f2) && ((((rd_T39 t135 1).f3).toList) == (((rd_T39 y129 0).f3).toList))))) = true then (if t148 = 16 then (if (t151.length : Int) = 0 then (if (t154.length : Int) = 1 then (if (t160.length : Int) = 3 then (some ((t166.length : Int) == 1)) else (some false)) else (some false)) else (some false)) else (some false)) else (some false)) else (none)) else (none)) else (some false)) else (some false)))) = some r := H
  have A6 := Aside0.mk A60
  clear A60
  obtain ⟨y157, hy157⟩ : ∃ y_ : List Int, y_ = (([2] : List Int)) := ⟨_, rfl⟩
  replace H : ((merge_Pack.f k t135 y157 false).bind fun t160 => ((merge_Pack.f k t135 (([2] : List Int)) true).bind fun t166 => (if t136 = 0 then (if (t135.length : Int) = 4 then (if 1 < (t135.length : Int) then (if 0 < (y129.length : Int) then (if ((((rd_T39 t135 1).f0).toList) == (((rd_T39 y129 0).f0).toList) && (((rd_T39 t135 1).f1) == ((rd_T39 y129 0).f1) && (((rd_T39 t135 1).f2) == ((rd_T39 y129 0).f2) && ((((rd_T39 t135 1).f3).toList) == (((rd_T39 y129 0).f3).toList))))) = true then (if t148 = 16 then (if (t151.length : Int) = 0 then (if (t154.length : Int) = 1 then (if (t160.length : Int) = 3 then (some ((t166.length : Int) == 1)) else (some false)) else (some false)) else (some false)) else (some false)) else (some false)) else (none)) else (none)) else (some false)) else (some false)))) = some r := by first | (rw [hy157]; with_reducible exact H) | (have H2_ := (Option.bind_some _ _).symm.trans H; rw [hy157]; with_reducible exact H2_) | (have H2_ := (Option.bind_some _ _).symm.trans H; with_reducible exact H2_) | with_reducible exact H | (rw [hy157]; exact H) | exact H
  have Ny157 := Aside0.mk hy157
  clear hy157
  replace H := Option.bind_eq_some_iff.mp H
  obtain ⟨t160, A70, H⟩ := H
  replace H : ((merge_Pack.f k t135 (([2] : List Int)) true).bind fun t166 => (if t136 = 0 then (if (t135.length : Int) = 4 then (if 1 < (t135.length : Int) then (if 0 < (y129.length : Int) then (if ((((rd_T39 t135 1).f0).toList) == (((rd_T39 y129 0).f0).toList) && (((rd_T39 t135 1).f1) == ((rd_T39 y129 0).f1) && (((rd_T39 t135 1).f2) == ((rd_T39 y129 0).f2) && ((((rd_T39 t135 1).f3).toList) == (((rd_T39 y129 0).f3).toList))))) = true then (if t148 = 16 then (if (t151.length : Int) = 0 then (if (t154.length : Int) = 1 then (if (t160.length : Int) = 3 then (some ((t166.length : Int) == 1)) else (some false)) else (some false)) else (some false)) else (some false)) else (some false)) else (none)) else (none)) else (some false)) else (some false))) = some r := H
  have A7 := Aside0.mk A70
  clear A70
  obtain ⟨y163, hy163⟩ : ∃ y_ : List Int, y_ = (([2] : List Int)) := ⟨_, rfl⟩
  replace H : ((merge_Pack.f k t135 y163 true).bind fun t166 => (if t136 = 0 then (if (t135.length : Int) = 4 then (if 1 < (t135.length : Int) then (if 0 < (y129.length : Int) then (if ((((rd_T39 t135 1).f0).toList) == (((rd_T39 y129 0).f0).toList) && (((rd_T39 t135 1).f1) == ((rd_T39 y129 0).f1) && (((rd_T39 t135 1).f2) == ((rd_T39 y129 0).f2) && ((((rd_T39 t135 1).f3).toList) == (((rd_T39 y129 0).f3).toList))))) = true then (if t148 = 16 then (if (t151.length : Int) = 0 then (if (t154.length : Int) = 1 then (if (t160.length : Int) = 3 then (some ((t166.length : Int) == 1)) else (some false)) else (some false)) else (some false)) else (some false)) else (some false)) else (none)) else (none)) else (some false)) else (some false))) = some r := by first | (rw [hy163]; with_reducible exact H) | (have H2_ := (Option.bind_some _ _).symm.trans H; rw [hy163]; with_reducible exact H2_) | (have H2_ := (Option.bind_some _ _).symm.trans H; with_reducible exact H2_) | with_reducible exact H | (rw [hy163]; exact H) | exact H
  have Ny163 := Aside0.mk hy163
  clear hy163
  replace H := Option.bind_eq_some_iff.mp H
  obtain ⟨t166, A80, H⟩ := H
  replace H : (if t136 = 0 then (if (t135.length : Int) = 4 then (if 1 < (t135.length : Int) then (if 0 < (y129.length : Int) then (if ((((rd_T39 t135 1).f0).toList) == (((rd_T39 y129 0).f0).toList) && (((rd_T39 t135 1).f1) == ((rd_T39 y129 0).f1) && (((rd_T39 t135 1).f2) == ((rd_T39 y129 0).f2) && ((((rd_T39 t135 1).f3).toList) == (((rd_T39 y129 0).f3).toList))))) = true then (if t148 = 16 then (if (t151.length : Int) = 0 then (if (t154.length : Int) = 1 then (if (t160.length : Int) = 3 then (some ((t166.length : Int) == 1)) else (some false)) else (some false)) else (some false)) else (some false)) else (some false)) else (none)) else (none)) else (some false)) else (some false)) = some r := H
  have A8 := Aside0.mk A80
  clear A80
  by_cases c9 : t136 = 0
  rotate_left
  · rw [if_neg c9] at H
    have c9b0 : (t136 == 0) = false := beq_eq_false_iff_ne.mpr c9
    have c9b1 : (t136 != 0) = true := bne_iff_ne.mpr c9
    exact absurd ((Option.some.inj H).trans HR_.out) (by decide)
  rw [if_pos c9] at H
  have c9b0 : (t136 == 0) = true := beq_iff_eq.mpr c9
  have c9b1 : (t136 != 0) = false := bne_eq_false_iff_eq.mpr c9
  clear c9
  by_cases c10 : (t135.length : Int) = 4
  rotate_left
  · rw [if_neg c10] at H
    have c10b0 : ((t135.length : Int) == 4) = false := beq_eq_false_iff_ne.mpr c10
    have c10b1 : ((t135.length : Int) != 4) = true := bne_iff_ne.mpr c10
    exact absurd ((Option.some.inj H).trans HR_.out) (by decide)
  rw [if_pos c10] at H
  have c10b0 : ((t135.length : Int) == 4) = true := beq_iff_eq.mpr c10
  have c10b1 : ((t135.length : Int) != 4) = false := bne_eq_false_iff_eq.mpr c10
  clear c10
  by_cases c11 : 1 < (t135.length : Int)
  rotate_left
  · rw [if_neg c11] at H
    exact absurd H (by simp)
  rw [if_pos c11] at H
  have c11b0 : decide (1 < (t135.length : Int)) = true := decide_eq_true c11
  have c11b1 : decide (1 < t135.length) = true := decide_eq_true (by omega)
  clear c11
  by_cases c12 : 0 < (y129.length : Int)
  rotate_left
  · rw [if_neg c12] at H
    exact absurd H (by simp)
  rw [if_pos c12] at H
  have c12b0 : decide (0 < (y129.length : Int)) = true := decide_eq_true c12
  have c12b1 : decide (0 < y129.length) = true := decide_eq_true (by omega)
  clear c12
  by_cases c13 : ((((rd_T39 t135 1).f0).toList) == (((rd_T39 y129 0).f0).toList) && (((rd_T39 t135 1).f1) == ((rd_T39 y129 0).f1) && (((rd_T39 t135 1).f2) == ((rd_T39 y129 0).f2) && ((((rd_T39 t135 1).f3).toList) == (((rd_T39 y129 0).f3).toList))))) = true
  rotate_left
  · rw [if_neg c13] at H
    have c13b0 : ((((rd_T39 t135 1).f0).toList) == (((rd_T39 y129 0).f0).toList) && (((rd_T39 t135 1).f1) == ((rd_T39 y129 0).f1) && (((rd_T39 t135 1).f2) == ((rd_T39 y129 0).f2) && ((((rd_T39 t135 1).f3).toList) == (((rd_T39 y129 0).f3).toList))))) = false := by simpa using c13
    (try (have c13b1 : decide ((((rd_T39 t135 1).f0).toList) = (((rd_T39 y129 0).f0).toList) && (((rd_T39 t135 1).f1) == ((rd_T39 y129 0).f1) && (((rd_T39 t135 1).f2) == ((rd_T39 y129 0).f2) && ((((rd_T39 t135 1).f3).toList) == (((rd_T39 y129 0).f3).toList))))) = false := by simpa using c13))
    (try (have c13b2 : ((((rd_T39 t135 1).f0).toList) == (((rd_T39 y129 0).f0).toList) && (((rd_T39 t135 1).f1) == ((rd_T39 y129 0).f1) && (((rd_T39 t135 1).f2) == ((rd_T39 y129 0).f2) && ((((rd_T39 t135 1).f3).toList) == (((rd_T39 y129 0).f3).toList))))) = false := by simpa using c13))
    (try (have c13b3 : ¬ ((((rd_T39 t135 1).f0).toList) = (((rd_T39 y129 0).f0).toList) && (((rd_T39 t135 1).f1) == ((rd_T39 y129 0).f1) && (((rd_T39 t135 1).f2) == ((rd_T39 y129 0).f2) && ((((rd_T39 t135 1).f3).toList) == (((rd_T39 y129 0).f3).toList))))) := by simpa using c13))
    (try (have c13b4 : ((((rd_T39 y129 0).f0).toList) && (((rd_T39 t135 1).f1) == ((rd_T39 y129 0).f1) && (((rd_T39 t135 1).f2) == ((rd_T39 y129 0).f2) && ((((rd_T39 t135 1).f3).toList) == (((rd_T39 y129 0).f3).toList))))) = !(((rd_T39 t135 1).f0).toList) := by have h_ := c13; revert h_; generalize (((rd_T39 t135 1).f0).toList) = u_; generalize ((((rd_T39 y129 0).f0).toList) && (((rd_T39 t135 1).f1) == ((rd_T39 y129 0).f1) && (((rd_T39 t135 1).f2) == ((rd_T39 y129 0).f2) && ((((rd_T39 t135 1).f3).toList) == (((rd_T39 y129 0).f3).toList))))) = v_; cases u_ <;> cases v_ <;> simp))
    clear c13
    exact absurd ((Option.some.inj H).trans HR_.out) (by decide)
  rw [if_pos c13] at H
  have c13b0 : ((((rd_T39 t135 1).f0).toList) == (((rd_T39 y129 0).f0).toList) && (((rd_T39 t135 1).f1) == ((rd_T39 y129 0).f1) && (((rd_T39 t135 1).f2) == ((rd_T39 y129 0).f2) && ((((rd_T39 t135 1).f3).toList) == (((rd_T39 y129 0).f3).toList))))) = true := c13
  (try (have c13p := c13b0; simp only [Bool.and_eq_true, beq_iff_eq, Bool.not_eq_true'] at c13p; replace c13p := eq_true c13p))
  (try (have c13b1 : decide ((((rd_T39 t135 1).f0).toList) = (((rd_T39 y129 0).f0).toList) && (((rd_T39 t135 1).f1) == ((rd_T39 y129 0).f1) && (((rd_T39 t135 1).f2) == ((rd_T39 y129 0).f2) && ((((rd_T39 t135 1).f3).toList) == (((rd_T39 y129 0).f3).toList))))) = true := by simpa using c13))
  (try (have c13b2 : ((((rd_T39 t135 1).f0).toList) == (((rd_T39 y129 0).f0).toList) && (((rd_T39 t135 1).f1) == ((rd_T39 y129 0).f1) && (((rd_T39 t135 1).f2) == ((rd_T39 y129 0).f2) && ((((rd_T39 t135 1).f3).toList) == (((rd_T39 y129 0).f3).toList))))) = true := by simpa using c13))
  (try (have c13b3 : ((((rd_T39 y129 0).f0).toList) && (((rd_T39 t135 1).f1) == ((rd_T39 y129 0).f1) && (((rd_T39 t135 1).f2) == ((rd_T39 y129 0).f2) && ((((rd_T39 t135 1).f3).toList) == (((rd_T39 y129 0).f3).toList))))) = (((rd_T39 t135 1).f0).toList) := by have h_ := c13; revert h_; generalize (((rd_T39 t135 1).f0).toList) = u_; generalize ((((rd_T39 y129 0).f0).toList) && (((rd_T39 t135 1).f1) == ((rd_T39 y129 0).f1) && (((rd_T39 t135 1).f2) == ((rd_T39 y129 0).f2) && ((((rd_T39 t135 1).f3).toList) == (((rd_T39 y129 0).f3).toList))))) = v_; cases u_ <;> cases v_ <;> simp))
  clear c13
  by_cases c14 : t148 = 16
  rotate_left
  · rw [if_neg c14] at H
    have c14b0 : (t148 == 16) = false := beq_eq_false_iff_ne.mpr c14
    have c14b1 : (t148 != 16) = true := bne_iff_ne.mpr c14
    exact absurd ((Option.some.inj H).trans HR_.out) (by decide)
  rw [if_pos c14] at H
  have c14b0 : (t148 == 16) = true := beq_iff_eq.mpr c14
  have c14b1 : (t148 != 16) = false := bne_eq_false_iff_eq.mpr c14
  clear c14
  by_cases c15 : (t151.length : Int) = 0
  rotate_left
  · rw [if_neg c15] at H
    have c15b0 : ((t151.length : Int) == 0) = false := beq_eq_false_iff_ne.mpr c15
    have c15b1 : ((t151.length : Int) != 0) = true := bne_iff_ne.mpr c15
    have c15b2 : ¬ (t151 = []) := fun h_ => c15 (by rw [h_]; rfl)
    exact absurd ((Option.some.inj H).trans HR_.out) (by decide)
  rw [if_pos c15] at H
  have c15b0 : ((t151.length : Int) == 0) = true := beq_iff_eq.mpr c15
  have c15b1 : ((t151.length : Int) != 0) = false := bne_eq_false_iff_eq.mpr c15
  clear c15
  by_cases c16 : (t154.length : Int) = 1
  rotate_left
  · rw [if_neg c16] at H
    have c16b0 : ((t154.length : Int) == 1) = false := beq_eq_false_iff_ne.mpr c16
    have c16b1 : ((t154.length : Int) != 1) = true := bne_iff_ne.mpr c16
    exact absurd ((Option.some.inj H).trans HR_.out) (by decide)
  rw [if_pos c16] at H
  have c16b0 : ((t154.length : Int) == 1) = true := beq_iff_eq.mpr c16
  have c16b1 : ((t154.length : Int) != 1) = false := bne_eq_false_iff_eq.mpr c16
  clear c16
  by_cases c17 : (t160.length : Int) = 3
  rotate_left
  · rw [if_neg c17] at H
    have c17b0 : ((t160.length : Int) == 3) = false := beq_eq_false_iff_ne.mpr c17
    have c17b1 : ((t160.length : Int) != 3) = true := bne_iff_ne.mpr c17
    exact absurd ((Option.some.inj H).trans HR_.out) (by decide)
  rw [if_pos c17] at H
  have c17b0 : ((t160.length : Int) == 3) = true := beq_iff_eq.mpr c17
  have c17b1 : ((t160.length : Int) != 3) = false := bne_eq_false_iff_eq.mpr c17
  clear c17
  obtain rfl := Option.some.inj H
  go_enter Try.func8, Try.ntmps8
  try go_wp2_with (first | ((with_reducible refine gate_dst (N := 13) rfl ?_); (try (refine gate_guard (by rfl) ?_; dsimp only)); refine Kd.R_lit k39 _ 39 ?hg (N := 13) ?hd (xs := ([(⟨(⟨#[97]⟩ : ByteArray), 3, false, (⟨#[122]⟩ : ByteArray)⟩ : S39), (⟨(⟨#[97]⟩ : ByteArray), 1, false, (⟨#[120]⟩ : ByteArray)⟩ : S39)] : List (S39))) (inner := [.string (⟨#[97]⟩ : ByteArray), .int .i64 3, .bool false, .string (⟨#[122]⟩ : ByteArray), .string (⟨#[97]⟩ : ByteArray), .int .i64 1, .bool false, .string (⟨#[120]⟩ : ByteArray)]) (ok := fun _ => True) (okp := fun _ => True) ?hr ?hp (fun _ hk => hk) trivial (Below.refl _ _) (Nat.le_refl _) (by simp) ?_; (case hd => rfl); (case hg => rfl); (case hr => first | (go_simp; done) | (go_simp; rfl)); (case hp => exact (Reps.c4 (show Kd.M k39 _ _ _ (⟨(⟨#[97]⟩ : ByteArray), 3, false, (⟨#[122]⟩ : ByteArray)⟩ : S39) [.string (⟨#[97]⟩ : ByteArray), .int .i64 3, .bool false, .string (⟨#[122]⟩ : ByteArray)] from (k39_mkM _ _ _ (⟨(⟨#[97]⟩ : ByteArray), 3, false, (⟨#[122]⟩ : ByteArray)⟩ : S39) )) (Reps.c4 (show Kd.M k39 _ _ _ (⟨(⟨#[97]⟩ : ByteArray), 1, false, (⟨#[120]⟩ : ByteArray)⟩ : S39) [.string (⟨#[97]⟩ : ByteArray), .int .i64 1, .bool false, .string (⟨#[120]⟩ : ByteArray)] from (k39_mkM _ _ _ (⟨(⟨#[97]⟩ : ByteArray), 1, false, (⟨#[120]⟩ : ByteArray)⟩ : S39) )) (Reps.none _ _)))); intro v127 w18 ho19 hb hg_ hnew_; clear hg_ hnew_; (first | rw [← Ny126.out] at ho19 | (simp only [Int.reduceToNat] at ho19; rw [← Ny126.out] at ho19)); have n0_ := Aside0.mk (Kd.R_lower ho19 (below_size (by repeat (first | (with_reducible first | exact HB.out | apply below_alloc | apply pw_below_drewN | apply below_drew1) | exact HB.out)))); have n1_ := Aside0.mk (below_step (by repeat (first | (with_reducible first | exact HB.out | apply below_alloc | apply pw_below_drewN | apply below_drew1) | exact HB.out)) hb); clear HB; have HO128 := n0_; have HB := n1_; clear n0_ n1_; clear hb ho19) | ((with_reducible refine gate_dst (N := 16) rfl ?_); (try (refine gate_guard (by rfl) ?_; dsimp only)); refine Kd.R_lit k39 _ 39 ?hg (N := 16) ?hd (xs := ([(⟨(⟨#[97]⟩ : ByteArray), 2, true, (⟨#[]⟩ : ByteArray)⟩ : S39), (⟨(⟨#[98]⟩ : ByteArray), 1, true, (⟨#[]⟩ : ByteArray)⟩ : S39)] : List (S39))) (inner := [.string (⟨#[97]⟩ : ByteArray), .int .i64 2, .bool true, .string (⟨#[]⟩ : ByteArray), .string (⟨#[98]⟩ : ByteArray), .int .i64 1, .bool true, .string (⟨#[]⟩ : ByteArray)]) (ok := fun _ => True) (okp := fun _ => True) ?hr ?hp (fun _ hk => hk) trivial (Below.refl _ _) (Nat.le_refl _) (by simp) ?_; (case hd => rfl); (case hg => rfl); (case hr => first | (go_simp; done) | (go_simp; rfl)); (case hp => exact (Reps.c4 (show Kd.M k39 _ _ _ (⟨(⟨#[97]⟩ : ByteArray), 2, true, (⟨#[]⟩ : ByteArray)⟩ : S39) [.string (⟨#[97]⟩ : ByteArray), .int .i64 2, .bool true, .string (⟨#[]⟩ : ByteArray)] from (k39_mkM _ _ _ (⟨(⟨#[97]⟩ : ByteArray), 2, true, (⟨#[]⟩ : ByteArray)⟩ : S39) )) (Reps.c4 (show Kd.M k39 _ _ _ (⟨(⟨#[98]⟩ : ByteArray), 1, true, (⟨#[]⟩ : ByteArray)⟩ : S39) [.string (⟨#[98]⟩ : ByteArray), .int .i64 1, .bool true, .string (⟨#[]⟩ : ByteArray)] from (k39_mkM _ _ _ (⟨(⟨#[98]⟩ : ByteArray), 1, true, (⟨#[]⟩ : ByteArray)⟩ : S39) )) (Reps.none _ _)))); intro v130 w20 ho21 hb hg_ hnew_; clear hg_ hnew_; (first | rw [← Ny129.out] at ho21 | (simp only [Int.reduceToNat] at ho21; rw [← Ny129.out] at ho21)); have n0_ := Aside0.mk (Kd.R_elder' (by (with_reducible repeat (first | apply Kd.R_alloc | apply Kd.R_drewN | apply Kd.R_drew)); exact HO128.out) (Kd.R_base ho21) hb); have n1_ := Aside0.mk (Kd.R_lower (Kd.R_new' ho21 (Kd.R_lt (by (with_reducible repeat (first | apply Kd.R_alloc | apply Kd.R_drewN | apply Kd.R_drew)); exact HO128.out))) (below_size (by repeat (first | (with_reducible first | exact HB.out | apply below_alloc | apply pw_below_drewN | apply below_drew1) | exact HB.out)))); have n2_ := Aside0.mk (below_step (by repeat (first | (with_reducible first | exact HB.out | apply below_alloc | apply pw_below_drewN | apply below_drew1) | exact HB.out)) hb); clear HO128; clear HB; have HO128 := n0_; have HO131 := n1_; have HB := n2_; clear n0_ n1_ n2_; clear hb ho21) | ((with_reducible refine gate_dst (N := 20) rfl ?_); (try (refine gate_guard (by rfl) ?_; dsimp only)); obtain ⟨Al4, cl4, el4⟩ := Kd.R_slice HO128.out; (first | subst el4 | (injection el4 with f1_ f2_ f3_; have f4_ := f1_.symm; have f5_ := f3_.symm; clear f1_ f2_ f3_; subst f4_; subst f5_)); obtain ⟨Al5, cl5, el5⟩ := Kd.R_slice HO131.out; (first | subst el5 | (injection el5 with f1_ f2_ f3_; have f4_ := f1_.symm; have f5_ := f3_.symm; clear f1_ f2_ f3_; subst f4_; subst f5_)); refine lit_GL _ ?hg (N := 20) ?hd (xs := ([y126, y129] : List (List (S39)))) (inner := [.slice Al4 y126.length cl4, .slice Al5 y129.length cl5]) (ok := fun _ => True) ?hr ?hp trivial (Below.refl _ _) (Nat.le_refl _) (by simp) ?_; (case hd => rfl); (case hg => rfl); (case hr => first | (go_simp; done) | (go_simp; rfl)); (case hp => exact (Reps.one (kGL_of (by (with_reducible repeat (first | apply Kd.R_alloc | apply Kd.R_drewN | apply Kd.R_drew)); exact HO128.out)) (Reps.one (kGL_of (by (with_reducible repeat (first | apply Kd.R_alloc | apply Kd.R_drewN | apply Kd.R_drew)); exact HO131.out)) (Reps.none _ _)))); intro v133 w22 ho23 hb hg_ hnew_; have HG134 := Aside0.mk hb; clear hg_ hnew_; (first | rw [← Ny132.out] at ho23 | (simp only [Int.reduceToNat] at ho23; rw [← Ny132.out] at ho23)); have n0_ := Aside0.mk (Kd.R_below (by (with_reducible repeat (first | apply Kd.R_alloc | apply Kd.R_drewN | apply Kd.R_drew)); exact HO128.out) hb); have n1_ := Aside0.mk (Kd.R_below (by (with_reducible repeat (first | apply Kd.R_alloc | apply Kd.R_drewN | apply Kd.R_drew)); exact HO131.out) hb); have n2_ := Aside0.mk (Kd.S_lower (Kd.S_new' (Kd.S_new' ho23 (Kd.R_lt (by (with_reducible repeat (first | apply Kd.R_alloc | apply Kd.R_drewN | apply Kd.R_drew)); exact HO128.out))) (Kd.R_lt (by (with_reducible repeat (first | apply Kd.R_alloc | apply Kd.R_drewN | apply Kd.R_drew)); exact HO131.out))) (below_size (by repeat (first | (with_reducible first | exact HB.out | apply below_alloc | apply pw_below_drewN | apply below_drew1) | exact HB.out)))); have n3_ := Aside0.mk (below_step (by repeat (first | (with_reducible first | exact HB.out | apply below_alloc | apply pw_below_drewN | apply below_drew1) | exact HB.out)) hb); clear HO128; clear HO131; clear HB; have HO128 := n0_; have HO131 := n1_; have HO134 := n2_; have HB := n3_; clear n0_ n1_ n2_ n3_; clear hb ho23; obtain ⟨Ao24, co24, eo24⟩ := Kd.S_slice HO134.out; subst eo24) | ((with_reducible refine gate_callee (f := 11) rfl ?_); refine goesL_ (some 21) rfl rfl Try.func11 (by kernel_rfl) rfl #[.slice Ao24 y132.length co24] rfl (by (try simp only [List.map_toArray, List.map_cons, List.map_nil]); first | done | rfl | (simp only [List.length_drop, List.length_take]; rfl)) ?_; (with_reducible refine (merge_Rows.calls k _ _ y132 t135 t136 _ ?side1 ?side2 A1.out).mono ?_); (case side1 => repeat (first | exact kGL_C (Kd.S_reads' HO134.out).2.2 HG134.out | (with_reducible refine Kd.C_alloc ?_ _) | (with_reducible refine Kd.C_drewN ?_ _) | (with_reducible refine Kd.C_drew ?_))); (case side2 => exact (Kd.S_reads' HO134.out).2.1); rintro e w25 ⟨v137, rfl, ho0, hb⟩; refine ⟨_, rfl, ?_⟩; have n0_ := Aside0.mk (Kd.R_elder' (by (with_reducible repeat (first | apply Kd.R_alloc | apply Kd.R_drewN | apply Kd.R_drew)); exact HO128.out) (Kd.R_base ho0) hb); have n1_ := Aside0.mk (Kd.R_elder' (by (with_reducible repeat (first | apply Kd.R_alloc | apply Kd.R_drewN | apply Kd.R_drew)); exact HO131.out) (Kd.R_base ho0) hb); have n2_ := Aside0.mk (Kd.S_elder' (by (with_reducible repeat (first | apply Kd.S_alloc | apply Kd.S_drewN | apply Kd.S_drew)); exact HO134.out) (Kd.R_base ho0) hb); have n3_ := Aside0.mk (Kd.R_lower (Kd.R_new' (Kd.R_new' ho0 (Kd.R_lt (by (with_reducible repeat (first | apply Kd.R_alloc | apply Kd.R_drewN | apply Kd.R_drew)); exact HO128.out))) (Kd.R_lt (by (with_reducible repeat (first | apply Kd.R_alloc | apply Kd.R_drewN | apply Kd.R_drew)); exact HO131.out))) (below_size (by repeat (first | (with_reducible first | exact HB.out | apply below_alloc | apply pw_below_drewN | apply below_drew1) | exact HB.out)))); have n4_ := Aside0.mk (below_step (by repeat (first | (with_reducible first | exact HB.out | apply below_alloc | apply pw_below_drewN | apply below_drew1) | exact HB.out)) hb); clear HO128; clear HO131; clear HO134; clear HB; have HO128 := n0_; have HO131 := n1_; have HO134 := n2_; have HO138 := n3_; have HB := n4_; clear n0_ n1_ n2_ n3_ n4_; (try clear hb); (try clear hb2); (try clear hk); (try clear hi); (try clear ho0)))
  have n0_ := Aside0.mk (Kd.R_drew HO128.out)
  have n1_ := Aside0.mk (Kd.R_drew HO131.out)
  have n2_ := Aside0.mk (Kd.S_drew HO134.out)
  have n3_ := Aside0.mk (Kd.R_drew HO138.out)
  have n4_ := Aside0.mk (below_drew1 HB.out)
  clear HO128
  clear HO131
  clear HO134
  clear HO138
  clear HB
  have HO128 := n0_
  have HO131 := n1_
  have HO134 := n2_
  have HO138 := n3_
  have HB := n4_
  clear n0_ n1_ n2_ n3_ n4_
  obtain ⟨Ao27, co27, eo27⟩ := Kd.R_slice HO128.out
  (first | subst eo27 | (injection eo27 with f1_ f2_ f3_; have f4_ := f1_.symm; have f5_ := f3_.symm; clear f1_ f2_ f3_; subst f4_; subst f5_))
  have p139 : 0 ≤ (1 : Int) := (by omega)
  have q139 : 1 < (y126.length : Int) := of_decide_eq_true (by first | (with_reducible assumption) | assumption)
  obtain ⟨ad139, e139, hx139_0, hx139_1, hx139_2, hx139_3⟩ := at_T39 (Kd.R_reads' HO128.out).2.2 1 p139 q139
  cases e139
  (try simp only [show (1 : Int).toNat = 1 from rfl, Nat.reduceMul, Nat.reduceEqDiff, Go.Addr.add, ↓reduceIte] at hx139_0)
  (try simp only [show (1 : Int).toNat = 1 from rfl, Nat.reduceMul, Nat.reduceEqDiff, Go.Addr.add, ↓reduceIte] at hx139_1)
  (try simp only [show (1 : Int).toNat = 1 from rfl, Nat.reduceMul, Nat.reduceEqDiff, Go.Addr.add, ↓reduceIte] at hx139_2)
  (try simp only [show (1 : Int).toNat = 1 from rfl, Nat.reduceMul, Nat.reduceEqDiff, Go.Addr.add, ↓reduceIte] at hx139_3)
  have qi139 : (1 < y126.length) = True := eq_true (by omega)
  (try rw [show ((1 : Int)).toNat = 1 from rfl] at hx139_0)
  (try rw [show 1 * 4 = 4 from rfl] at hx139_0)
  (try rw [show ((1 : Int)).toNat = 1 from rfl] at hx139_1)
  (try rw [show 1 * 4 = 4 from rfl] at hx139_1)
  (try rw [show ((1 : Int)).toNat = 1 from rfl] at hx139_2)
  (try rw [show 1 * 4 = 4 from rfl] at hx139_2)
  (try rw [show ((1 : Int)).toNat = 1 from rfl] at hx139_3)
  (try rw [show 1 * 4 = 4 from rfl] at hx139_3)
  replace p139 := eq_true p139
  replace q139 := eq_true q139
  have p140 : 0 ≤ (0 : Int) := (by omega)
  have q140 : 0 < (y126.length : Int) := of_decide_eq_true (by first | (with_reducible assumption) | assumption)
  obtain ⟨ad140, e140, hx140_0, hx140_1, hx140_2, hx140_3⟩ := at_T39 (Kd.R_reads' HO128.out).2.2 0 p140 q140
  obtain rfl : ad139 = ad140 := (by injection e140)
  have qi140 : (0 < y126.length) = True := eq_true (by omega)
  (try rw [show ((0 : Int)).toNat = 0 from rfl] at hx140_0)
  (try rw [show 0 * 4 = 0 from rfl] at hx140_0)
  (try rw [Addr.add_zero'] at hx140_0)
  (try rw [show ((0 : Int)).toNat = 0 from rfl] at hx140_1)
  (try rw [show 0 * 4 = 0 from rfl] at hx140_1)
  (try rw [Addr.add_zero'] at hx140_1)
  (try rw [show ((0 : Int)).toNat = 0 from rfl] at hx140_2)
  (try rw [show 0 * 4 = 0 from rfl] at hx140_2)
  (try rw [Addr.add_zero'] at hx140_2)
  (try rw [show ((0 : Int)).toNat = 0 from rfl] at hx140_3)
  (try rw [show 0 * 4 = 0 from rfl] at hx140_3)
  (try rw [Addr.add_zero'] at hx140_3)
  replace p140 := eq_true p140
  replace q140 := eq_true q140
  refine start_ (n := 14) (S := fun w' => w'.cell? ⟨ad139.block, ad139.off + 4, none⟩ = some (.string ((rd_T39 y126 1).f0)) ∧ w'.cell? ⟨ad139.block, ad139.off + 4 + 1, none⟩ = some (.int .i64 ((rd_T39 y126 1).f1)) ∧ w'.cell? ⟨ad139.block, ad139.off + 4 + 2, none⟩ = some (.bool ((rd_T39 y126 1).f2)) ∧ w'.cell? ⟨ad139.block, ad139.off + 4 + 3, none⟩ = some (.string ((rd_T39 y126 1).f3)) ∧ w'.cell? ad139 = some (.string ((rd_T39 y126 0).f0)) ∧ w'.cell? ⟨ad139.block, ad139.off + 1, none⟩ = some (.int .i64 ((rd_T39 y126 0).f1)) ∧ w'.cell? ⟨ad139.block, ad139.off + 2, none⟩ = some (.bool ((rd_T39 y126 0).f2)) ∧ w'.cell? ⟨ad139.block, ad139.off + 3, none⟩ = some (.string ((rd_T39 y126 0).f3))) (ds := []) #[false, false, false, false, false, false, false, false, false, false, false, false, false, false] (by kernel_rfl) rfl rfl ⟨hx139_0, hx139_1, hx139_2, hx139_3, hx140_0, hx140_1, hx140_2, hx140_3⟩ (fun hHeld => ?_); refine with_tabW ravelinlaw11_known.tab4 ravelinlaw11_known.bits4 (fun HT_ HW_ => ?_)
  generalize w25.drew = w26 at HO128 HO131 HO134 HO138 HB hx139_0 hx139_1 hx139_2 hx139_3 hx140_0 hx140_1 hx140_2 hx140_3 hHeld ⊢
  refine pure_ (i := 0) (N := some 25) (v := ?_) (a' := ?_) #[true, false, false, false, false, false, false, false, false, false, false, false, false, false] rfl rfl (any_of HT_.out (by kernel_rfl)) (fun _ _ _ h => h) (Or.inl ⟨by rfl, ?_⟩) ?_ ?_
  rotate_left
  · intro w'
    go_simp
    with_reducible rfl
  rotate_left
  · simp only [Act.put, List.setIfInBounds_toArray, List.set_cons_zero, List.set_cons_succ, i64_w, i32_w]
    rfl
  refine pure_ (i := 1) (N := some 26) (v := ?_) (a' := ?_) #[true, true, false, false, false, false, false, false, false, false, false, false, false, false] rfl rfl (any_of HT_.out (by kernel_rfl)) (fun _ _ _ h => h) (Or.inl ⟨by rfl, ?_⟩) ?_ ?_
  rotate_left
  · intro w'
    go_simp
    with_reducible rfl
  rotate_left
  · simp only [Act.put, List.setIfInBounds_toArray, List.set_cons_zero, List.set_cons_succ, i64_w, i32_w]
    rfl
  refine pure_ (i := 3) (N := some 28) (v := ?_) (a' := ?_) #[true, true, false, true, false, false, false, false, false, false, false, false, false, false] rfl rfl (any_of HT_.out (by kernel_rfl)) (fun _ _ _ h => h) (Or.inl ⟨by rfl, ?_⟩) ?_ ?_
  rotate_left
  · intro w'
    go_simp
    with_reducible rfl
  rotate_left
  · simp only [Act.put, List.setIfInBounds_toArray, List.set_cons_zero, List.set_cons_succ, i64_w, i32_w]
    rfl
  refine pure_ (i := 4) (N := some 29) (v := ?_) (a' := ?_) #[true, true, false, true, true, false, false, false, false, false, false, false, false, false] rfl rfl (any_of HT_.out (by kernel_rfl)) (fun _ _ _ h => h) (Or.inl ⟨by rfl, ?_⟩) ?_ ?_
  rotate_left
  · intro w'
    go_simp
    with_reducible rfl
  rotate_left
  · simp only [Act.put, List.setIfInBounds_toArray, List.set_cons_zero, List.set_cons_succ, i64_w, i32_w]
    rfl
  refine take_ (i := 2) (N := some 27) (v := ?_) (a' := ?_) #[true, true, true, true, true, false, false, false, false, false, false, false, false, false] rfl rfl (take_ofW HT_.out HW_.out (by kernel_rfl)) (fun _ _ _ h => h) (Or.inl ⟨by rfl, ?_⟩) hHeld ?_ ?_
  rotate_left
  · rintro w' ⟨s0, s1, s2, s3, s4, s5, s6, s7⟩
    go_simp
    with_reducible rfl
  rotate_left
  · simp only [Act.put, List.setIfInBounds_toArray, List.set_cons_zero, List.set_cons_succ, i64_w, i32_w]
    rfl
  refine take_ (i := 5) (N := some 30) (v := ?_) (a' := ?_) #[true, true, true, true, true, true, false, false, false, false, false, false, false, false] rfl rfl (take_ofW HT_.out HW_.out (by kernel_rfl)) (fun _ _ _ h => h) (Or.inl ⟨by rfl, ?_⟩) hHeld ?_ ?_
  rotate_left
  · rintro w' ⟨s0, s1, s2, s3, s4, s5, s6, s7⟩
    go_simp
    with_reducible rfl
  rotate_left
  · simp only [Act.put, List.setIfInBounds_toArray, List.set_cons_zero, List.set_cons_succ, i64_w, i32_w]
    rfl
  refine one_ (i := 6) (N := some 31) #[true, true, true, true, true, true, true, false, false, false, false, false, false, false] rfl rfl (one_of HT_.out (by kernel_rfl)) (by decide) (fun K hK => ?_)
  refine Kd.R_lit_step k39 _ 39 ?hg (N := 31) ?hd (xs := ([(⟨(rd_T39 y126 1).f0, (rd_T39 y126 1).f1, (rd_T39 y126 1).f2, (rd_T39 y126 1).f3⟩ : S39), (⟨(rd_T39 y126 0).f0, (rd_T39 y126 0).f1, (rd_T39 y126 0).f2, (rd_T39 y126 0).f3⟩ : S39)] : List (S39))) (inner := [.string ((rd_T39 y126 1).f0), .int .i64 ((rd_T39 y126 1).f1), .bool ((rd_T39 y126 1).f2), .string ((rd_T39 y126 1).f3), .string ((rd_T39 y126 0).f0), .int .i64 ((rd_T39 y126 0).f1), .bool ((rd_T39 y126 0).f2), .string ((rd_T39 y126 0).f3)]) (ok := fun _ => True) (okp := fun _ => True) ?hr ?hp (fun _ hk => hk) trivial (Below.refl _ _) (Nat.le_refl _) (by simp) ?_; (case hd => rfl); (case hg => rfl); (case hr => first | (go_simp; done) | (go_simp; rfl)); (case hp => exact (Reps.c4 (show Kd.M k39 _ _ _ (⟨(rd_T39 y126 1).f0, (rd_T39 y126 1).f1, (rd_T39 y126 1).f2, (rd_T39 y126 1).f3⟩ : S39) [.string ((rd_T39 y126 1).f0), .int .i64 ((rd_T39 y126 1).f1), .bool ((rd_T39 y126 1).f2), .string ((rd_T39 y126 1).f3)] from (k39_mkM _ _ _ (⟨(rd_T39 y126 1).f0, (rd_T39 y126 1).f1, (rd_T39 y126 1).f2, (rd_T39 y126 1).f3⟩ : S39) )) (Reps.c4 (show Kd.M k39 _ _ _ (⟨(rd_T39 y126 0).f0, (rd_T39 y126 0).f1, (rd_T39 y126 0).f2, (rd_T39 y126 0).f3⟩ : S39) [.string ((rd_T39 y126 0).f0), .int .i64 ((rd_T39 y126 0).f1), .bool ((rd_T39 y126 0).f2), .string ((rd_T39 y126 0).f3)] from (k39_mkM _ _ _ (⟨(rd_T39 y126 0).f0, (rd_T39 y126 0).f1, (rd_T39 y126 0).f2, (rd_T39 y126 0).f3⟩ : S39) )) (Reps.none _ _))))
  intro v142 w28 ho29 hb hg_ hnew_
  have HS0_ := (hb.cell (World.block_lt_of_cell? _ _ (hHeld.1))).trans (hHeld.1)
  have HS1_ := (hb.cell (World.block_lt_of_cell? _ _ (hHeld.2.1))).trans (hHeld.2.1)
  have HS2_ := (hb.cell (World.block_lt_of_cell? _ _ (hHeld.2.2.1))).trans (hHeld.2.2.1)
  have HS3_ := (hb.cell (World.block_lt_of_cell? _ _ (hHeld.2.2.2.1))).trans (hHeld.2.2.2.1)
  have HS4_ := (hb.cell (World.block_lt_of_cell? _ _ (hHeld.2.2.2.2.1))).trans (hHeld.2.2.2.2.1)
  have HS5_ := (hb.cell (World.block_lt_of_cell? _ _ (hHeld.2.2.2.2.2.1))).trans (hHeld.2.2.2.2.2.1)
  have HS6_ := (hb.cell (World.block_lt_of_cell? _ _ (hHeld.2.2.2.2.2.2.1))).trans (hHeld.2.2.2.2.2.2.1)
  have HS7_ := (hb.cell (World.block_lt_of_cell? _ _ (hHeld.2.2.2.2.2.2.2))).trans (hHeld.2.2.2.2.2.2.2)
  clear hg_ hnew_
  (first | rw [← Ny141.out] at ho29 | (simp only [Int.reduceToNat] at ho29; rw [← Ny141.out] at ho29))
  have n0_ := Aside0.mk (Kd.R_elder' (by (with_reducible repeat (first | apply Kd.R_alloc | apply Kd.R_drewN | apply Kd.R_drew)); exact HO128.out) (Kd.R_base ho29) hb)
  have n1_ := Aside0.mk (Kd.R_elder' (by (with_reducible repeat (first | apply Kd.R_alloc | apply Kd.R_drewN | apply Kd.R_drew)); exact HO131.out) (Kd.R_base ho29) hb)
  have n2_ := Aside0.mk (Kd.S_elder' (by (with_reducible repeat (first | apply Kd.S_alloc | apply Kd.S_drewN | apply Kd.S_drew)); exact HO134.out) (Kd.R_base ho29) hb)
  have n3_ := Aside0.mk (Kd.R_elder' (by (with_reducible repeat (first | apply Kd.R_alloc | apply Kd.R_drewN | apply Kd.R_drew)); exact HO138.out) (Kd.R_base ho29) hb)
  have n4_ := Aside0.mk (Kd.R_lower (Kd.R_new' (Kd.R_new' (Kd.R_new' ho29 (Kd.R_lt (by (with_reducible repeat (first | apply Kd.R_alloc | apply Kd.R_drewN | apply Kd.R_drew)); exact HO128.out))) (Kd.R_lt (by (with_reducible repeat (first | apply Kd.R_alloc | apply Kd.R_drewN | apply Kd.R_drew)); exact HO131.out))) (Kd.R_lt (by (with_reducible repeat (first | apply Kd.R_alloc | apply Kd.R_drewN | apply Kd.R_drew)); exact HO138.out))) (below_size (by repeat (first | (with_reducible first | exact HB.out | apply below_alloc | apply pw_below_drewN | apply below_drew1) | exact HB.out))))
  have n5_ := Aside0.mk (below_step (by repeat (first | (with_reducible first | exact HB.out | apply below_alloc | apply pw_below_drewN | apply below_drew1) | exact HB.out)) hb)
  clear HO128
  clear HO131
  clear HO134
  clear HO138
  clear HB
  have HO128 := n0_
  have HO131 := n1_
  have HO134 := n2_
  have HO138 := n3_
  have HO143 := n4_
  have HB := n5_
  clear n0_ n1_ n2_ n3_ n4_ n5_
  clear hb ho29
  refine hK.out _ _ ⟨HS0_, HS1_, HS2_, HS3_, HS4_, HS5_, HS6_, HS7_⟩ (fun hHeld => ?_)
  clear hK K
  refine norm_ (a' := ?_) ?_ ?_
  rotate_left
  · show Act.put _ (some 31) _ = _
    simp only [Act.put, List.setIfInBounds_toArray, List.set_cons_zero, List.set_cons_succ, i64_w, i32_w]
    rfl
  refine one_ (i := 7) (N := some 32) #[true, true, true, true, true, true, true, true, false, false, false, false, false, false] rfl rfl (one_of HT_.out (by kernel_rfl)) (by decide) (fun K hK => ?_)
  obtain ⟨Al6, cl6, el6⟩ := Kd.R_slice HO143.out
  (first | subst el6 | (injection el6 with f1_ f2_ f3_; have f4_ := f1_.symm; have f5_ := f3_.symm; clear f1_ f2_ f3_; subst f4_; subst f5_))
  refine lit_GL_step _ ?hg (N := 32) ?hd (xs := ([y141] : List (List (S39)))) (inner := [.slice Al6 y141.length cl6]) (ok := fun _ => True) ?hr ?hp trivial (Below.refl _ _) (Nat.le_refl _) (by simp) ?_; (case hd => rfl); (case hg => rfl); (case hr => first | (go_simp; done) | (go_simp; rfl)); (case hp => exact (Reps.one (kGL_of (by (with_reducible repeat (first | apply Kd.R_alloc | apply Kd.R_drewN | apply Kd.R_drew)); exact HO143.out)) (Reps.none _ _)))
  intro v145 w30 ho31 hb hg_ hnew_
  have HG146 := Aside0.mk hb
  have HS0_ := (hb.cell (World.block_lt_of_cell? _ _ (hHeld.1))).trans (hHeld.1)
  have HS1_ := (hb.cell (World.block_lt_of_cell? _ _ (hHeld.2.1))).trans (hHeld.2.1)
  have HS2_ := (hb.cell (World.block_lt_of_cell? _ _ (hHeld.2.2.1))).trans (hHeld.2.2.1)
  have HS3_ := (hb.cell (World.block_lt_of_cell? _ _ (hHeld.2.2.2.1))).trans (hHeld.2.2.2.1)
  have HS4_ := (hb.cell (World.block_lt_of_cell? _ _ (hHeld.2.2.2.2.1))).trans (hHeld.2.2.2.2.1)
  have HS5_ := (hb.cell (World.block_lt_of_cell? _ _ (hHeld.2.2.2.2.2.1))).trans (hHeld.2.2.2.2.2.1)
  have HS6_ := (hb.cell (World.block_lt_of_cell? _ _ (hHeld.2.2.2.2.2.2.1))).trans (hHeld.2.2.2.2.2.2.1)
  have HS7_ := (hb.cell (World.block_lt_of_cell? _ _ (hHeld.2.2.2.2.2.2.2))).trans (hHeld.2.2.2.2.2.2.2)
  clear hg_ hnew_
  (first | rw [← Ny144.out] at ho31 | (simp only [Int.reduceToNat] at ho31; rw [← Ny144.out] at ho31))
  have n0_ := Aside0.mk (Kd.R_below (by (with_reducible repeat (first | apply Kd.R_alloc | apply Kd.R_drewN | apply Kd.R_drew)); exact HO128.out) hb)
  have n1_ := Aside0.mk (Kd.R_below (by (with_reducible repeat (first | apply Kd.R_alloc | apply Kd.R_drewN | apply Kd.R_drew)); exact HO131.out) hb)
  have n2_ := Aside0.mk (Kd.S_elder' (by (with_reducible repeat (first | apply Kd.S_alloc | apply Kd.S_drewN | apply Kd.S_drew)); exact HO134.out) (Kd.S_base ho31) hb)
  have n3_ := Aside0.mk (Kd.R_below (by (with_reducible repeat (first | apply Kd.R_alloc | apply Kd.R_drewN | apply Kd.R_drew)); exact HO138.out) hb)
  have n4_ := Aside0.mk (Kd.R_below (by (with_reducible repeat (first | apply Kd.R_alloc | apply Kd.R_drewN | apply Kd.R_drew)); exact HO143.out) hb)
  have n5_ := Aside0.mk (Kd.S_lower (Kd.S_new' (Kd.S_new' (Kd.S_new' (Kd.S_new' (Kd.S_new' ho31 (Kd.R_lt (by (with_reducible repeat (first | apply Kd.R_alloc | apply Kd.R_drewN | apply Kd.R_drew)); exact HO128.out))) (Kd.R_lt (by (with_reducible repeat (first | apply Kd.R_alloc | apply Kd.R_drewN | apply Kd.R_drew)); exact HO131.out))) (Kd.S_lt (by (with_reducible repeat (first | apply Kd.S_alloc | apply Kd.S_drewN | apply Kd.S_drew)); exact HO134.out))) (Kd.R_lt (by (with_reducible repeat (first | apply Kd.R_alloc | apply Kd.R_drewN | apply Kd.R_drew)); exact HO138.out))) (Kd.R_lt (by (with_reducible repeat (first | apply Kd.R_alloc | apply Kd.R_drewN | apply Kd.R_drew)); exact HO143.out))) (below_size (by repeat (first | (with_reducible first | exact HB.out | apply below_alloc | apply pw_below_drewN | apply below_drew1) | exact HB.out))))
  have n6_ := Aside0.mk (below_step (by repeat (first | (with_reducible first | exact HB.out | apply below_alloc | apply pw_below_drewN | apply below_drew1) | exact HB.out)) hb)
  clear HO128
  clear HO131
  clear HO134
  clear HO138
  clear HO143
  clear HB
  have HO128 := n0_
  have HO131 := n1_
  have HO134 := n2_
  have HO138 := n3_
  have HO143 := n4_
  have HO146 := n5_
  have HB := n6_
  clear n0_ n1_ n2_ n3_ n4_ n5_ n6_
  clear hb ho31
  obtain ⟨Ao32, co32, eo32⟩ := Kd.S_slice HO146.out
  (first | subst eo32 | (injection eo32 with f1_ f2_ f3_; have f4_ := f1_.symm; have f5_ := f3_.symm; clear f1_ f2_ f3_; subst f4_; subst f5_))
  refine hK.out _ _ ⟨HS0_, HS1_, HS2_, HS3_, HS4_, HS5_, HS6_, HS7_⟩ (fun hHeld => ?_)
  clear hK K
  refine norm_ (a' := ?_) ?_ ?_
  rotate_left
  · show Act.put _ (some 32) _ = _
    simp only [Act.put, List.setIfInBounds_toArray, List.set_cons_zero, List.set_cons_succ, i64_w, i32_w]
    rfl
  refine one_ (i := 8) (N := some 33) #[true, true, true, true, true, true, true, true, true, false, false, false, false, false] rfl rfl (one_of HT_.out (by kernel_rfl)) (by decide) (fun K hK => ?_)
  refine goes_ Try.func11 (by kernel_rfl) rfl #[.slice Ao32 y144.length co32] (by rfl) rfl rfl (by (try simp only [List.map_toArray, List.map_cons, List.map_nil]); first | done | rfl | (simp only [List.length_drop, List.length_take]; rfl)) ?_
  with_reducible refine (merge_Rows.calls k _ _ y144 t147 t148 _ ?side1 ?side2 A4.out).mono ?_
  (case side1 => repeat (first | exact kGL_C (Kd.S_reads' HO146.out).2.2 HG146.out | (with_reducible refine Kd.C_alloc ?_ _) | (with_reducible refine Kd.C_drewN ?_ _) | (with_reducible refine Kd.C_drew ?_)))
  (case side2 => exact (Kd.S_reads' HO146.out).2.1)
  rintro e w33 ⟨v149, rfl, ho0, hb⟩
  have HS0_ := (hb.cell (World.block_lt_of_cell? _ _ (hHeld.1))).trans (hHeld.1)
  have HS1_ := (hb.cell (World.block_lt_of_cell? _ _ (hHeld.2.1))).trans (hHeld.2.1)
  have HS2_ := (hb.cell (World.block_lt_of_cell? _ _ (hHeld.2.2.1))).trans (hHeld.2.2.1)
  have HS3_ := (hb.cell (World.block_lt_of_cell? _ _ (hHeld.2.2.2.1))).trans (hHeld.2.2.2.1)
  have HS4_ := (hb.cell (World.block_lt_of_cell? _ _ (hHeld.2.2.2.2.1))).trans (hHeld.2.2.2.2.1)
  have HS5_ := (hb.cell (World.block_lt_of_cell? _ _ (hHeld.2.2.2.2.2.1))).trans (hHeld.2.2.2.2.2.1)
  have HS6_ := (hb.cell (World.block_lt_of_cell? _ _ (hHeld.2.2.2.2.2.2.1))).trans (hHeld.2.2.2.2.2.2.1)
  have HS7_ := (hb.cell (World.block_lt_of_cell? _ _ (hHeld.2.2.2.2.2.2.2))).trans (hHeld.2.2.2.2.2.2.2)
  refine ⟨_, rfl, ?_⟩
  have n0_ := Aside0.mk (Kd.R_elder' (by (with_reducible repeat (first | apply Kd.R_alloc | apply Kd.R_drewN | apply Kd.R_drew)); exact HO128.out) (Kd.R_base ho0) hb)
  have n1_ := Aside0.mk (Kd.R_elder' (by (with_reducible repeat (first | apply Kd.R_alloc | apply Kd.R_drewN | apply Kd.R_drew)); exact HO131.out) (Kd.R_base ho0) hb)
  have n2_ := Aside0.mk (Kd.S_elder' (by (with_reducible repeat (first | apply Kd.S_alloc | apply Kd.S_drewN | apply Kd.S_drew)); exact HO134.out) (Kd.R_base ho0) hb)
  have n3_ := Aside0.mk (Kd.R_elder' (by (with_reducible repeat (first | apply Kd.R_alloc | apply Kd.R_drewN | apply Kd.R_drew)); exact HO138.out) (Kd.R_base ho0) hb)
  have n4_ := Aside0.mk (Kd.R_elder' (by (with_reducible repeat (first | apply Kd.R_alloc | apply Kd.R_drewN | apply Kd.R_drew)); exact HO143.out) (Kd.R_base ho0) hb)
  have n5_ := Aside0.mk (Kd.S_elder' (by (with_reducible repeat (first | apply Kd.S_alloc | apply Kd.S_drewN | apply Kd.S_drew)); exact HO146.out) (Kd.R_base ho0) hb)
  have n6_ := Aside0.mk (Kd.R_lower (Kd.R_new' (Kd.R_new' (Kd.R_new' (Kd.R_new' ho0 (Kd.R_lt (by (with_reducible repeat (first | apply Kd.R_alloc | apply Kd.R_drewN | apply Kd.R_drew)); exact HO128.out))) (Kd.R_lt (by (with_reducible repeat (first | apply Kd.R_alloc | apply Kd.R_drewN | apply Kd.R_drew)); exact HO131.out))) (Kd.R_lt (by (with_reducible repeat (first | apply Kd.R_alloc | apply Kd.R_drewN | apply Kd.R_drew)); exact HO138.out))) (Kd.R_lt (by (with_reducible repeat (first | apply Kd.R_alloc | apply Kd.R_drewN | apply Kd.R_drew)); exact HO143.out))) (below_size (by repeat (first | (with_reducible first | exact HB.out | apply below_alloc | apply pw_below_drewN | apply below_drew1) | exact HB.out))))
  have n7_ := Aside0.mk (below_step (by repeat (first | (with_reducible first | exact HB.out | apply below_alloc | apply pw_below_drewN | apply below_drew1) | exact HB.out)) hb)
  clear HO128
  clear HO131
  clear HO134
  clear HO138
  clear HO143
  clear HO146
  clear HB
  have HO128 := n0_
  have HO131 := n1_
  have HO134 := n2_
  have HO138 := n3_
  have HO143 := n4_
  have HO146 := n5_
  have HO150 := n6_
  have HB := n7_
  clear n0_ n1_ n2_ n3_ n4_ n5_ n6_ n7_
  (try clear hb)
  (try clear hb2)
  (try clear hk)
  (try clear hi)
  (try clear ho0)
  refine hK.out _ _ ⟨HS0_, HS1_, HS2_, HS3_, HS4_, HS5_, HS6_, HS7_⟩ (fun hHeld => ?_)
  clear hK K
  refine norm_ (a' := ?_) ?_ ?_
  rotate_left
  · show Act.put _ (some 33) _ = _
    simp only [Act.put, List.setIfInBounds_toArray, List.set_cons_zero, List.set_cons_succ, i64_w, i32_w]
    rfl
  refine pure_ (i := 9) (N := some 24) (v := ?_) (a' := ?_) #[true, true, true, true, true, true, true, true, true, true, false, false, false, false] rfl rfl (any_of HT_.out (by kernel_rfl)) (fun _ _ _ h => h) (Or.inl ⟨by rfl, ?_⟩) ?_ ?_
  rotate_left
  · intro w'
    go_simp
    with_reducible rfl
  rotate_left
  · simp only [Act.put, List.setIfInBounds_toArray, List.set_cons_zero, List.set_cons_succ, i64_w, i32_w]
    rfl
  refine pure_ (i := 10) (N := some 34) (v := ?_) (a' := ?_) #[true, true, true, true, true, true, true, true, true, true, true, false, false, false] rfl rfl (any_of HT_.out (by kernel_rfl)) (fun _ _ _ h => h) (Or.inl ⟨by rfl, ?_⟩) ?_ ?_
  rotate_left
  · intro w'
    go_simp
    with_reducible rfl
  rotate_left
  · simp only [Act.put, List.setIfInBounds_toArray, List.set_cons_zero, List.set_cons_succ, i64_w, i32_w]
    rfl
  refine pure_ (i := 11) (N := some 35) (v := ?_) (a' := ?_) #[true, true, true, true, true, true, true, true, true, true, true, true, false, false] rfl rfl (any_of HT_.out (by kernel_rfl)) (fun _ _ _ h => h) (Or.inl ⟨by rfl, ?_⟩) ?_ ?_
  rotate_left
  · intro w'
    go_simp
    with_reducible rfl
  rotate_left
  · simp only [Act.put, List.setIfInBounds_toArray, List.set_cons_zero, List.set_cons_succ, i64_w, i32_w]
    rfl
  refine pure_ (i := 12) (N := some 5) (v := ?_) (a' := ?_) #[true, true, true, true, true, true, true, true, true, true, true, true, true, false] rfl rfl (any_of HT_.out (by kernel_rfl)) (fun _ _ _ h => h) (Or.inl ⟨by rfl, ?_⟩) ?_ ?_
  rotate_left
  · intro w'
    go_simp
    with_reducible rfl
  rotate_left
  · simp only [Act.put, List.setIfInBounds_toArray, List.set_cons_zero, List.set_cons_succ, i64_w, i32_w]
    rfl
  refine pure_ (i := 13) (N := some 6) (v := ?_) (a' := ?_) #[true, true, true, true, true, true, true, true, true, true, true, true, true, true] rfl rfl (any_of HT_.out (by kernel_rfl)) (fun _ _ _ h => h) (Or.inl ⟨by rfl, ?_⟩) ?_ ?_
  rotate_left
  · intro w'
    go_simp
    with_reducible rfl
  rotate_left
  · simp only [Act.put, List.setIfInBounds_toArray, List.set_cons_zero, List.set_cons_succ, i64_w, i32_w]
    rfl
  refine done_ (done_of HT_.out (by kernel_rfl)) ?_
  obtain ⟨Ao34, co34, eo34⟩ := Kd.R_slice HO138.out
  subst eo34
  try go_wp2_with (first | ((with_reducible refine gate_callee (f := 14) rfl ?_); refine goesL_ (some 37) rfl rfl Try.func14 (by kernel_rfl) rfl #[.slice Ao34 t135.length co34, .int .i64 2] rfl (by (try simp only [List.map_toArray, List.map_cons, List.map_nil]); first | done | rfl | (simp only [List.length_drop, List.length_take]; rfl)) ?_; (with_reducible refine (merge_Visible.calls k _ _ t135 2 t151 _ ?side1 ?side2 A5.out).mono ?_); (case side1 => repeat (first | exact (Kd.R_reads' HO138.out).2.2 | (with_reducible refine Kd.C_alloc ?_ _) | (with_reducible refine Kd.C_drewN ?_ _) | (with_reducible refine Kd.C_drew ?_))); (case side2 => exact (Kd.R_reads' HO138.out).2.1); rintro e w35 ⟨v152, rfl, ho0, hb⟩; refine ⟨_, rfl, ?_⟩; have n0_ := Aside0.mk (Kd.R_elder' (by (with_reducible repeat (first | apply Kd.R_alloc | apply Kd.R_drewN | apply Kd.R_drew)); exact HO128.out) (Kd.R_base ho0) hb); have n1_ := Aside0.mk (Kd.R_elder' (by (with_reducible repeat (first | apply Kd.R_alloc | apply Kd.R_drewN | apply Kd.R_drew)); exact HO131.out) (Kd.R_base ho0) hb); have n2_ := Aside0.mk (Kd.S_elder' (by (with_reducible repeat (first | apply Kd.S_alloc | apply Kd.S_drewN | apply Kd.S_drew)); exact HO134.out) (Kd.R_base ho0) hb); have n3_ := Aside0.mk (Kd.R_elder' (by (with_reducible repeat (first | apply Kd.R_alloc | apply Kd.R_drewN | apply Kd.R_drew)); exact HO138.out) (Kd.R_base ho0) hb); have n4_ := Aside0.mk (Kd.R_elder' (by (with_reducible repeat (first | apply Kd.R_alloc | apply Kd.R_drewN | apply Kd.R_drew)); exact HO143.out) (Kd.R_base ho0) hb); have n5_ := Aside0.mk (Kd.S_elder' (by (with_reducible repeat (first | apply Kd.S_alloc | apply Kd.S_drewN | apply Kd.S_drew)); exact HO146.out) (Kd.R_base ho0) hb); have n6_ := Aside0.mk (Kd.R_elder' (by (with_reducible repeat (first | apply Kd.R_alloc | apply Kd.R_drewN | apply Kd.R_drew)); exact HO150.out) (Kd.R_base ho0) hb); have n7_ := Aside0.mk (Kd.R_lower (Kd.R_new' (Kd.R_new' (Kd.R_new' (Kd.R_new' (Kd.R_new' ho0 (Kd.R_lt (by (with_reducible repeat (first | apply Kd.R_alloc | apply Kd.R_drewN | apply Kd.R_drew)); exact HO128.out))) (Kd.R_lt (by (with_reducible repeat (first | apply Kd.R_alloc | apply Kd.R_drewN | apply Kd.R_drew)); exact HO131.out))) (Kd.R_lt (by (with_reducible repeat (first | apply Kd.R_alloc | apply Kd.R_drewN | apply Kd.R_drew)); exact HO138.out))) (Kd.R_lt (by (with_reducible repeat (first | apply Kd.R_alloc | apply Kd.R_drewN | apply Kd.R_drew)); exact HO143.out))) (Kd.R_lt (by (with_reducible repeat (first | apply Kd.R_alloc | apply Kd.R_drewN | apply Kd.R_drew)); exact HO150.out))) (below_size (by repeat (first | (with_reducible first | exact HB.out | apply below_alloc | apply pw_below_drewN | apply below_drew1) | exact HB.out)))); have n8_ := Aside0.mk (below_step (by repeat (first | (with_reducible first | exact HB.out | apply below_alloc | apply pw_below_drewN | apply below_drew1) | exact HB.out)) hb); clear HO128; clear HO131; clear HO134; clear HO138; clear HO143; clear HO146; clear HO150; clear HB; have HO128 := n0_; have HO131 := n1_; have HO134 := n2_; have HO138 := n3_; have HO143 := n4_; have HO146 := n5_; have HO150 := n6_; have HO153 := n7_; have HB := n8_; clear n0_ n1_ n2_ n3_ n4_ n5_ n6_ n7_ n8_; (try clear hb); (try clear hb2); (try clear hk); (try clear hi); (try clear ho0)) | ((with_reducible refine gate_callee (f := 14) rfl ?_); refine goesL_ (some 39) rfl rfl Try.func14 (by kernel_rfl) rfl #[.slice Ao34 t135.length co34, .int .i64 3] rfl (by (try simp only [List.map_toArray, List.map_cons, List.map_nil]); first | done | rfl | (simp only [List.length_drop, List.length_take]; rfl)) ?_; (with_reducible refine (merge_Visible.calls k _ _ t135 3 t154 _ ?side1 ?side2 A6.out).mono ?_); (case side1 => repeat (first | exact (Kd.R_reads' HO138.out).2.2 | (with_reducible refine Kd.C_alloc ?_ _) | (with_reducible refine Kd.C_drewN ?_ _) | (with_reducible refine Kd.C_drew ?_))); (case side2 => exact (Kd.R_reads' HO138.out).2.1); rintro e w36 ⟨v155, rfl, ho0, hb⟩; refine ⟨_, rfl, ?_⟩; have n0_ := Aside0.mk (Kd.R_elder' (by (with_reducible repeat (first | apply Kd.R_alloc | apply Kd.R_drewN | apply Kd.R_drew)); exact HO128.out) (Kd.R_base ho0) hb); have n1_ := Aside0.mk (Kd.R_elder' (by (with_reducible repeat (first | apply Kd.R_alloc | apply Kd.R_drewN | apply Kd.R_drew)); exact HO131.out) (Kd.R_base ho0) hb); have n2_ := Aside0.mk (Kd.S_elder' (by (with_reducible repeat (first | apply Kd.S_alloc | apply Kd.S_drewN | apply Kd.S_drew)); exact HO134.out) (Kd.R_base ho0) hb); have n3_ := Aside0.mk (Kd.R_elder' (by (with_reducible repeat (first | apply Kd.R_alloc | apply Kd.R_drewN | apply Kd.R_drew)); exact HO138.out) (Kd.R_base ho0) hb); have n4_ := Aside0.mk (Kd.R_elder' (by (with_reducible repeat (first | apply Kd.R_alloc | apply Kd.R_drewN | apply Kd.R_drew)); exact HO143.out) (Kd.R_base ho0) hb); have n5_ := Aside0.mk (Kd.S_elder' (by (with_reducible repeat (first | apply Kd.S_alloc | apply Kd.S_drewN | apply Kd.S_drew)); exact HO146.out) (Kd.R_base ho0) hb); have n6_ := Aside0.mk (Kd.R_elder' (by (with_reducible repeat (first | apply Kd.R_alloc | apply Kd.R_drewN | apply Kd.R_drew)); exact HO150.out) (Kd.R_base ho0) hb); have n7_ := Aside0.mk (Kd.R_elder' (by (with_reducible repeat (first | apply Kd.R_alloc | apply Kd.R_drewN | apply Kd.R_drew)); exact HO153.out) (Kd.R_base ho0) hb); have n8_ := Aside0.mk (Kd.R_lower (Kd.R_new' (Kd.R_new' (Kd.R_new' (Kd.R_new' (Kd.R_new' (Kd.R_new' ho0 (Kd.R_lt (by (with_reducible repeat (first | apply Kd.R_alloc | apply Kd.R_drewN | apply Kd.R_drew)); exact HO128.out))) (Kd.R_lt (by (with_reducible repeat (first | apply Kd.R_alloc | apply Kd.R_drewN | apply Kd.R_drew)); exact HO131.out))) (Kd.R_lt (by (with_reducible repeat (first | apply Kd.R_alloc | apply Kd.R_drewN | apply Kd.R_drew)); exact HO138.out))) (Kd.R_lt (by (with_reducible repeat (first | apply Kd.R_alloc | apply Kd.R_drewN | apply Kd.R_drew)); exact HO143.out))) (Kd.R_lt (by (with_reducible repeat (first | apply Kd.R_alloc | apply Kd.R_drewN | apply Kd.R_drew)); exact HO150.out))) (Kd.R_lt (by (with_reducible repeat (first | apply Kd.R_alloc | apply Kd.R_drewN | apply Kd.R_drew)); exact HO153.out))) (below_size (by repeat (first | (with_reducible first | exact HB.out | apply below_alloc | apply pw_below_drewN | apply below_drew1) | exact HB.out)))); have n9_ := Aside0.mk (below_step (by repeat (first | (with_reducible first | exact HB.out | apply below_alloc | apply pw_below_drewN | apply below_drew1) | exact HB.out)) hb); clear HO128; clear HO131; clear HO134; clear HO138; clear HO143; clear HO146; clear HO150; clear HO153; clear HB; have HO128 := n0_; have HO131 := n1_; have HO134 := n2_; have HO138 := n3_; have HO143 := n4_; have HO146 := n5_; have HO150 := n6_; have HO153 := n7_; have HO156 := n8_; have HB := n9_; clear n0_ n1_ n2_ n3_ n4_ n5_ n6_ n7_ n8_ n9_; (try clear hb); (try clear hb2); (try clear hk); (try clear hi); (try clear ho0)) | ((with_reducible refine gate_dst (N := 41) rfl ?_); (try (refine gate_guard (by rfl) ?_; dsimp only)); refine Kd.R_lit (Kd.int .i64) _ 3 ?hg (N := 41) ?hd (xs := ([2] : List Int)) (inner := [.int .i64 2]) (ok := fun _ => True) (okp := fun _ => True) ?hr ?hp (fun _ hk => hk) trivial (Below.refl _ _) (Nat.le_refl _) (by simp) ?_; (case hd => rfl); (case hg => rfl); (case hr => first | (go_simp; done) | (go_simp; rfl)); (case hp => exact (Reps.one (show Kd.M (Kd.int .i64) _ _ _ 2 [.int .i64 2] from rfl) (Reps.none _ _))); intro v158 w37 ho38 hb hg_ hnew_; clear hg_ hnew_; (first | rw [← Ny157.out] at ho38 | (simp only [Int.reduceToNat] at ho38; rw [← Ny157.out] at ho38)); have n0_ := Aside0.mk (Kd.R_below (by (with_reducible repeat (first | apply Kd.R_alloc | apply Kd.R_drewN | apply Kd.R_drew)); exact HO128.out) hb); have n1_ := Aside0.mk (Kd.R_below (by (with_reducible repeat (first | apply Kd.R_alloc | apply Kd.R_drewN | apply Kd.R_drew)); exact HO131.out) hb); have n2_ := Aside0.mk (Kd.S_below (by (with_reducible repeat (first | apply Kd.S_alloc | apply Kd.S_drewN | apply Kd.S_drew)); exact HO134.out) hb); have n3_ := Aside0.mk (Kd.R_below (by (with_reducible repeat (first | apply Kd.R_alloc | apply Kd.R_drewN | apply Kd.R_drew)); exact HO138.out) hb); have n4_ := Aside0.mk (Kd.R_below (by (with_reducible repeat (first | apply Kd.R_alloc | apply Kd.R_drewN | apply Kd.R_drew)); exact HO143.out) hb); have n5_ := Aside0.mk (Kd.S_below (by (with_reducible repeat (first | apply Kd.S_alloc | apply Kd.S_drewN | apply Kd.S_drew)); exact HO146.out) hb); have n6_ := Aside0.mk (Kd.R_below (by (with_reducible repeat (first | apply Kd.R_alloc | apply Kd.R_drewN | apply Kd.R_drew)); exact HO150.out) hb); have n7_ := Aside0.mk (Kd.R_below (by (with_reducible repeat (first | apply Kd.R_alloc | apply Kd.R_drewN | apply Kd.R_drew)); exact HO153.out) hb); have n8_ := Aside0.mk (Kd.R_below (by (with_reducible repeat (first | apply Kd.R_alloc | apply Kd.R_drewN | apply Kd.R_drew)); exact HO156.out) hb); have n9_ := Aside0.mk (Kd.R_lower ho38 (below_size (by repeat (first | (with_reducible first | exact HB.out | apply below_alloc | apply pw_below_drewN | apply below_drew1) | exact HB.out)))); have n10_ := Aside0.mk (below_step (by repeat (first | (with_reducible first | exact HB.out | apply below_alloc | apply pw_below_drewN | apply below_drew1) | exact HB.out)) hb); clear HO128; clear HO131; clear HO134; clear HO138; clear HO143; clear HO146; clear HO150; clear HO153; clear HO156; clear HB; have HO128 := n0_; have HO131 := n1_; have HO134 := n2_; have HO138 := n3_; have HO143 := n4_; have HO146 := n5_; have HO150 := n6_; have HO153 := n7_; have HO156 := n8_; have HO159 := n9_; have HB := n10_; clear n0_ n1_ n2_ n3_ n4_ n5_ n6_ n7_ n8_ n9_ n10_; clear hb ho38; obtain ⟨Ao39, co39, eo39⟩ := Kd.R_slice HO159.out; subst eo39) | ((with_reducible refine gate_callee (f := 16) rfl ?_); refine goesL_ (some 42) rfl rfl Try.func16 (by kernel_rfl) rfl #[.slice Ao34 t135.length co34, .slice Ao39 y157.length co39, .bool false] rfl (by (try simp only [List.map_toArray, List.map_cons, List.map_nil]); first | done | rfl | (simp only [List.length_drop, List.length_take]; rfl)) ?_; (with_reducible refine (merge_Pack.calls k _ _ t135 _ _ y157 false t160 _ ?side1 ?side2 ?side3 ?side4 A7.out).mono ?_); (case side1 => repeat (first | exact (Kd.R_reads' HO138.out).2.2 | (with_reducible refine Kd.C_alloc ?_ _) | (with_reducible refine Kd.C_drewN ?_ _) | (with_reducible refine Kd.C_drew ?_))); (case side2 => exact (Kd.R_reads' HO138.out).2.1); (case side3 => repeat (first | exact (Kd.R_reads' HO159.out).2.2 | (with_reducible refine Kd.C_alloc ?_ _) | (with_reducible refine Kd.C_drewN ?_ _) | (with_reducible refine Kd.C_drew ?_))); (case side4 => exact (Kd.R_reads' HO159.out).2.1); rintro e w40 ⟨v161, rfl, ho0, hb⟩; refine ⟨_, rfl, ?_⟩; have n0_ := Aside0.mk (Kd.R_elder' (by (with_reducible repeat (first | apply Kd.R_alloc | apply Kd.R_drewN | apply Kd.R_drew)); exact HO128.out) (Kd.R_base ho0) hb); have n1_ := Aside0.mk (Kd.R_elder' (by (with_reducible repeat (first | apply Kd.R_alloc | apply Kd.R_drewN | apply Kd.R_drew)); exact HO131.out) (Kd.R_base ho0) hb); have n2_ := Aside0.mk (Kd.S_elder' (by (with_reducible repeat (first | apply Kd.S_alloc | apply Kd.S_drewN | apply Kd.S_drew)); exact HO134.out) (Kd.R_base ho0) hb); have n3_ := Aside0.mk (Kd.R_elder' (by (with_reducible repeat (first | apply Kd.R_alloc | apply Kd.R_drewN | apply Kd.R_drew)); exact HO138.out) (Kd.R_base ho0) hb); have n4_ := Aside0.mk (Kd.R_elder' (by (with_reducible repeat (first | apply Kd.R_alloc | apply Kd.R_drewN | apply Kd.R_drew)); exact HO143.out) (Kd.R_base ho0) hb); have n5_ := Aside0.mk (Kd.S_elder' (by (with_reducible repeat (first | apply Kd.S_alloc | apply Kd.S_drewN | apply Kd.S_drew)); exact HO146.out) (Kd.R_base ho0) hb); have n6_ := Aside0.mk (Kd.R_elder' (by (with_reducible repeat (first | apply Kd.R_alloc | apply Kd.R_drewN | apply Kd.R_drew)); exact HO150.out) (Kd.R_base ho0) hb); have n7_ := Aside0.mk (Kd.R_elder' (by (with_reducible repeat (first | apply Kd.R_alloc | apply Kd.R_drewN | apply Kd.R_drew)); exact HO153.out) (Kd.R_base ho0) hb); have n8_ := Aside0.mk (Kd.R_elder' (by (with_reducible repeat (first | apply Kd.R_alloc | apply Kd.R_drewN | apply Kd.R_drew)); exact HO156.out) (Kd.R_base ho0) hb); have n9_ := Aside0.mk (Kd.R_below (by (with_reducible repeat (first | apply Kd.R_alloc | apply Kd.R_drewN | apply Kd.R_drew)); exact HO159.out) hb); have n10_ := Aside0.mk (Kd.R_lower (Kd.R_new' (Kd.R_new' (Kd.R_new' (Kd.R_new' (Kd.R_new' (Kd.R_new' (Kd.R_new' ho0 (Kd.R_lt (by (with_reducible repeat (first | apply Kd.R_alloc | apply Kd.R_drewN | apply Kd.R_drew)); exact HO128.out))) (Kd.R_lt (by (with_reducible repeat (first | apply Kd.R_alloc | apply Kd.R_drewN | apply Kd.R_drew)); exact HO131.out))) (Kd.R_lt (by (with_reducible repeat (first | apply Kd.R_alloc | apply Kd.R_drewN | apply Kd.R_drew)); exact HO138.out))) (Kd.R_lt (by (with_reducible repeat (first | apply Kd.R_alloc | apply Kd.R_drewN | apply Kd.R_drew)); exact HO143.out))) (Kd.R_lt (by (with_reducible repeat (first | apply Kd.R_alloc | apply Kd.R_drewN | apply Kd.R_drew)); exact HO150.out))) (Kd.R_lt (by (with_reducible repeat (first | apply Kd.R_alloc | apply Kd.R_drewN | apply Kd.R_drew)); exact HO153.out))) (Kd.R_lt (by (with_reducible repeat (first | apply Kd.R_alloc | apply Kd.R_drewN | apply Kd.R_drew)); exact HO156.out))) (below_size (by repeat (first | (with_reducible first | exact HB.out | apply below_alloc | apply pw_below_drewN | apply below_drew1) | exact HB.out)))); have n11_ := Aside0.mk (below_step (by repeat (first | (with_reducible first | exact HB.out | apply below_alloc | apply pw_below_drewN | apply below_drew1) | exact HB.out)) hb); clear HO128; clear HO131; clear HO134; clear HO138; clear HO143; clear HO146; clear HO150; clear HO153; clear HO156; clear HO159; clear HB; have HO128 := n0_; have HO131 := n1_; have HO134 := n2_; have HO138 := n3_; have HO143 := n4_; have HO146 := n5_; have HO150 := n6_; have HO153 := n7_; have HO156 := n8_; have HO159 := n9_; have HO162 := n10_; have HB := n11_; clear n0_ n1_ n2_ n3_ n4_ n5_ n6_ n7_ n8_ n9_ n10_ n11_; (try clear hb); (try clear hb2); (try clear hk); (try clear hi); (try clear ho0)) | ((with_reducible refine gate_dst (N := 44) rfl ?_); (try (refine gate_guard (by rfl) ?_; dsimp only)); refine Kd.R_lit (Kd.int .i64) _ 3 ?hg (N := 44) ?hd (xs := ([2] : List Int)) (inner := [.int .i64 2]) (ok := fun _ => True) (okp := fun _ => True) ?hr ?hp (fun _ hk => hk) trivial (Below.refl _ _) (Nat.le_refl _) (by simp) ?_; (case hd => rfl); (case hg => rfl); (case hr => first | (go_simp; done) | (go_simp; rfl)); (case hp => exact (Reps.one (show Kd.M (Kd.int .i64) _ _ _ 2 [.int .i64 2] from rfl) (Reps.none _ _))); intro v164 w41 ho42 hb hg_ hnew_; clear hg_ hnew_; (first | rw [← Ny163.out] at ho42 | (simp only [Int.reduceToNat] at ho42; rw [← Ny163.out] at ho42)); have n0_ := Aside0.mk (Kd.R_below (by (with_reducible repeat (first | apply Kd.R_alloc | apply Kd.R_drewN | apply Kd.R_drew)); exact HO128.out) hb); have n1_ := Aside0.mk (Kd.R_below (by (with_reducible repeat (first | apply Kd.R_alloc | apply Kd.R_drewN | apply Kd.R_drew)); exact HO131.out) hb); have n2_ := Aside0.mk (Kd.S_below (by (with_reducible repeat (first | apply Kd.S_alloc | apply Kd.S_drewN | apply Kd.S_drew)); exact HO134.out) hb); have n3_ := Aside0.mk (Kd.R_below (by (with_reducible repeat (first | apply Kd.R_alloc | apply Kd.R_drewN | apply Kd.R_drew)); exact HO138.out) hb); have n4_ := Aside0.mk (Kd.R_below (by (with_reducible repeat (first | apply Kd.R_alloc | apply Kd.R_drewN | apply Kd.R_drew)); exact HO143.out) hb); have n5_ := Aside0.mk (Kd.S_below (by (with_reducible repeat (first | apply Kd.S_alloc | apply Kd.S_drewN | apply Kd.S_drew)); exact HO146.out) hb); have n6_ := Aside0.mk (Kd.R_below (by (with_reducible repeat (first | apply Kd.R_alloc | apply Kd.R_drewN | apply Kd.R_drew)); exact HO150.out) hb); have n7_ := Aside0.mk (Kd.R_below (by (with_reducible repeat (first | apply Kd.R_alloc | apply Kd.R_drewN | apply Kd.R_drew)); exact HO153.out) hb); have n8_ := Aside0.mk (Kd.R_below (by (with_reducible repeat (first | apply Kd.R_alloc | apply Kd.R_drewN | apply Kd.R_drew)); exact HO156.out) hb); have n9_ := Aside0.mk (Kd.R_elder' (by (with_reducible repeat (first | apply Kd.R_alloc | apply Kd.R_drewN | apply Kd.R_drew)); exact HO159.out) (Kd.R_base ho42) hb); have n10_ := Aside0.mk (Kd.R_below (by (with_reducible repeat (first | apply Kd.R_alloc | apply Kd.R_drewN | apply Kd.R_drew)); exact HO162.out) hb); have n11_ := Aside0.mk (Kd.R_lower (Kd.R_new' ho42 (Kd.R_lt (by (with_reducible repeat (first | apply Kd.R_alloc | apply Kd.R_drewN | apply Kd.R_drew)); exact HO159.out))) (below_size (by repeat (first | (with_reducible first | exact HB.out | apply below_alloc | apply pw_below_drewN | apply below_drew1) | exact HB.out)))); have n12_ := Aside0.mk (below_step (by repeat (first | (with_reducible first | exact HB.out | apply below_alloc | apply pw_below_drewN | apply below_drew1) | exact HB.out)) hb); clear HO128; clear HO131; clear HO134; clear HO138; clear HO143; clear HO146; clear HO150; clear HO153; clear HO156; clear HO159; clear HO162; clear HB; have HO128 := n0_; have HO131 := n1_; have HO134 := n2_; have HO138 := n3_; have HO143 := n4_; have HO146 := n5_; have HO150 := n6_; have HO153 := n7_; have HO156 := n8_; have HO159 := n9_; have HO162 := n10_; have HO165 := n11_; have HB := n12_; clear n0_ n1_ n2_ n3_ n4_ n5_ n6_ n7_ n8_ n9_ n10_ n11_ n12_; clear hb ho42; obtain ⟨Ao43, co43, eo43⟩ := Kd.R_slice HO165.out; subst eo43) | ((with_reducible refine gate_callee (f := 16) rfl ?_); refine goesL_ (some 45) rfl rfl Try.func16 (by kernel_rfl) rfl #[.slice Ao34 t135.length co34, .slice Ao43 y163.length co43, .bool true] rfl (by (try simp only [List.map_toArray, List.map_cons, List.map_nil]); first | done | rfl | (simp only [List.length_drop, List.length_take]; rfl)) ?_; (with_reducible refine (merge_Pack.calls k _ _ t135 _ _ y163 true t166 _ ?side1 ?side2 ?side3 ?side4 A8.out).mono ?_); (case side1 => repeat (first | exact (Kd.R_reads' HO138.out).2.2 | (with_reducible refine Kd.C_alloc ?_ _) | (with_reducible refine Kd.C_drewN ?_ _) | (with_reducible refine Kd.C_drew ?_))); (case side2 => exact (Kd.R_reads' HO138.out).2.1); (case side3 => repeat (first | exact (Kd.R_reads' HO165.out).2.2 | (with_reducible refine Kd.C_alloc ?_ _) | (with_reducible refine Kd.C_drewN ?_ _) | (with_reducible refine Kd.C_drew ?_))); (case side4 => exact (Kd.R_reads' HO165.out).2.1); rintro e w44 ⟨v167, rfl, ho0, hb⟩; refine ⟨_, rfl, ?_⟩; have n0_ := Aside0.mk (Kd.R_elder' (by (with_reducible repeat (first | apply Kd.R_alloc | apply Kd.R_drewN | apply Kd.R_drew)); exact HO128.out) (Kd.R_base ho0) hb); have n1_ := Aside0.mk (Kd.R_elder' (by (with_reducible repeat (first | apply Kd.R_alloc | apply Kd.R_drewN | apply Kd.R_drew)); exact HO131.out) (Kd.R_base ho0) hb); have n2_ := Aside0.mk (Kd.S_elder' (by (with_reducible repeat (first | apply Kd.S_alloc | apply Kd.S_drewN | apply Kd.S_drew)); exact HO134.out) (Kd.R_base ho0) hb); have n3_ := Aside0.mk (Kd.R_elder' (by (with_reducible repeat (first | apply Kd.R_alloc | apply Kd.R_drewN | apply Kd.R_drew)); exact HO138.out) (Kd.R_base ho0) hb); have n4_ := Aside0.mk (Kd.R_elder' (by (with_reducible repeat (first | apply Kd.R_alloc | apply Kd.R_drewN | apply Kd.R_drew)); exact HO143.out) (Kd.R_base ho0) hb); have n5_ := Aside0.mk (Kd.S_elder' (by (with_reducible repeat (first | apply Kd.S_alloc | apply Kd.S_drewN | apply Kd.S_drew)); exact HO146.out) (Kd.R_base ho0) hb); have n6_ := Aside0.mk (Kd.R_elder' (by (with_reducible repeat (first | apply Kd.R_alloc | apply Kd.R_drewN | apply Kd.R_drew)); exact HO150.out) (Kd.R_base ho0) hb); have n7_ := Aside0.mk (Kd.R_elder' (by (with_reducible repeat (first | apply Kd.R_alloc | apply Kd.R_drewN | apply Kd.R_drew)); exact HO153.out) (Kd.R_base ho0) hb); have n8_ := Aside0.mk (Kd.R_elder' (by (with_reducible repeat (first | apply Kd.R_alloc | apply Kd.R_drewN | apply Kd.R_drew)); exact HO156.out) (Kd.R_base ho0) hb); have n9_ := Aside0.mk (Kd.R_below (by (with_reducible repeat (first | apply Kd.R_alloc | apply Kd.R_drewN | apply Kd.R_drew)); exact HO159.out) hb); have n10_ := Aside0.mk (Kd.R_elder' (by (with_reducible repeat (first | apply Kd.R_alloc | apply Kd.R_drewN | apply Kd.R_drew)); exact HO162.out) (Kd.R_base ho0) hb); have n11_ := Aside0.mk (Kd.R_below (by (with_reducible repeat (first | apply Kd.R_alloc | apply Kd.R_drewN | apply Kd.R_drew)); exact HO165.out) hb); have n12_ := Aside0.mk (Kd.R_lower (Kd.R_new' (Kd.R_new' (Kd.R_new' (Kd.R_new' (Kd.R_new' (Kd.R_new' (Kd.R_new' (Kd.R_new' ho0 (Kd.R_lt (by (with_reducible repeat (first | apply Kd.R_alloc | apply Kd.R_drewN | apply Kd.R_drew)); exact HO128.out))) (Kd.R_lt (by (with_reducible repeat (first | apply Kd.R_alloc | apply Kd.R_drewN | apply Kd.R_drew)); exact HO131.out))) (Kd.R_lt (by (with_reducible repeat (first | apply Kd.R_alloc | apply Kd.R_drewN | apply Kd.R_drew)); exact HO138.out))) (Kd.R_lt (by (with_reducible repeat (first | apply Kd.R_alloc | apply Kd.R_drewN | apply Kd.R_drew)); exact HO143.out))) (Kd.R_lt (by (with_reducible repeat (first | apply Kd.R_alloc | apply Kd.R_drewN | apply Kd.R_drew)); exact HO150.out))) (Kd.R_lt (by (with_reducible repeat (first | apply Kd.R_alloc | apply Kd.R_drewN | apply Kd.R_drew)); exact HO153.out))) (Kd.R_lt (by (with_reducible repeat (first | apply Kd.R_alloc | apply Kd.R_drewN | apply Kd.R_drew)); exact HO156.out))) (Kd.R_lt (by (with_reducible repeat (first | apply Kd.R_alloc | apply Kd.R_drewN | apply Kd.R_drew)); exact HO162.out))) (below_size (by repeat (first | (with_reducible first | exact HB.out | apply below_alloc | apply pw_below_drewN | apply below_drew1) | exact HB.out)))); have n13_ := Aside0.mk (below_step (by repeat (first | (with_reducible first | exact HB.out | apply below_alloc | apply pw_below_drewN | apply below_drew1) | exact HB.out)) hb); clear HO128; clear HO131; clear HO134; clear HO138; clear HO143; clear HO146; clear HO150; clear HO153; clear HO156; clear HO159; clear HO162; clear HO165; clear HB; have HO128 := n0_; have HO131 := n1_; have HO134 := n2_; have HO138 := n3_; have HO143 := n4_; have HO146 := n5_; have HO150 := n6_; have HO153 := n7_; have HO156 := n8_; have HO159 := n9_; have HO162 := n10_; have HO165 := n11_; have HO168 := n12_; have HB := n13_; clear n0_ n1_ n2_ n3_ n4_ n5_ n6_ n7_ n8_ n9_ n10_ n11_ n12_ n13_; (try clear hb); (try clear hb2); (try clear hk); (try clear hi); (try clear ho0)))
  have n0_ := Aside0.mk (Kd.R_drew HO128.out)
  have n1_ := Aside0.mk (Kd.R_drew HO131.out)
  have n2_ := Aside0.mk (Kd.S_drew HO134.out)
  have n3_ := Aside0.mk (Kd.R_drew HO138.out)
  have n4_ := Aside0.mk (Kd.R_drew HO143.out)
  have n5_ := Aside0.mk (Kd.S_drew HO146.out)
  have n6_ := Aside0.mk (Kd.R_drew HO150.out)
  have n7_ := Aside0.mk (Kd.R_drew HO153.out)
  have n8_ := Aside0.mk (Kd.R_drew HO156.out)
  have n9_ := Aside0.mk (Kd.R_drew HO159.out)
  have n10_ := Aside0.mk (Kd.R_drew HO162.out)
  have n11_ := Aside0.mk (Kd.R_drew HO165.out)
  have n12_ := Aside0.mk (Kd.R_drew HO168.out)
  have n13_ := Aside0.mk (below_drew1 HB.out)
  clear HO128
  clear HO131
  clear HO134
  clear HO138
  clear HO143
  clear HO146
  clear HO150
  clear HO153
  clear HO156
  clear HO159
  clear HO162
  clear HO165
  clear HO168
  clear HB
  have HO128 := n0_
  have HO131 := n1_
  have HO134 := n2_
  have HO138 := n3_
  have HO143 := n4_
  have HO146 := n5_
  have HO150 := n6_
  have HO153 := n7_
  have HO156 := n8_
  have HO159 := n9_
  have HO162 := n10_
  have HO165 := n11_
  have HO168 := n12_
  have HB := n13_
  clear n0_ n1_ n2_ n3_ n4_ n5_ n6_ n7_ n8_ n9_ n10_ n11_ n12_ n13_
  have p169 : 0 ≤ (1 : Int) := (by omega)
  have q169 : 1 < (t135.length : Int) := of_decide_eq_true (by first | (with_reducible assumption) | assumption)
  obtain ⟨ad169, e169, hx169_0, hx169_1, hx169_2, hx169_3⟩ := at_T39 (Kd.R_reads' HO138.out).2.2 1 p169 q169
  cases e169
  (try simp only [show (1 : Int).toNat = 1 from rfl, Nat.reduceMul, Nat.reduceEqDiff, Go.Addr.add, ↓reduceIte] at hx169_0)
  (try simp only [show (1 : Int).toNat = 1 from rfl, Nat.reduceMul, Nat.reduceEqDiff, Go.Addr.add, ↓reduceIte] at hx169_1)
  (try simp only [show (1 : Int).toNat = 1 from rfl, Nat.reduceMul, Nat.reduceEqDiff, Go.Addr.add, ↓reduceIte] at hx169_2)
  (try simp only [show (1 : Int).toNat = 1 from rfl, Nat.reduceMul, Nat.reduceEqDiff, Go.Addr.add, ↓reduceIte] at hx169_3)
  have qi169 : (1 < t135.length) = True := eq_true (by omega)
  (try rw [show ((1 : Int)).toNat = 1 from rfl] at hx169_0)
  (try rw [show 1 * 4 = 4 from rfl] at hx169_0)
  (try rw [show ((1 : Int)).toNat = 1 from rfl] at hx169_1)
  (try rw [show 1 * 4 = 4 from rfl] at hx169_1)
  (try rw [show ((1 : Int)).toNat = 1 from rfl] at hx169_2)
  (try rw [show 1 * 4 = 4 from rfl] at hx169_2)
  (try rw [show ((1 : Int)).toNat = 1 from rfl] at hx169_3)
  (try rw [show 1 * 4 = 4 from rfl] at hx169_3)
  replace p169 := eq_true p169
  replace q169 := eq_true q169
  obtain ⟨Ao46, co46, eo46⟩ := Kd.R_slice HO131.out
  (first | subst eo46 | (injection eo46 with f1_ f2_ f3_; have f4_ := f1_.symm; have f5_ := f3_.symm; clear f1_ f2_ f3_; subst f4_; subst f5_))
  have p170 : 0 ≤ (0 : Int) := (by omega)
  have q170 : 0 < (y129.length : Int) := of_decide_eq_true (by first | (with_reducible assumption) | assumption)
  obtain ⟨ad170, e170, hx170_0, hx170_1, hx170_2, hx170_3⟩ := at_T39 (Kd.R_reads' HO131.out).2.2 0 p170 q170
  cases e170
  have qi170 : (0 < y129.length) = True := eq_true (by omega)
  (try rw [show ((0 : Int)).toNat = 0 from rfl] at hx170_0)
  (try rw [show 0 * 4 = 0 from rfl] at hx170_0)
  (try rw [Addr.add_zero'] at hx170_0)
  (try rw [show ((0 : Int)).toNat = 0 from rfl] at hx170_1)
  (try rw [show 0 * 4 = 0 from rfl] at hx170_1)
  (try rw [Addr.add_zero'] at hx170_1)
  (try rw [show ((0 : Int)).toNat = 0 from rfl] at hx170_2)
  (try rw [show 0 * 4 = 0 from rfl] at hx170_2)
  (try rw [Addr.add_zero'] at hx170_2)
  (try rw [show ((0 : Int)).toNat = 0 from rfl] at hx170_3)
  (try rw [show 0 * 4 = 0 from rfl] at hx170_3)
  (try rw [Addr.add_zero'] at hx170_3)
  replace p170 := eq_true p170
  replace q170 := eq_true q170
  obtain ⟨Ao47, co47, eo47⟩ := Kd.R_slice HO153.out
  (first | subst eo47 | (injection eo47 with f1_ f2_ f3_; have f4_ := f1_.symm; have f5_ := f3_.symm; clear f1_ f2_ f3_; subst f4_; subst f5_))
  obtain ⟨Ao48, co48, eo48⟩ := Kd.R_slice HO156.out
  (first | subst eo48 | (injection eo48 with f1_ f2_ f3_; have f4_ := f1_.symm; have f5_ := f3_.symm; clear f1_ f2_ f3_; subst f4_; subst f5_))
  obtain ⟨Ao49, co49, eo49⟩ := Kd.R_slice HO162.out
  (first | subst eo49 | (injection eo49 with f1_ f2_ f3_; have f4_ := f1_.symm; have f5_ := f3_.symm; clear f1_ f2_ f3_; subst f4_; subst f5_))
  obtain ⟨Ao50, co50, eo50⟩ := Kd.R_slice HO168.out
  (first | subst eo50 | (injection eo50 with f1_ f2_ f3_; have f4_ := f1_.symm; have f5_ := f3_.symm; clear f1_ f2_ f3_; subst f4_; subst f5_))
  refine start_ (n := 41) (S := fun w' => w'.cell? ⟨ad169.block, ad169.off + 4, none⟩ = some (.string ((rd_T39 t135 1).f0)) ∧ w'.cell? ⟨ad169.block, ad169.off + 4 + 1, none⟩ = some (.int .i64 ((rd_T39 t135 1).f1)) ∧ w'.cell? ⟨ad169.block, ad169.off + 4 + 2, none⟩ = some (.bool ((rd_T39 t135 1).f2)) ∧ w'.cell? ⟨ad169.block, ad169.off + 4 + 3, none⟩ = some (.string ((rd_T39 t135 1).f3)) ∧ w'.cell? ad170 = some (.string ((rd_T39 y129 0).f0)) ∧ w'.cell? ⟨ad170.block, ad170.off + 1, none⟩ = some (.int .i64 ((rd_T39 y129 0).f1)) ∧ w'.cell? ⟨ad170.block, ad170.off + 2, none⟩ = some (.bool ((rd_T39 y129 0).f2)) ∧ w'.cell? ⟨ad170.block, ad170.off + 3, none⟩ = some (.string ((rd_T39 y129 0).f3))) (ds := []) #[false, false, false, false, false, false, false, false, false, false, false, false, false, false, false, false, false, false, false, false, false, false, false, false, false, false, false, false, false, false, false, false, false, false, false, false, false, false, false, false, false] (by kernel_rfl) rfl rfl ⟨hx169_0, hx169_1, hx169_2, hx169_3, hx170_0, hx170_1, hx170_2, hx170_3⟩ (fun hHeld => ?_); refine with_tabW ravelinlaw11_known.tab9 ravelinlaw11_known.bits9 (fun HT_ HW_ => ?_)
  generalize w44.drew = w45 at HO128 HO131 HO134 HO138 HO143 HO146 HO150 HO153 HO156 HO159 HO162 HO165 HO168 HB hx169_0 hx169_1 hx169_2 hx169_3 hx170_0 hx170_1 hx170_2 hx170_3 hHeld ⊢
  refine pure_ (i := 0) (N := some 46) (v := ?_) (a' := ?_) #[true, false, false, false, false, false, false, false, false, false, false, false, false, false, false, false, false, false, false, false, false, false, false, false, false, false, false, false, false, false, false, false, false, false, false, false, false, false, false, false, false] rfl rfl (any_of HT_.out (by kernel_rfl)) (fun _ _ _ h => h) (Or.inl ⟨by rfl, ?_⟩) ?_ ?_
  rotate_left
  · intro w'
    go_simp
    with_reducible rfl
  rotate_left
  · simp only [Act.put, List.setIfInBounds_toArray, List.set_cons_zero, List.set_cons_succ, i64_w, i32_w]
    rfl
  refine pure_ (i := 1) (N := some 47) (v := ?_) (a' := ?_) #[true, true, false, false, false, false, false, false, false, false, false, false, false, false, false, false, false, false, false, false, false, false, false, false, false, false, false, false, false, false, false, false, false, false, false, false, false, false, false, false, false] rfl rfl (any_of HT_.out (by kernel_rfl)) (fun _ _ _ h => h) (Or.inl ⟨by rfl, ?_⟩) ?_ ?_
  rotate_left
  · intro w'
    go_simp
    with_reducible rfl
  rotate_left
  · simp only [Act.put, List.setIfInBounds_toArray, List.set_cons_zero, List.set_cons_succ, i64_w, i32_w]
    rfl
  refine pure_ (i := 2) (N := some 48) (v := ?_) (a' := ?_) #[true, true, true, false, false, false, false, false, false, false, false, false, false, false, false, false, false, false, false, false, false, false, false, false, false, false, false, false, false, false, false, false, false, false, false, false, false, false, false, false, false] rfl rfl (any_of HT_.out (by kernel_rfl)) (fun _ _ _ h => h) (Or.inl ⟨by rfl, ?_⟩) ?_ ?_
  rotate_left
  · intro w'
    go_simp
    with_reducible rfl
  rotate_left
  · simp only [Act.put, List.setIfInBounds_toArray, List.set_cons_zero, List.set_cons_succ, i64_w, i32_w]
    rfl
  refine pure_ (i := 3) (N := some 49) (v := ?_) (a' := ?_) #[true, true, true, true, false, false, false, false, false, false, false, false, false, false, false, false, false, false, false, false, false, false, false, false, false, false, false, false, false, false, false, false, false, false, false, false, false, false, false, false, false] rfl rfl (any_of HT_.out (by kernel_rfl)) (fun _ _ _ h => h) (Or.inl ⟨by rfl, ?_⟩) ?_ ?_
  rotate_left
  · intro w'
    go_simp
    with_reducible rfl
  rotate_left
  · simp only [Act.put, List.setIfInBounds_toArray, List.set_cons_zero, List.set_cons_succ, i64_w, i32_w]
    rfl
  refine pure_ (i := 4) (N := some 50) (v := ?_) (a' := ?_) #[true, true, true, true, true, false, false, false, false, false, false, false, false, false, false, false, false, false, false, false, false, false, false, false, false, false, false, false, false, false, false, false, false, false, false, false, false, false, false, false, false] rfl rfl (any_of HT_.out (by kernel_rfl)) (fun _ _ _ h => h) (Or.inl ⟨by rfl, ?_⟩) ?_ ?_
  rotate_left
  · intro w'
    go_simp
    with_reducible rfl
  rotate_left
  · simp only [Act.put, List.setIfInBounds_toArray, List.set_cons_zero, List.set_cons_succ, i64_w, i32_w]
    rfl
  refine pure_ (i := 5) (N := some 51) (v := ?_) (a' := ?_) #[true, true, true, true, true, true, false, false, false, false, false, false, false, false, false, false, false, false, false, false, false, false, false, false, false, false, false, false, false, false, false, false, false, false, false, false, false, false, false, false, false] rfl rfl (any_of HT_.out (by kernel_rfl)) (fun _ _ _ h => h) (Or.inl ⟨by rfl, ?_⟩) ?_ ?_
  rotate_left
  · intro w'
    go_simp
    with_reducible rfl
  rotate_left
  · simp only [Act.put, List.setIfInBounds_toArray, List.set_cons_zero, List.set_cons_succ, i64_w, i32_w]
    rfl
  refine pure_ (i := 6) (N := some 52) (v := ?_) (a' := ?_) #[true, true, true, true, true, true, true, false, false, false, false, false, false, false, false, false, false, false, false, false, false, false, false, false, false, false, false, false, false, false, false, false, false, false, false, false, false, false, false, false, false] rfl rfl (any_of HT_.out (by kernel_rfl)) (fun _ _ _ h => h) (Or.inl ⟨by rfl, ?_⟩) ?_ ?_
  rotate_left
  · intro w'
    go_simp
    with_reducible rfl
  rotate_left
  · simp only [Act.put, List.setIfInBounds_toArray, List.set_cons_zero, List.set_cons_succ, i64_w, i32_w]
    rfl
  refine pure_ (i := 7) (N := some 53) (v := ?_) (a' := ?_) #[true, true, true, true, true, true, true, true, false, false, false, false, false, false, false, false, false, false, false, false, false, false, false, false, false, false, false, false, false, false, false, false, false, false, false, false, false, false, false, false, false] rfl rfl (any_of HT_.out (by kernel_rfl)) (fun _ _ _ h => h) (Or.inl ⟨by rfl, ?_⟩) ?_ ?_
  rotate_left
  · intro w'
    go_simp
    with_reducible rfl
  rotate_left
  · simp only [Act.put, List.setIfInBounds_toArray, List.set_cons_zero, List.set_cons_succ, i64_w, i32_w]
    rfl
  refine pure_ (i := 8) (N := some 54) (v := ?_) (a' := ?_) #[true, true, true, true, true, true, true, true, true, false, false, false, false, false, false, false, false, false, false, false, false, false, false, false, false, false, false, false, false, false, false, false, false, false, false, false, false, false, false, false, false] rfl rfl (any_of HT_.out (by kernel_rfl)) (fun _ _ _ h => h) (Or.inl ⟨by rfl, ?_⟩) ?_ ?_
  rotate_left
  · intro w'
    go_simp
    with_reducible rfl
  rotate_left
  · simp only [Act.put, List.setIfInBounds_toArray, List.set_cons_zero, List.set_cons_succ, i64_w, i32_w]
    rfl
  refine pure_ (i := 9) (N := some 55) (v := ?_) (a' := ?_) #[true, true, true, true, true, true, true, true, true, true, false, false, false, false, false, false, false, false, false, false, false, false, false, false, false, false, false, false, false, false, false, false, false, false, false, false, false, false, false, false, false] rfl rfl (any_of HT_.out (by kernel_rfl)) (fun _ _ _ h => h) (Or.inl ⟨by rfl, ?_⟩) ?_ ?_
  rotate_left
  · intro w'
    go_simp
    with_reducible rfl
  rotate_left
  · simp only [Act.put, List.setIfInBounds_toArray, List.set_cons_zero, List.set_cons_succ, i64_w, i32_w]
    rfl
  refine pure_ (i := 11) (N := some 57) (v := ?_) (a' := ?_) #[true, true, true, true, true, true, true, true, true, true, false, true, false, false, false, false, false, false, false, false, false, false, false, false, false, false, false, false, false, false, false, false, false, false, false, false, false, false, false, false, false] rfl rfl (any_of HT_.out (by kernel_rfl)) (fun _ _ _ h => h) (Or.inl ⟨by rfl, ?_⟩) ?_ ?_
  rotate_left
  · intro w'
    go_simp
    with_reducible rfl
  rotate_left
  · simp only [Act.put, List.setIfInBounds_toArray, List.set_cons_zero, List.set_cons_succ, i64_w, i32_w]
    rfl
  refine pure_ (i := 12) (N := some 58) (v := ?_) (a' := ?_) #[true, true, true, true, true, true, true, true, true, true, false, true, true, false, false, false, false, false, false, false, false, false, false, false, false, false, false, false, false, false, false, false, false, false, false, false, false, false, false, false, false] rfl rfl (any_of HT_.out (by kernel_rfl)) (fun _ _ _ h => h) (Or.inl ⟨by rfl, ?_⟩) ?_ ?_
  rotate_left
  · intro w'
    go_simp
    with_reducible rfl
  rotate_left
  · simp only [Act.put, List.setIfInBounds_toArray, List.set_cons_zero, List.set_cons_succ, i64_w, i32_w]
    rfl
  refine take_ (i := 10) (N := some 56) (v := ?_) (a' := ?_) #[true, true, true, true, true, true, true, true, true, true, true, true, true, false, false, false, false, false, false, false, false, false, false, false, false, false, false, false, false, false, false, false, false, false, false, false, false, false, false, false, false] rfl rfl (take_ofW HT_.out HW_.out (by kernel_rfl)) (fun _ _ _ h => h) (Or.inl ⟨by rfl, ?_⟩) hHeld ?_ ?_
  rotate_left
  · rintro w' ⟨s0, s1, s2, s3, s4, s5, s6, s7⟩
    go_simp
    with_reducible rfl
  rotate_left
  · simp only [Act.put, List.setIfInBounds_toArray, List.set_cons_zero, List.set_cons_succ, i64_w, i32_w]
    rfl
  refine take_ (i := 13) (N := some 59) (v := ?_) (a' := ?_) #[true, true, true, true, true, true, true, true, true, true, true, true, true, true, false, false, false, false, false, false, false, false, false, false, false, false, false, false, false, false, false, false, false, false, false, false, false, false, false, false, false] rfl rfl (take_ofW HT_.out HW_.out (by kernel_rfl)) (fun _ _ _ h => h) (Or.inl ⟨by rfl, ?_⟩) hHeld ?_ ?_
  rotate_left
  · rintro w' ⟨s0, s1, s2, s3, s4, s5, s6, s7⟩
    go_simp
    with_reducible rfl
  rotate_left
  · simp only [Act.put, List.setIfInBounds_toArray, List.set_cons_zero, List.set_cons_succ, i64_w, i32_w]
    rfl
  refine pure_ (i := 14) (N := some 60) (v := ?_) (a' := ?_) #[true, true, true, true, true, true, true, true, true, true, true, true, true, true, true, false, false, false, false, false, false, false, false, false, false, false, false, false, false, false, false, false, false, false, false, false, false, false, false, false, false] rfl rfl (any_of HT_.out (by kernel_rfl)) (fun _ _ _ h => h) (Or.inl ⟨by rfl, ?_⟩) ?_ ?_
  rotate_left
  · intro w'
    go_simp
    with_reducible rfl
  rotate_left
  · simp only [Act.put, List.setIfInBounds_toArray, List.set_cons_zero, List.set_cons_succ, i64_w, i32_w]
    rfl
  refine pure_ (i := 15) (N := some 61) (v := ?_) (a' := ?_) #[true, true, true, true, true, true, true, true, true, true, true, true, true, true, true, true, false, false, false, false, false, false, false, false, false, false, false, false, false, false, false, false, false, false, false, false, false, false, false, false, false] rfl rfl (any_of HT_.out (by kernel_rfl)) (fun _ _ _ h => h) (Or.inl ⟨by rfl, ?_⟩) ?_ ?_
  rotate_left
  · intro w'
    go_simp
    with_reducible rfl
  rotate_left
  · simp only [Act.put, List.setIfInBounds_toArray, List.set_cons_zero, List.set_cons_succ, i64_w, i32_w]
    rfl
  refine pure_ (i := 16) (N := some 62) (v := ?_) (a' := ?_) #[true, true, true, true, true, true, true, true, true, true, true, true, true, true, true, true, true, false, false, false, false, false, false, false, false, false, false, false, false, false, false, false, false, false, false, false, false, false, false, false, false] rfl rfl (any_of HT_.out (by kernel_rfl)) (fun _ _ _ h => h) (Or.inl ⟨by rfl, ?_⟩) ?_ ?_
  rotate_left
  · intro w'
    go_simp
    with_reducible rfl
  rotate_left
  · simp only [Act.put, List.setIfInBounds_toArray, List.set_cons_zero, List.set_cons_succ, i64_w, i32_w]
    rfl
  refine pure_ (i := 17) (N := some 63) (v := ?_) (a' := ?_) #[true, true, true, true, true, true, true, true, true, true, true, true, true, true, true, true, true, true, false, false, false, false, false, false, false, false, false, false, false, false, false, false, false, false, false, false, false, false, false, false, false] rfl rfl (any_of HT_.out (by kernel_rfl)) (fun _ _ _ h => h) (Or.inl ⟨by rfl, ?_⟩) ?_ ?_
  rotate_left
  · intro w'
    go_simp
    with_reducible rfl
  rotate_left
  · simp only [Act.put, List.setIfInBounds_toArray, List.set_cons_zero, List.set_cons_succ, i64_w, i32_w]
    rfl
  refine pure_ (i := 18) (N := some 64) (v := ?_) (a' := ?_) #[true, true, true, true, true, true, true, true, true, true, true, true, true, true, true, true, true, true, true, false, false, false, false, false, false, false, false, false, false, false, false, false, false, false, false, false, false, false, false, false, false] rfl rfl (any_of HT_.out (by kernel_rfl)) (fun _ _ _ h => h) (Or.inl ⟨by rfl, ?_⟩) ?_ ?_
  rotate_left
  · intro w'
    go_simp
    with_reducible rfl
  rotate_left
  · simp only [Act.put, List.setIfInBounds_toArray, List.set_cons_zero, List.set_cons_succ, i64_w, i32_w]
    rfl
  refine pure_ (i := 19) (N := some 65) (v := ?_) (a' := ?_) #[true, true, true, true, true, true, true, true, true, true, true, true, true, true, true, true, true, true, true, true, false, false, false, false, false, false, false, false, false, false, false, false, false, false, false, false, false, false, false, false, false] rfl rfl (any_of HT_.out (by kernel_rfl)) (fun _ _ _ h => h) (Or.inl ⟨by rfl, ?_⟩) ?_ ?_
  rotate_left
  · intro w'
    go_simp
    with_reducible rfl
  rotate_left
  · simp only [Act.put, List.setIfInBounds_toArray, List.set_cons_zero, List.set_cons_succ, i64_w, i32_w]
    rfl
  refine pure_ (i := 20) (N := some 66) (v := ?_) (a' := ?_) #[true, true, true, true, true, true, true, true, true, true, true, true, true, true, true, true, true, true, true, true, true, false, false, false, false, false, false, false, false, false, false, false, false, false, false, false, false, false, false, false, false] rfl rfl (any_of HT_.out (by kernel_rfl)) (fun _ _ _ h => h) (Or.inl ⟨by rfl, ?_⟩) ?_ ?_
  rotate_left
  · intro w'
    go_simp
    with_reducible rfl
  rotate_left
  · simp only [Act.put, List.setIfInBounds_toArray, List.set_cons_zero, List.set_cons_succ, i64_w, i32_w]
    rfl
  refine pure_ (i := 21) (N := some 67) (v := ?_) (a' := ?_) #[true, true, true, true, true, true, true, true, true, true, true, true, true, true, true, true, true, true, true, true, true, true, false, false, false, false, false, false, false, false, false, false, false, false, false, false, false, false, false, false, false] rfl rfl (any_of HT_.out (by kernel_rfl)) (fun _ _ _ h => h) (Or.inl ⟨by rfl, ?_⟩) ?_ ?_
  rotate_left
  · intro w'
    go_simp
    with_reducible rfl
  rotate_left
  · simp only [Act.put, List.setIfInBounds_toArray, List.set_cons_zero, List.set_cons_succ, i64_w, i32_w]
    rfl
  refine pure_ (i := 22) (N := some 68) (v := ?_) (a' := ?_) #[true, true, true, true, true, true, true, true, true, true, true, true, true, true, true, true, true, true, true, true, true, true, true, false, false, false, false, false, false, false, false, false, false, false, false, false, false, false, false, false, false] rfl rfl (any_of HT_.out (by kernel_rfl)) (fun _ _ _ h => h) (Or.inl ⟨by rfl, ?_⟩) ?_ ?_
  rotate_left
  · intro w'
    go_simp
    with_reducible rfl
  rotate_left
  · simp only [Act.put, List.setIfInBounds_toArray, List.set_cons_zero, List.set_cons_succ, i64_w, i32_w]
    rfl
  refine pure_ (i := 23) (N := some 69) (v := ?_) (a' := ?_) #[true, true, true, true, true, true, true, true, true, true, true, true, true, true, true, true, true, true, true, true, true, true, true, true, false, false, false, false, false, false, false, false, false, false, false, false, false, false, false, false, false] rfl rfl (any_of HT_.out (by kernel_rfl)) (fun _ _ _ h => h) (Or.inl ⟨by rfl, ?_⟩) ?_ ?_
  rotate_left
  · intro w'
    go_simp
    with_reducible rfl
  rotate_left
  · simp only [Act.put, List.setIfInBounds_toArray, List.set_cons_zero, List.set_cons_succ, i64_w, i32_w]
    rfl
  refine pure_ (i := 24) (N := some 70) (v := ?_) (a' := ?_) #[true, true, true, true, true, true, true, true, true, true, true, true, true, true, true, true, true, true, true, true, true, true, true, true, true, false, false, false, false, false, false, false, false, false, false, false, false, false, false, false, false] rfl rfl (any_of HT_.out (by kernel_rfl)) (fun _ _ _ h => h) (Or.inl ⟨by rfl, ?_⟩) ?_ ?_
  rotate_left
  · intro w'
    go_simp
    with_reducible rfl
  rotate_left
  · simp only [Act.put, List.setIfInBounds_toArray, List.set_cons_zero, List.set_cons_succ, i64_w, i32_w]
    rfl
  refine pure_ (i := 25) (N := some 71) (v := ?_) (a' := ?_) #[true, true, true, true, true, true, true, true, true, true, true, true, true, true, true, true, true, true, true, true, true, true, true, true, true, true, false, false, false, false, false, false, false, false, false, false, false, false, false, false, false] rfl rfl (any_of HT_.out (by kernel_rfl)) (fun _ _ _ h => h) (Or.inl ⟨by rfl, ?_⟩) ?_ ?_
  rotate_left
  · intro w'
    go_simp
    with_reducible rfl
  rotate_left
  · simp only [Act.put, List.setIfInBounds_toArray, List.set_cons_zero, List.set_cons_succ, i64_w, i32_w]
    rfl
  refine pure_ (i := 26) (N := some 72) (v := ?_) (a' := ?_) #[true, true, true, true, true, true, true, true, true, true, true, true, true, true, true, true, true, true, true, true, true, true, true, true, true, true, true, false, false, false, false, false, false, false, false, false, false, false, false, false, false] rfl rfl (any_of HT_.out (by kernel_rfl)) (fun _ _ _ h => h) (Or.inl ⟨by rfl, ?_⟩) ?_ ?_
  rotate_left
  · intro w'
    go_simp
    with_reducible rfl
  rotate_left
  · simp only [Act.put, List.setIfInBounds_toArray, List.set_cons_zero, List.set_cons_succ, i64_w, i32_w]
    rfl
  refine pure_ (i := 27) (N := some 73) (v := ?_) (a' := ?_) #[true, true, true, true, true, true, true, true, true, true, true, true, true, true, true, true, true, true, true, true, true, true, true, true, true, true, true, true, false, false, false, false, false, false, false, false, false, false, false, false, false] rfl rfl (any_of HT_.out (by kernel_rfl)) (fun _ _ _ h => h) (Or.inl ⟨by rfl, ?_⟩) ?_ ?_
  rotate_left
  · intro w'
    go_simp
    with_reducible rfl
  rotate_left
  · simp only [Act.put, List.setIfInBounds_toArray, List.set_cons_zero, List.set_cons_succ, i64_w, i32_w]
    rfl
  refine pure_ (i := 28) (N := some 74) (v := ?_) (a' := ?_) #[true, true, true, true, true, true, true, true, true, true, true, true, true, true, true, true, true, true, true, true, true, true, true, true, true, true, true, true, true, false, false, false, false, false, false, false, false, false, false, false, false] rfl rfl (any_of HT_.out (by kernel_rfl)) (fun _ _ _ h => h) (Or.inl ⟨by rfl, ?_⟩) ?_ ?_
  rotate_left
  · intro w'
    go_simp
    with_reducible rfl
  rotate_left
  · simp only [Act.put, List.setIfInBounds_toArray, List.set_cons_zero, List.set_cons_succ, i64_w, i32_w]
    rfl
  refine pure_ (i := 29) (N := some 75) (v := ?_) (a' := ?_) #[true, true, true, true, true, true, true, true, true, true, true, true, true, true, true, true, true, true, true, true, true, true, true, true, true, true, true, true, true, true, false, false, false, false, false, false, false, false, false, false, false] rfl rfl (any_of HT_.out (by kernel_rfl)) (fun _ _ _ h => h) (Or.inl ⟨by rfl, ?_⟩) ?_ ?_
  rotate_left
  · intro w'
    go_simp
    with_reducible rfl
  rotate_left
  · simp only [Act.put, List.setIfInBounds_toArray, List.set_cons_zero, List.set_cons_succ, i64_w, i32_w]
    rfl
  refine pure_ (i := 30) (N := some 76) (v := ?_) (a' := ?_) #[true, true, true, true, true, true, true, true, true, true, true, true, true, true, true, true, true, true, true, true, true, true, true, true, true, true, true, true, true, true, true, false, false, false, false, false, false, false, false, false, false] rfl rfl (any_of HT_.out (by kernel_rfl)) (fun _ _ _ h => h) (Or.inl ⟨by rfl, ?_⟩) ?_ ?_
  rotate_left
  · intro w'
    go_simp
    with_reducible rfl
  rotate_left
  · simp only [Act.put, List.setIfInBounds_toArray, List.set_cons_zero, List.set_cons_succ, i64_w, i32_w]
    rfl
  refine pure_ (i := 31) (N := some 77) (v := ?_) (a' := ?_) #[true, true, true, true, true, true, true, true, true, true, true, true, true, true, true, true, true, true, true, true, true, true, true, true, true, true, true, true, true, true, true, true, false, false, false, false, false, false, false, false, false] rfl rfl (any_of HT_.out (by kernel_rfl)) (fun _ _ _ h => h) (Or.inl ⟨by rfl, ?_⟩) ?_ ?_
  rotate_left
  · intro w'
    go_simp
    with_reducible rfl
  rotate_left
  · simp only [Act.put, List.setIfInBounds_toArray, List.set_cons_zero, List.set_cons_succ, i64_w, i32_w]
    rfl
  refine pure_ (i := 32) (N := some 78) (v := ?_) (a' := ?_) #[true, true, true, true, true, true, true, true, true, true, true, true, true, true, true, true, true, true, true, true, true, true, true, true, true, true, true, true, true, true, true, true, true, false, false, false, false, false, false, false, false] rfl rfl (any_of HT_.out (by kernel_rfl)) (fun _ _ _ h => h) (Or.inl ⟨by rfl, ?_⟩) ?_ ?_
  rotate_left
  · intro w'
    go_simp
    with_reducible rfl
  rotate_left
  · simp only [Act.put, List.setIfInBounds_toArray, List.set_cons_zero, List.set_cons_succ, i64_w, i32_w]
    rfl
  refine pure_ (i := 33) (N := some 79) (v := ?_) (a' := ?_) #[true, true, true, true, true, true, true, true, true, true, true, true, true, true, true, true, true, true, true, true, true, true, true, true, true, true, true, true, true, true, true, true, true, true, false, false, false, false, false, false, false] rfl rfl (any_of HT_.out (by kernel_rfl)) (fun _ _ _ h => h) (Or.inl ⟨by rfl, ?_⟩) ?_ ?_
  rotate_left
  · intro w'
    go_simp
    with_reducible rfl
  rotate_left
  · simp only [Act.put, List.setIfInBounds_toArray, List.set_cons_zero, List.set_cons_succ, i64_w, i32_w]
    rfl
  refine pure_ (i := 34) (N := some 80) (v := ?_) (a' := ?_) #[true, true, true, true, true, true, true, true, true, true, true, true, true, true, true, true, true, true, true, true, true, true, true, true, true, true, true, true, true, true, true, true, true, true, true, false, false, false, false, false, false] rfl rfl (any_of HT_.out (by kernel_rfl)) (fun _ _ _ h => h) (Or.inl ⟨by rfl, ?_⟩) ?_ ?_
  rotate_left
  · intro w'
    go_simp
    with_reducible rfl
  rotate_left
  · simp only [Act.put, List.setIfInBounds_toArray, List.set_cons_zero, List.set_cons_succ, i64_w, i32_w]
    rfl
  refine pure_ (i := 35) (N := some 81) (v := ?_) (a' := ?_) #[true, true, true, true, true, true, true, true, true, true, true, true, true, true, true, true, true, true, true, true, true, true, true, true, true, true, true, true, true, true, true, true, true, true, true, true, false, false, false, false, false] rfl rfl (any_of HT_.out (by kernel_rfl)) (fun _ _ _ h => h) (Or.inl ⟨by rfl, ?_⟩) ?_ ?_
  rotate_left
  · intro w'
    go_simp
    with_reducible rfl
  rotate_left
  · simp only [Act.put, List.setIfInBounds_toArray, List.set_cons_zero, List.set_cons_succ, i64_w, i32_w]
    rfl
  refine pure_ (i := 36) (N := some 82) (v := ?_) (a' := ?_) #[true, true, true, true, true, true, true, true, true, true, true, true, true, true, true, true, true, true, true, true, true, true, true, true, true, true, true, true, true, true, true, true, true, true, true, true, true, false, false, false, false] rfl rfl (any_of HT_.out (by kernel_rfl)) (fun _ _ _ h => h) (Or.inl ⟨by rfl, ?_⟩) ?_ ?_
  rotate_left
  · intro w'
    go_simp
    with_reducible rfl
  rotate_left
  · simp only [Act.put, List.setIfInBounds_toArray, List.set_cons_zero, List.set_cons_succ, i64_w, i32_w]
    rfl
  refine pure_ (i := 37) (N := some 83) (v := ?_) (a' := ?_) #[true, true, true, true, true, true, true, true, true, true, true, true, true, true, true, true, true, true, true, true, true, true, true, true, true, true, true, true, true, true, true, true, true, true, true, true, true, true, false, false, false] rfl rfl (any_of HT_.out (by kernel_rfl)) (fun _ _ _ h => h) (Or.inl ⟨by rfl, ?_⟩) ?_ ?_
  rotate_left
  · intro w'
    go_simp
    with_reducible rfl
  rotate_left
  · simp only [Act.put, List.setIfInBounds_toArray, List.set_cons_zero, List.set_cons_succ, i64_w, i32_w]
    rfl
  refine pure_ (i := 38) (N := some 84) (v := ?_) (a' := ?_) #[true, true, true, true, true, true, true, true, true, true, true, true, true, true, true, true, true, true, true, true, true, true, true, true, true, true, true, true, true, true, true, true, true, true, true, true, true, true, true, false, false] rfl rfl (any_of HT_.out (by kernel_rfl)) (fun _ _ _ h => h) (Or.inl ⟨by rfl, ?_⟩) ?_ ?_
  rotate_left
  · intro w'
    go_simp
    with_reducible rfl
  rotate_left
  · simp only [Act.put, List.setIfInBounds_toArray, List.set_cons_zero, List.set_cons_succ, i64_w, i32_w]
    rfl
  refine pure_ (i := 39) (N := some 85) (v := ?_) (a' := ?_) #[true, true, true, true, true, true, true, true, true, true, true, true, true, true, true, true, true, true, true, true, true, true, true, true, true, true, true, true, true, true, true, true, true, true, true, true, true, true, true, true, false] rfl rfl (any_of HT_.out (by kernel_rfl)) (fun _ _ _ h => h) (Or.inl ⟨by rfl, ?_⟩) ?_ ?_
  rotate_left
  · intro w'
    go_simp
    with_reducible rfl
  rotate_left
  · simp only [Act.put, List.setIfInBounds_toArray, List.set_cons_zero, List.set_cons_succ, i64_w, i32_w]
    rfl
  refine pure_ (i := 40) (N := some 0) (v := ?_) (a' := ?_) #[true, true, true, true, true, true, true, true, true, true, true, true, true, true, true, true, true, true, true, true, true, true, true, true, true, true, true, true, true, true, true, true, true, true, true, true, true, true, true, true, true] rfl rfl (any_of HT_.out (by kernel_rfl)) (fun _ _ _ h => h) (Or.inl ⟨by rfl, ?_⟩) ?_ ?_
  rotate_left
  · intro w'
    go_simp
    with_reducible rfl
  rotate_left
  · simp only [Act.put, List.setIfInBounds_toArray, List.set_cons_zero, List.set_cons_succ, i64_w, i32_w]
    rfl
  refine done_ (done_of HT_.out (by kernel_rfl)) ?_
  try go_wp2
  go_ret
  exact ⟨by first | rfl | (simp [errW_none, errW_some] <;> rfl) | (simp [*, errW_none, errW_some] <;> rfl), by repeat (first | (with_reducible first | exact HB.out | apply below_alloc | apply pw_below_drewN | apply below_drew1) | exact HB.out)⟩

end Go.Proofs.Ytjcpdbekdimceaa.P
