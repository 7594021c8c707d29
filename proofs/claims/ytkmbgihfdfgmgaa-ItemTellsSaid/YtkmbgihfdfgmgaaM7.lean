-- Printed by a changed copy of the kit's printer (wip/tools/ext.py); labels and more
import Derived.Test.YtkmbgihfdfgmgaaQShort
import Derived.Test.YtkmbgihfdfgmgaaM0
import Derived.Test.YtkmbgihfdfgmgaaM2
import Derived.Test.YtkmbgihfdfgmgaaM5
import Derived.Test.YtkmbgihfdfgmgaaM6
namespace Go.Proofs.Ytkmbgihfdfgmgaa.P
open Go.RowKit Go.Proofs.YtkmbgihfdfgmgaaW.PrintWords Go.Proofs.YtkmbgihfdfgmgaaW.PrintLast Go.Proofs.YtkmbgihfdfgmgaaW.PrintMore
attribute [local go_sem] max2_int min2_int max_two min_two max_three min_three max_four min_four   -- for this text's walks alone
attribute [local go_sem high] string_leq string_geq string_gtr
set_option linter.unusedVariables false
set_option linter.unusedSimpArgs false

abbrev mkPx9_0 : Array Bool := #[false, false, false, false, false, false, false, false, false, false, false, false, false, false, false, false, false, false, false, false, false, false, false, false, false, false, false, false, false, false, false, false, false, false, false, false, false, false, false, false, false, false, false, false, false, false, false, false, false, false]
abbrev mkPx9_1 : Array Bool := #[true, false, false, false, false, false, false, false, false, false, false, false, false, false, false, false, false, false, false, false, false, false, false, false, false, false, false, false, false, false, false, false, false, false, false, false, false, false, false, false, false, false, false, false, false, false, false, false, false, false]
abbrev mkPx9_2 : Array Bool := #[true, true, false, false, false, false, false, false, false, false, false, false, false, false, false, false, false, false, false, false, false, false, false, false, false, false, false, false, false, false, false, false, false, false, false, false, false, false, false, false, false, false, false, false, false, false, false, false, false, false]
abbrev mkPx9_3 : Array Bool := #[true, true, true, false, false, false, false, false, false, false, false, false, false, false, false, false, false, false, false, false, false, false, false, false, false, false, false, false, false, false, false, false, false, false, false, false, false, false, false, false, false, false, false, false, false, false, false, false, false, false]
abbrev mkPx9_4 : Array Bool := #[true, true, true, true, false, false, false, false, false, false, false, false, false, false, false, false, false, false, false, false, false, false, false, false, false, false, false, false, false, false, false, false, false, false, false, false, false, false, false, false, false, false, false, false, false, false, false, false, false, false]
abbrev mkPx9_5 : Array Bool := #[true, true, true, true, true, false, false, false, false, false, false, false, false, false, false, false, false, false, false, false, false, false, false, false, false, false, false, false, false, false, false, false, false, false, false, false, false, false, false, false, false, false, false, false, false, false, false, false, false, false]
abbrev mkPx9_6 : Array Bool := #[true, true, true, true, true, true, false, false, false, false, false, false, false, false, false, false, false, false, false, false, false, false, false, false, false, false, false, false, false, false, false, false, false, false, false, false, false, false, false, false, false, false, false, false, false, false, false, false, false, false]
abbrev mkPx9_7 : Array Bool := #[true, true, true, true, true, true, true, false, false, false, false, false, false, false, false, false, false, false, false, false, false, false, false, false, false, false, false, false, false, false, false, false, false, false, false, false, false, false, false, false, false, false, false, false, false, false, false, false, false, false]
abbrev mkPx9_8 : Array Bool := #[true, true, true, true, true, true, true, true, false, false, false, false, false, false, false, false, false, false, false, false, false, false, false, false, false, false, false, false, false, false, false, false, false, false, false, false, false, false, false, false, false, false, false, false, false, false, false, false, false, false]
abbrev mkPx9_9 : Array Bool := #[true, true, true, true, true, true, true, true, true, false, false, false, false, false, false, false, false, false, false, false, false, false, false, false, false, false, false, false, false, false, false, false, false, false, false, false, false, false, false, false, false, false, false, false, false, false, false, false, false, false]
abbrev mkPx9_10 : Array Bool := #[true, true, true, true, true, true, true, true, true, true, false, false, false, false, false, false, false, false, false, false, false, false, false, false, false, false, false, false, false, false, false, false, false, false, false, false, false, false, false, false, false, false, false, false, false, false, false, false, false, false]
abbrev mkPx9_11 : Array Bool := #[true, true, true, true, true, true, true, true, true, true, true, false, false, false, false, false, false, false, false, false, false, false, false, false, false, false, false, false, false, false, false, false, false, false, false, false, false, false, false, false, false, false, false, false, false, false, false, false, false, false]
abbrev mkPx9_12 : Array Bool := #[true, true, true, true, true, true, true, true, true, true, true, true, false, false, false, false, false, false, false, false, false, false, false, false, false, false, false, false, false, false, false, false, false, false, false, false, false, false, false, false, false, false, false, false, false, false, false, false, false, false]
abbrev mkPx9_13 : Array Bool := #[true, true, true, true, true, true, true, true, true, true, true, true, true, false, false, false, false, false, false, false, false, false, false, false, false, false, false, false, false, false, false, false, false, false, false, false, false, false, false, false, false, false, false, false, false, false, false, false, false, false]
abbrev mkPx9_14 : Array Bool := #[true, true, true, true, true, true, true, true, true, true, true, true, true, true, false, false, false, false, false, false, false, false, false, false, false, false, false, false, false, false, false, false, false, false, false, false, false, false, false, false, false, false, false, false, false, false, false, false, false, false]
abbrev mkPx9_15 : Array Bool := #[true, true, true, true, true, true, true, true, true, true, true, true, true, true, true, false, false, false, false, false, false, false, false, false, false, false, false, false, false, false, false, false, false, false, false, false, false, false, false, false, false, false, false, false, false, false, false, false, false, false]
abbrev mkPx9_16 : Array Bool := #[true, true, true, true, true, true, true, true, true, true, true, true, true, true, true, true, false, false, false, false, false, false, false, false, false, false, false, false, false, false, false, false, false, false, false, false, false, false, false, false, false, false, false, false, false, false, false, false, false, false]
abbrev mkPx9_17 : Array Bool := #[true, true, true, true, true, true, true, true, true, true, true, true, true, true, true, true, true, false, false, false, false, false, false, false, false, false, false, false, false, false, false, false, false, false, false, false, false, false, false, false, false, false, false, false, false, false, false, false, false, false]
abbrev mkPx9_18 : Array Bool := #[true, true, true, true, true, true, true, true, true, true, true, true, true, true, true, true, true, true, false, false, false, false, false, false, false, false, false, false, false, false, false, false, false, false, false, false, false, false, false, false, false, false, false, false, false, false, false, false, false, false]
abbrev mkPx9_19 : Array Bool := #[true, true, true, true, true, true, true, true, true, true, true, true, true, true, true, true, true, true, false, true, false, false, false, false, false, false, false, false, false, false, false, false, false, false, false, false, false, false, false, false, false, false, false, false, false, false, false, false, false, false]
abbrev mkPx9_20 : Array Bool := #[true, true, true, true, true, true, true, true, true, true, true, true, true, true, true, true, true, true, true, true, false, false, false, false, false, false, false, false, false, false, false, false, false, false, false, false, false, false, false, false, false, false, false, false, false, false, false, false, false, false]
abbrev mkPx9_21 : Array Bool := #[true, true, true, true, true, true, true, true, true, true, true, true, true, true, true, true, true, true, true, true, true, false, false, false, false, false, false, false, false, false, false, false, false, false, false, false, false, false, false, false, false, false, false, false, false, false, false, false, false, false]
abbrev mkPx9_22 : Array Bool := #[true, true, true, true, true, true, true, true, true, true, true, true, true, true, true, true, true, true, true, true, true, true, false, false, false, false, false, false, false, false, false, false, false, false, false, false, false, false, false, false, false, false, false, false, false, false, false, false, false, false]
abbrev mkPx9_23 : Array Bool := #[true, true, true, true, true, true, true, true, true, true, true, true, true, true, true, true, true, true, true, true, true, true, true, false, false, false, false, false, false, false, false, false, false, false, false, false, false, false, false, false, false, false, false, false, false, false, false, false, false, false]
abbrev mkPx9_24 : Array Bool := #[true, true, true, true, true, true, true, true, true, true, true, true, true, true, true, true, true, true, true, true, true, true, true, true, false, false, false, false, false, false, false, false, false, false, false, false, false, false, false, false, false, false, false, false, false, false, false, false, false, false]
abbrev mkPx9_25 : Array Bool := #[true, true, true, true, true, true, true, true, true, true, true, true, true, true, true, true, true, true, true, true, true, true, true, true, true, false, false, false, false, false, false, false, false, false, false, false, false, false, false, false, false, false, false, false, false, false, false, false, false, false]
abbrev mkPx9_26 : Array Bool := #[true, true, true, true, true, true, true, true, true, true, true, true, true, true, true, true, true, true, true, true, true, true, true, true, true, true, false, false, false, false, false, false, false, false, false, false, false, false, false, false, false, false, false, false, false, false, false, false, false, false]
abbrev mkPx9_27 : Array Bool := #[true, true, true, true, true, true, true, true, true, true, true, true, true, true, true, true, true, true, true, true, true, true, true, true, true, true, true, false, false, false, false, false, false, false, false, false, false, false, false, false, false, false, false, false, false, false, false, false, false, false]
abbrev mkPx9_28 : Array Bool := #[true, true, true, true, true, true, true, true, true, true, true, true, true, true, true, true, true, true, true, true, true, true, true, true, true, true, true, true, false, false, false, false, false, false, false, false, false, false, false, false, false, false, false, false, false, false, false, false, false, false]
abbrev mkPx9_29 : Array Bool := #[true, true, true, true, true, true, true, true, true, true, true, true, true, true, true, true, true, true, true, true, true, true, true, true, true, true, true, true, true, false, false, false, false, false, false, false, false, false, false, false, false, false, false, false, false, false, false, false, false, false]
abbrev mkPx9_30 : Array Bool := #[true, true, true, true, true, true, true, true, true, true, true, true, true, true, true, true, true, true, true, true, true, true, true, true, true, true, true, true, true, true, false, false, false, false, false, false, false, false, false, false, false, false, false, false, false, false, false, false, false, false]
abbrev mkPx9_31 : Array Bool := #[true, true, true, true, true, true, true, true, true, true, true, true, true, true, true, true, true, true, true, true, true, true, true, true, true, true, true, true, true, true, true, false, false, false, false, false, false, false, false, false, false, false, false, false, false, false, false, false, false, false]
abbrev mkPx9_32 : Array Bool := #[true, true, true, true, true, true, true, true, true, true, true, true, true, true, true, true, true, true, true, true, true, true, true, true, true, true, true, true, true, true, true, true, false, false, false, false, false, false, false, false, false, false, false, false, false, false, false, false, false, false]
abbrev mkPx9_33 : Array Bool := #[true, true, true, true, true, true, true, true, true, true, true, true, true, true, true, true, true, true, true, true, true, true, true, true, true, true, true, true, true, true, true, true, true, false, false, false, false, false, false, false, false, false, false, false, false, false, false, false, false, false]
abbrev mkPx9_34 : Array Bool := #[true, true, true, true, true, true, true, true, true, true, true, true, true, true, true, true, true, true, true, true, true, true, true, true, true, true, true, true, true, true, true, true, true, true, false, false, false, false, false, false, false, false, false, false, false, false, false, false, false, false]
abbrev mkPx9_35 : Array Bool := #[true, true, true, true, true, true, true, true, true, true, true, true, true, true, true, true, true, true, true, true, true, true, true, true, true, true, true, true, true, true, true, true, true, true, true, false, false, false, false, false, false, false, false, false, false, false, false, false, false, false]
abbrev mkPx9_36 : Array Bool := #[true, true, true, true, true, true, true, true, true, true, true, true, true, true, true, true, true, true, true, true, true, true, true, true, true, true, true, true, true, true, true, true, true, true, true, true, false, false, false, false, false, false, false, false, false, false, false, false, false, false]
abbrev mkPx9_37 : Array Bool := #[true, true, true, true, true, true, true, true, true, true, true, true, true, true, true, true, true, true, true, true, true, true, true, true, true, true, true, true, true, true, true, true, true, true, true, true, true, false, false, false, false, false, false, false, false, false, false, false, false, false]
abbrev mkPx9_38 : Array Bool := #[true, true, true, true, true, true, true, true, true, true, true, true, true, true, true, true, true, true, true, true, true, true, true, true, true, true, true, true, true, true, true, true, true, true, true, true, true, true, false, false, false, false, false, false, false, false, false, false, false, false]
abbrev mkPx9_39 : Array Bool := #[true, true, true, true, true, true, true, true, true, true, true, true, true, true, true, true, true, true, true, true, true, true, true, true, true, true, true, true, true, true, true, true, true, true, true, true, true, true, true, false, false, false, false, false, false, false, false, false, false, false]
abbrev mkPx9_40 : Array Bool := #[true, true, true, true, true, true, true, true, true, true, true, true, true, true, true, true, true, true, true, true, true, true, true, true, true, true, true, true, true, true, true, true, true, true, true, true, true, true, true, true, false, false, false, false, false, false, false, false, false, false]
abbrev mkPx9_41 : Array Bool := #[true, true, true, true, true, true, true, true, true, true, true, true, true, true, true, true, true, true, true, true, true, true, true, true, true, true, true, true, true, true, true, true, true, true, true, true, true, true, true, true, true, false, false, false, false, false, false, false, false, false]
abbrev mkPx9_42 : Array Bool := #[true, true, true, true, true, true, true, true, true, true, true, true, true, true, true, true, true, true, true, true, true, true, true, true, true, true, true, true, true, true, true, true, true, true, true, true, true, true, true, true, true, true, false, false, false, false, false, false, false, false]
abbrev mkPx9_43 : Array Bool := #[true, true, true, true, true, true, true, true, true, true, true, true, true, true, true, true, true, true, true, true, true, true, true, true, true, true, true, true, true, true, true, true, true, true, true, true, true, true, true, true, true, true, true, false, false, false, false, false, false, false]
abbrev mkPx9_44 : Array Bool := #[true, true, true, true, true, true, true, true, true, true, true, true, true, true, true, true, true, true, true, true, true, true, true, true, true, true, true, true, true, true, true, true, true, true, true, true, true, true, true, true, true, true, true, true, false, false, false, false, false, false]
abbrev mkPx9_45 : Array Bool := #[true, true, true, true, true, true, true, true, true, true, true, true, true, true, true, true, true, true, true, true, true, true, true, true, true, true, true, true, true, true, true, true, true, true, true, true, true, true, true, true, true, true, true, true, true, false, false, false, false, false]
abbrev mkPx9_46 : Array Bool := #[true, true, true, true, true, true, true, true, true, true, true, true, true, true, true, true, true, true, true, true, true, true, true, true, true, true, true, true, true, true, true, true, true, true, true, true, true, true, true, true, true, true, true, true, true, true, false, false, false, false]
abbrev mkPx9_47 : Array Bool := #[true, true, true, true, true, true, true, true, true, true, true, true, true, true, true, true, true, true, true, true, true, true, true, true, true, true, true, true, true, true, true, true, true, true, true, true, true, true, true, true, true, true, true, true, true, true, true, false, false, false]
abbrev mkPx9_48 : Array Bool := #[true, true, true, true, true, true, true, true, true, true, true, true, true, true, true, true, true, true, true, true, true, true, true, true, true, true, true, true, true, true, true, true, true, true, true, true, true, true, true, true, true, true, true, true, true, true, true, true, false, false]
abbrev mkPx9_49 : Array Bool := #[true, true, true, true, true, true, true, true, true, true, true, true, true, true, true, true, true, true, true, true, true, true, true, true, true, true, true, true, true, true, true, true, true, true, true, true, true, true, true, true, true, true, true, true, true, true, true, true, true, false]
abbrev mkPx9_50 : Array Bool := #[true, true, true, true, true, true, true, true, true, true, true, true, true, true, true, true, true, true, true, true, true, true, true, true, true, true, true, true, true, true, true, true, true, true, true, true, true, true, true, true, true, true, true, true, true, true, true, true, true, true]
/-! ### ravelinlaw18_known: function 7 -/
def ravelinlaw18_known.f (k : Nat)  : Option (Bool) := (some (([(⟨(⟨#[97]⟩ : ByteArray), false, (⟨#[98]⟩ : ByteArray)⟩ : S39)] : List (S39)) : List (S39))).bind fun y226 => ((item_Bytes.f k 1 2 0 false y226).bind fun bt230 => (if bt230.1.size + 1 ≤ 9223372036854775807 then ((item_Read.f k (bt230.1 ++ (⟨#[122]⟩ : ByteArray))).bind fun bt232 => ((item_Bytes.f k 0 0 0 false ([] : List (S39))).bind fun bt242 => ((item_Read.f k (⟨#[]⟩ : ByteArray)).bind fun bt244 => ((item_Is.f k 1 2 0 false y226).bind fun t254 => (if t254 = true then ((item_Is.f k 0 1 0 true ([] : List (S39))).bind fun t255 => (if t255 = true then ((item_Is.f k 0 1 0 false ([] : List (S39))).bind fun t256 => (if t256 = true then (some false) else ((item_Same.f k 1 2 0 false y226 1 2 0 false y226).bind fun t257 => (if t257 = true then ((item_Copy.f 1 2 0 false y226).bind fun bt258 => ((item_Same.f k bt258.1 bt258.2.1 bt258.2.2.1 bt258.2.2.2.1 bt258.2.2.2.2 1 2 0 false y226).bind fun t265 => (if t265 = true then (if bt230.2 = 0 then (if bt232.2.2.2.2.2.2 = 0 then (if bt232.2.2.2.2.2.1 = (bt230.1.size : Int) then ((item_Same.f k 1 2 0 false y226 bt232.1 bt232.2.1 bt232.2.2.1 bt232.2.2.2.1 bt232.2.2.2.2.1).bind fun t266 => (if t266 = true then (if bt242.2 = 10 then (some (bt244.2.2.2.2.2.2 == 12)) else (some false)) else (some false))) else (some false)) else (some false)) else (some false)) else (some false)))) else (some false))))) else (some false))) else (some false)))))) else (none)))
theorem ravelinlaw18_known.mono : ∀ k, LeO (ravelinlaw18_known.f k ) (ravelinlaw18_known.f (k + 1) ) := by
  intro  k
  unfold ravelinlaw18_known.f
  repeat' first
      | (with_reducible exact item_Bytes.mono _ _ _ _ _ _)
      | (with_reducible exact item_Is.mono _ _ _ _ _ _)
      | (with_reducible exact item_Read.mono _ _)
      | (with_reducible exact item_Same.mono _ _ _ _ _ _ _ _ _ _ _)
      | (with_reducible exact LeO.refl _)
      | (with_reducible exact LeO.none _)
      | (with_reducible refine LeO.ite ?_ ?_)
      | (with_reducible refine LeO.bind ?_ (fun _ => ?_))
      | exact item_Bytes.mono _ _ _ _ _ _
      | exact item_Is.mono _ _ _ _ _ _
      | exact item_Read.mono _ _
      | exact item_Same.mono _ _ _ _ _ _ _ _ _ _ _
      | exact LeO.none _
      | refine LeO.ite ?_ ?_
      | refine LeO.bind ?_ (fun _ => ?_)
def ravelinlaw18_known.T6 : Bool × List (List Nat × List Nat) := (true, [([], []), ([0], [0]), ([1, 1], [1]), ([2], [2]), ([3, 2, 2], [2, 3]), ([2, 4], [2, 4]), ([5, 4], [5]), ([6], [6]), ([7, 6, 6], [6, 7]), ([8, 6], [6, 8]), ([6, 9], [6, 9]), ([10, 8], [10]), ([11], [11]), ([11], [11]), ([12, 13, 11, 11], [11, 12, 13]), ([11, 14], [11, 14]), ([15, 14], [15]), ([16], [16]), ([17, 16, 16], [16, 17]), ([16], [16]), ([18, 19, 18, 16], [16, 18, 19]), ([16, 20], [16, 20]), ([21, 20], [21]), ([22], [22]), ([23, 22], [22, 23]), ([22, 24], [22, 24]), ([25, 22], [25]), ([26], [26]), ([27, 26], [26, 27]), ([26, 28], [26, 28]), ([29, 26], [29]), ([30], [30]), ([30], [30]), ([32, 30], [30, 32]), ([31, 33, 30], [30, 31, 33]), ([30, 34], [30, 34]), ([35, 30], [35]), ([36], [36]), ([36], [36]), ([37, 38, 36, 36], [36, 37, 38]), ([36, 39], [36, 39]), ([40, 39], [40]), ([41], [41]), ([42, 41], [41, 42]), ([41, 43], [41, 43]), ([44, 41], [44]), ([45], [45]), ([46, 45], [45, 46]), ([45, 47], [45, 47]), ([48, 45, 0, 1, 2, 3, 4, 5, 6, 7, 8, 9, 10, 11, 12, 13, 14, 15, 16, 17, 18, 19, 20, 21, 22, 23, 24, 25, 26, 27, 28, 29, 30, 31, 32, 33, 34, 35, 36, 37, 38, 39, 40, 41, 42, 43, 44, 45, 46, 47, 48], [48])])
def ravelinlaw18_known.B6 : List Nat := [0, 1, 3, 7, 15, 31, 63, 127, 255, 511, 1023, 2047, 4095, 4095, 16383, 32767, 65535, 131071, 262143, 131071, 1048575, 2097151, 4194303, 8388607, 16777215, 33554431, 67108863, 134217727, 268435455, 536870911, 1073741823, 2147483647, 2147483647, 6442450943, 17179869183, 34359738367, 68719476735, 137438953471, 137438953471, 549755813887, 1099511627775, 2199023255551, 4398046511103, 8796093022207, 17592186044415, 35184372088831, 70368744177663, 140737488355327, 281474976710655, 562949953421311]
theorem ravelinlaw18_known.tab6 : rtab .any (opsOf Try.f7 6) = ravelinlaw18_known.T6 := by kernel_rfl
theorem ravelinlaw18_known.bits6 : waitsOk ravelinlaw18_known.T6.2 ravelinlaw18_known.B6 = true := by kernel_rfl
set_option maxHeartbeats 8000000 in
set_option maxRecDepth 100000 in
theorem ravelinlaw18_known.calls (k : Nat)  (r : Bool) (w : World) (h : ravelinlaw18_known.f k  = some r) (hr_ : r = true) :
    Calls Try.prog 7 #[] w fun e w' => e = .returned (.bool r) ∧ Below w.heap.size w w' := by
  have hu39 := Try.underlying39
  have hu24 := Try.underlying24
  have HB := Aside0.mk (Below.refl w.heap.size w)
  have H : ((some (([(⟨(⟨#[97]⟩ : ByteArray), false, (⟨#[98]⟩ : ByteArray)⟩ : S39)] : List (S39)) : List (S39))).bind fun y226 => ((item_Bytes.f k 1 2 0 false y226).bind fun bt230 => (if bt230.1.size + 1 ≤ 9223372036854775807 then ((item_Read.f k (bt230.1 ++ (⟨#[122]⟩ : ByteArray))).bind fun bt232 => ((item_Bytes.f k 0 0 0 false ([] : List (S39))).bind fun bt242 => ((item_Read.f k (⟨#[]⟩ : ByteArray)).bind fun bt244 => ((item_Is.f k 1 2 0 false y226).bind fun t254 => (if t254 = true then ((item_Is.f k 0 1 0 true ([] : List (S39))).bind fun t255 => (if t255 = true then ((item_Is.f k 0 1 0 false ([] : List (S39))).bind fun t256 => (if t256 = true then (some false) else ((item_Same.f k 1 2 0 false y226 1 2 0 false y226).bind fun t257 => (if t257 = true then ((item_Copy.f 1 2 0 false y226).bind fun bt258 => ((item_Same.f k bt258.1 bt258.2.1 bt258.2.2.1 bt258.2.2.2.1 bt258.2.2.2.2 1 2 0 false y226).bind fun t265 => (if t265 = true then (if bt230.2 = 0 then (if bt232.2.2.2.2.2.2 = 0 then (if bt232.2.2.2.2.2.1 = (bt230.1.size : Int) then ((item_Same.f k 1 2 0 false y226 bt232.1 bt232.2.1 bt232.2.2.1 bt232.2.2.2.1 bt232.2.2.2.2.1).bind fun t266 => (if t266 = true then (if bt242.2 = 10 then (some (bt244.2.2.2.2.2.2 == 12)) else (some false)) else (some false))) else (some false)) else (some false)) else (some false)) else (some false)))) else (some false))))) else (some false))) else (some false)))))) else (none)))) = some r := h
  clear h
  have HR_ := Aside0.mk hr_
  clear hr_
  obtain ⟨y226, hy226⟩ : ∃ y_ : List (S39), y_ = (([(⟨(⟨#[97]⟩ : ByteArray), false, (⟨#[98]⟩ : ByteArray)⟩ : S39)] : List (S39))) := ⟨_, rfl⟩
  replace H : ((item_Bytes.f k 1 2 0 false y226).bind fun bt230 => (if bt230.1.size + 1 ≤ 9223372036854775807 then ((item_Read.f k (bt230.1 ++ (⟨#[122]⟩ : ByteArray))).bind fun bt232 => ((item_Bytes.f k 0 0 0 false ([] : List (S39))).bind fun bt242 => ((item_Read.f k (⟨#[]⟩ : ByteArray)).bind fun bt244 => ((item_Is.f k 1 2 0 false y226).bind fun t254 => (if t254 = true then ((item_Is.f k 0 1 0 true ([] : List (S39))).bind fun t255 => (if t255 = true then ((item_Is.f k 0 1 0 false ([] : List (S39))).bind fun t256 => (if t256 = true then (some false) else ((item_Same.f k 1 2 0 false y226 1 2 0 false y226).bind fun t257 => (if t257 = true then ((item_Copy.f 1 2 0 false y226).bind fun bt258 => ((item_Same.f k bt258.1 bt258.2.1 bt258.2.2.1 bt258.2.2.2.1 bt258.2.2.2.2 1 2 0 false y226).bind fun t265 => (if t265 = true then (if bt230.2 = 0 then (if bt232.2.2.2.2.2.2 = 0 then (if bt232.2.2.2.2.2.1 = (bt230.1.size : Int) then ((item_Same.f k 1 2 0 false y226 bt232.1 bt232.2.1 bt232.2.2.1 bt232.2.2.2.1 bt232.2.2.2.2.1).bind fun t266 => (if t266 = true then (if bt242.2 = 10 then (some (bt244.2.2.2.2.2.2 == 12)) else (some false)) else (some false))) else (some false)) else (some false)) else (some false)) else (some false)))) else (some false))))) else (some false))) else (some false)))))) else (none))) = some r := by first | (rw [hy226]; with_reducible exact H) | (have H2_ := (Option.bind_some _ _).symm.trans H; rw [hy226]; with_reducible exact H2_) | (have H2_ := (Option.bind_some _ _).symm.trans H; with_reducible exact H2_) | with_reducible exact H | (rw [hy226]; exact H) | exact H
  have Ny226 := Aside0.mk hy226
  clear hy226
  replace H := Option.bind_eq_some_iff.mp H
  obtain ⟨⟨t230, t231⟩, A10, H⟩ := H
  try dsimp only at H
  have A1 := Aside0.mk A10
  clear A10
  by_cases c2 : t230.size + 1 ≤ 9223372036854775807
  rotate_left
  · rw [if_neg c2] at H
    exact absurd H (by simp)
  rw [if_pos c2] at H
  have c2b0 := eq_true c2
  have c2b1 : decide (t230.size + 1 ≤ 9223372036854775807) = true := decide_eq_true c2
  try have c2b2 : (9223372036854775807 < t230.size + 1) = False := eq_false (Nat.not_lt.2 c2)
  replace H := Option.bind_eq_some_iff.mp H
  obtain ⟨⟨t232, t233, t234, t235, t236, t239, t240⟩, A30, H⟩ := H
  try dsimp only at H
  have A3 := Aside0.mk A30
  clear A30
  replace H := Option.bind_eq_some_iff.mp H
  obtain ⟨⟨t242, t243⟩, A40, H⟩ := H
  try dsimp only at H
  have A4 := Aside0.mk A40
  clear A40
  replace H := Option.bind_eq_some_iff.mp H
  obtain ⟨⟨t244, t245, t246, t247, t248, t251, t252⟩, A50, H⟩ := H
  try dsimp only at H
  have A5 := Aside0.mk A50
  clear A50
  replace H := Option.bind_eq_some_iff.mp H
  obtain ⟨t254, A60, H⟩ := H
  try dsimp only at H
  have A6 := Aside0.mk A60
  clear A60
  by_cases c7 : t254 = true
  rotate_left
  · replace c7 := Bool.eq_false_iff.mpr c7
    subst c7
    have H1 : (some false) = some r := by rw [if_neg (show ¬ (false = true) by decide)] at H; exact H
    clear H
    have H := H1
    clear H1
    exact absurd ((Option.some.inj H).trans HR_.out) (by decide)
  subst c7
  have H1 : ((item_Is.f k 0 1 0 true ([] : List (S39))).bind fun t255 => (if t255 = true then ((item_Is.f k 0 1 0 false ([] : List (S39))).bind fun t256 => (if t256 = true then (some false) else ((item_Same.f k 1 2 0 false y226 1 2 0 false y226).bind fun t257 => (if t257 = true then ((item_Copy.f 1 2 0 false y226).bind fun bt258 => ((item_Same.f k bt258.1 bt258.2.1 bt258.2.2.1 bt258.2.2.2.1 bt258.2.2.2.2 1 2 0 false y226).bind fun t265 => (if t265 = true then (if t231 = 0 then (if t240 = 0 then (if t239 = (t230.size : Int) then ((item_Same.f k 1 2 0 false y226 t232 t233 t234 t235 t236).bind fun t266 => (if t266 = true then (if t243 = 10 then (some (t252 == 12)) else (some false)) else (some false))) else (some false)) else (some false)) else (some false)) else (some false)))) else (some false))))) else (some false))) = some r := by rw [if_pos rfl] at H; exact H
  clear H
  have H := H1
  clear H1
  replace H := Option.bind_eq_some_iff.mp H
  obtain ⟨t255, A80, H⟩ := H
  try dsimp only at H
  have A8 := Aside0.mk A80
  clear A80
  by_cases c9 : t255 = true
  rotate_left
  · replace c9 := Bool.eq_false_iff.mpr c9
    subst c9
    have H1 : (some false) = some r := by rw [if_neg (show ¬ (false = true) by decide)] at H; exact H
    clear H
    have H := H1
    clear H1
    exact absurd ((Option.some.inj H).trans HR_.out) (by decide)
  subst c9
  have H1 : ((item_Is.f k 0 1 0 false ([] : List (S39))).bind fun t256 => (if t256 = true then (some false) else ((item_Same.f k 1 2 0 false y226 1 2 0 false y226).bind fun t257 => (if t257 = true then ((item_Copy.f 1 2 0 false y226).bind fun bt258 => ((item_Same.f k bt258.1 bt258.2.1 bt258.2.2.1 bt258.2.2.2.1 bt258.2.2.2.2 1 2 0 false y226).bind fun t265 => (if t265 = true then (if t231 = 0 then (if t240 = 0 then (if t239 = (t230.size : Int) then ((item_Same.f k 1 2 0 false y226 t232 t233 t234 t235 t236).bind fun t266 => (if t266 = true then (if t243 = 10 then (some (t252 == 12)) else (some false)) else (some false))) else (some false)) else (some false)) else (some false)) else (some false)))) else (some false))))) = some r := by rw [if_pos rfl] at H; exact H
  clear H
  have H := H1
  clear H1
  replace H := Option.bind_eq_some_iff.mp H
  obtain ⟨t256, A100, H⟩ := H
  try dsimp only at H
  have A10 := Aside0.mk A100
  clear A100
  by_cases c11 : t256 = true
  · subst c11
    have H1 : (some false) = some r := by rw [if_pos rfl] at H; exact H
    clear H
    have H := H1
    clear H1
    exact absurd ((Option.some.inj H).trans HR_.out) (by decide)
  replace c11 := Bool.eq_false_iff.mpr c11
  subst c11
  have H1 : ((item_Same.f k 1 2 0 false y226 1 2 0 false y226).bind fun t257 => (if t257 = true then ((item_Copy.f 1 2 0 false y226).bind fun bt258 => ((item_Same.f k bt258.1 bt258.2.1 bt258.2.2.1 bt258.2.2.2.1 bt258.2.2.2.2 1 2 0 false y226).bind fun t265 => (if t265 = true then (if t231 = 0 then (if t240 = 0 then (if t239 = (t230.size : Int) then ((item_Same.f k 1 2 0 false y226 t232 t233 t234 t235 t236).bind fun t266 => (if t266 = true then (if t243 = 10 then (some (t252 == 12)) else (some false)) else (some false))) else (some false)) else (some false)) else (some false)) else (some false)))) else (some false))) = some r := by rw [if_neg (show ¬ (false = true) by decide)] at H; exact H
  clear H
  have H := H1
  clear H1
  replace H := Option.bind_eq_some_iff.mp H
  obtain ⟨t257, A120, H⟩ := H
  try dsimp only at H
  have A12 := Aside0.mk A120
  clear A120
  by_cases c13 : t257 = true
  rotate_left
  · replace c13 := Bool.eq_false_iff.mpr c13
    subst c13
    have H1 : (some false) = some r := by rw [if_neg (show ¬ (false = true) by decide)] at H; exact H
    clear H
    have H := H1
    clear H1
    exact absurd ((Option.some.inj H).trans HR_.out) (by decide)
  subst c13
  have H1 : ((item_Copy.f 1 2 0 false y226).bind fun bt258 => ((item_Same.f k bt258.1 bt258.2.1 bt258.2.2.1 bt258.2.2.2.1 bt258.2.2.2.2 1 2 0 false y226).bind fun t265 => (if t265 = true then (if t231 = 0 then (if t240 = 0 then (if t239 = (t230.size : Int) then ((item_Same.f k 1 2 0 false y226 t232 t233 t234 t235 t236).bind fun t266 => (if t266 = true then (if t243 = 10 then (some (t252 == 12)) else (some false)) else (some false))) else (some false)) else (some false)) else (some false)) else (some false)))) = some r := by rw [if_pos rfl] at H; exact H
  clear H
  have H := H1
  clear H1
  replace H := Option.bind_eq_some_iff.mp H
  obtain ⟨⟨t258, t259, t260, t261, t262⟩, A140, H⟩ := H
  try dsimp only at H
  have A14 := Aside0.mk A140
  clear A140
  replace H := Option.bind_eq_some_iff.mp H
  obtain ⟨t265, A150, H⟩ := H
  try dsimp only at H
  have A15 := Aside0.mk A150
  clear A150
  by_cases c16 : t265 = true
  rotate_left
  · replace c16 := Bool.eq_false_iff.mpr c16
    subst c16
    have H1 : (some false) = some r := by rw [if_neg (show ¬ (false = true) by decide)] at H; exact H
    clear H
    have H := H1
    clear H1
    exact absurd ((Option.some.inj H).trans HR_.out) (by decide)
  subst c16
  have H1 : (if t231 = 0 then (if t240 = 0 then (if t239 = (t230.size : Int) then ((item_Same.f k 1 2 0 false y226 t232 t233 t234 t235 t236).bind fun t266 => (if t266 = true then (if t243 = 10 then (some (t252 == 12)) else (some false)) else (some false))) else (some false)) else (some false)) else (some false)) = some r := by rw [if_pos rfl] at H; exact H
  clear H
  have H := H1
  clear H1
  by_cases c17 : t231 = 0
  rotate_left
  · rw [if_neg c17] at H
    have c17b0 : (t231 == 0) = false := beq_eq_false_iff_ne.mpr c17
    have c17b1 : (t231 != 0) = true := bne_iff_ne.mpr c17
    exact absurd ((Option.some.inj H).trans HR_.out) (by decide)
  rw [if_pos c17] at H
  have c17b0 : (t231 == 0) = true := beq_iff_eq.mpr c17
  have c17b1 : (t231 != 0) = false := bne_eq_false_iff_eq.mpr c17
  clear c17
  by_cases c18 : t240 = 0
  rotate_left
  · rw [if_neg c18] at H
    have c18b0 : (t240 == 0) = false := beq_eq_false_iff_ne.mpr c18
    have c18b1 : (t240 != 0) = true := bne_iff_ne.mpr c18
    exact absurd ((Option.some.inj H).trans HR_.out) (by decide)
  rw [if_pos c18] at H
  have c18b0 : (t240 == 0) = true := beq_iff_eq.mpr c18
  have c18b1 : (t240 != 0) = false := bne_eq_false_iff_eq.mpr c18
  clear c18
  by_cases c19 : t239 = (t230.size : Int)
  rotate_left
  · rw [if_neg c19] at H
    have c19b0 : (t239 == (t230.size : Int)) = false := beq_eq_false_iff_ne.mpr c19
    have c19b1 : (t239 != (t230.size : Int)) = true := bne_iff_ne.mpr c19
    exact absurd ((Option.some.inj H).trans HR_.out) (by decide)
  rw [if_pos c19] at H
  have c19b0 : (t239 == (t230.size : Int)) = true := beq_iff_eq.mpr c19
  have c19b1 : (t239 != (t230.size : Int)) = false := bne_eq_false_iff_eq.mpr c19
  clear c19
  replace H := Option.bind_eq_some_iff.mp H
  obtain ⟨t266, A200, H⟩ := H
  try dsimp only at H
  have A20 := Aside0.mk A200
  clear A200
  by_cases c21 : t266 = true
  rotate_left
  · replace c21 := Bool.eq_false_iff.mpr c21
    subst c21
    have H1 : (some false) = some r := by rw [if_neg (show ¬ (false = true) by decide)] at H; exact H
    clear H
    have H := H1
    clear H1
    exact absurd ((Option.some.inj H).trans HR_.out) (by decide)
  subst c21
  have H1 : (if t243 = 10 then (some (t252 == 12)) else (some false)) = some r := by rw [if_pos rfl] at H; exact H
  clear H
  have H := H1
  clear H1
  by_cases c22 : t243 = 10
  rotate_left
  · rw [if_neg c22] at H
    have c22b0 : (t243 == 10) = false := beq_eq_false_iff_ne.mpr c22
    have c22b1 : (t243 != 10) = true := bne_iff_ne.mpr c22
    exact absurd ((Option.some.inj H).trans HR_.out) (by decide)
  rw [if_pos c22] at H
  have c22b0 : (t243 == 10) = true := beq_iff_eq.mpr c22
  have c22b1 : (t243 != 10) = false := bne_eq_false_iff_eq.mpr c22
  clear c22
  obtain rfl := Option.some.inj H
  go_enter Try.func7, Try.ntmps7
  try go_wp2_with (first | ((with_reducible refine gate_dst (N := 13) rfl ?_); (try (refine gate_guard (by rfl) ?_; dsimp only)); refine Kd.R_lit k39 _ 39 ?hg (N := 13) ?hd (xs := ([(⟨(⟨#[97]⟩ : ByteArray), false, (⟨#[98]⟩ : ByteArray)⟩ : S39)] : List (S39))) (inner := [.string (⟨#[97]⟩ : ByteArray), .bool false, .string (⟨#[98]⟩ : ByteArray)]) (ok := fun _ => True) (okp := fun _ => True) ?hr ?hp (fun _ hk => hk) trivial (Below.refl _ _) (Nat.le_refl _) (by simp) ?_; (case hd => rfl); (case hg => rfl); (case hr => first | (go_simp; done) | (go_simp; rfl)); (case hp => exact (Reps.c3 (show Kd.M k39 _ _ _ (⟨(⟨#[97]⟩ : ByteArray), false, (⟨#[98]⟩ : ByteArray)⟩ : S39) [.string (⟨#[97]⟩ : ByteArray), .bool false, .string (⟨#[98]⟩ : ByteArray)] from (k39_mkM _ _ _ (⟨(⟨#[97]⟩ : ByteArray), false, (⟨#[98]⟩ : ByteArray)⟩ : S39) )) (Reps.none _ _))); intro v227 w23 ho24 hb hg_ hnew_; clear hg_ hnew_; (first | rw [← Ny226.out] at ho24 | (simp only [Int.reduceToNat] at ho24; rw [← Ny226.out] at ho24)); have n0_ := Aside0.mk (Kd.R_lower ho24 (below_size (gw_ HB))); have n1_ := bs_ HB hb; clear HB; have HO228 := n0_; have HB := n1_; clear n0_ n1_; clear hb ho24; obtain ⟨Ao25, co25, eo25⟩ := Kd.R_slice HO228.out; subst eo25) | ((with_reducible refine gate_dst (N := 1) rfl ?_); (try (refine gate_guard (by rfl) ?_; dsimp only)); refine box_event ?hg (N := 1) ?hd (cs := #[.int .i64 0, .int .i64 0, .int .i64 0, .bool false, .slice none 0 0]) (t := 24) ?hr ?_; (case hd => rfl); (case hg => rfl); (case hr => first | (go_simp; done) | (go_simp; rfl)); intro gb229 hg w26 hbox hb; have n0_ := rb_ HO228 hb; have n1_ := bs_ HB hb; have n2_ := Aside0.mk (hbox); have n3_ := gz_ HB hg; have n4_ := gz_ HB hg; clear HO228; clear HB; have HO228 := n0_; have HB := n1_; have BK229 := n2_; have GW229 := n3_; have GE229 := n4_; clear n0_ n1_ n2_ n3_ n4_; clear hb hbox hg; have hcz27_0 := bc0 BK229; have hcz27_1 := bc1 BK229; have hcz27_2 := bc2 BK229; have hcz27_3 := bc3 BK229; have hcz27_4 := bc4 BK229; have hfz27_0 := bf_ BK229 0; have hfz27_1 := bf_ BK229 1; have hfz27_2 := bf_ BK229 2; have hfz27_3 := bf_ BK229 3; have hfz27_4 := bf_ BK229 4) | ((with_reducible refine gate_callee (f := 9) rfl ?_); refine goesL_ (some 17) rfl rfl Try.func9 (by kernel_rfl) rfl #[.agg #[.int .i64 1, .int .i64 2, .int .i64 0, .bool false, .slice Ao25 y226.length co25]] rfl (by (try simp only [maps_]); first | done | rfl) ?_; (with_reducible refine (item_Bytes.calls k 1 2 0 false _ _ y226 t230 t231 _ ?side1 ?side2 A1.out).mono ?_); (case side1 => refine (Kd.R_reads' (e := 39) (base := w.heap.size) (ok := fun k_ => True) (n := y226.length) (c := co25) ?_).2.2; exact (by (with_reducible repeat (first | apply Kd.R_alloc | apply Kd.R_drewN | apply Kd.R_drew)); exact (Kd.R_mono (Kd.R_far (p := ⟨gb229, 4, none⟩) (Kd.R_far (p := ⟨gb229, 3, none⟩) (Kd.R_far (p := ⟨gb229, 2, none⟩) (Kd.R_far (p := ⟨gb229, 1, none⟩) (Kd.R_far (p := ⟨gb229, 0, none⟩) (Kd.R_types HO228.out BK229.out (by decide)) (fun _ hk => hk.2) (.int .i64 1)) (fun _ hk => hk.2) (.int .i64 2)) (fun _ hk => hk.2) (.int .i64 0)) (fun _ hk => hk.2) (.bool false)) (fun _ hk => hk.2) (.slice Ao25 y226.length co25)) (fun _ h_ => h_.1)))); (case side2 => exact (Kd.R_reads' HO228.out).2.1); rintro e w28 ⟨rfl, hb⟩; refine ⟨_, rfl, ?_⟩; have n0_ := Aside0.mk (Kd.R_below (by (with_reducible repeat (first | apply Kd.R_alloc | apply Kd.R_drewN | apply Kd.R_drew)); exact (Kd.R_mono (Kd.R_far (p := ⟨gb229, 4, none⟩) (Kd.R_far (p := ⟨gb229, 3, none⟩) (Kd.R_far (p := ⟨gb229, 2, none⟩) (Kd.R_far (p := ⟨gb229, 1, none⟩) (Kd.R_far (p := ⟨gb229, 0, none⟩) (Kd.R_types HO228.out BK229.out (by decide)) (fun _ hk => hk.2) (.int .i64 1)) (fun _ hk => hk.2) (.int .i64 2)) (fun _ hk => hk.2) (.int .i64 0)) (fun _ hk => hk.2) (.bool false)) (fun _ hk => hk.2) (.slice Ao25 y226.length co25)) (fun _ h_ => h_.1))) hb); have n1_ := Aside0.mk (blk_below (g := gb229) (o := .cells #[.int .i64 1, .int .i64 2, .int .i64 0, .bool false, .slice Ao25 y226.length co25] 24 (0, 0)) (by (with_reducible repeat (first | refine blk_drewN ?_ _ | refine blk_drew ?_ | refine blk_alloc ?_ _)); refine blk_put (cs := #[.int .i64 1, .int .i64 2, .int .i64 0, .bool false, .slice none 0 0]) ?_ 4 _ rfl; refine blk_put (cs := #[.int .i64 1, .int .i64 2, .int .i64 0, .bool false, .slice none 0 0]) ?_ 3 _ rfl; refine blk_put (cs := #[.int .i64 1, .int .i64 2, .int .i64 0, .bool false, .slice none 0 0]) ?_ 2 _ rfl; refine blk_put (cs := #[.int .i64 1, .int .i64 0, .int .i64 0, .bool false, .slice none 0 0]) ?_ 1 _ rfl; refine blk_put (cs := #[.int .i64 0, .int .i64 0, .int .i64 0, .bool false, .slice none 0 0]) ?_ 0 _ rfl; exact gb_ BK229) hb); have n2_ := bl_ [gb229] HB ⟨GE229, ⟨⟩⟩ hb; clear HO228; clear BK229; clear HB; have HO228 := n0_; have BK229 := n1_; have HB := n2_; clear n0_ n1_ n2_; (try clear hb); (try clear hb2); (try clear hk); (try clear hi)) | ((with_reducible refine gate_callee (f := 11) rfl ?_); refine goesL_ (some 23) rfl rfl Try.func11 (by kernel_rfl) rfl #[.string (t230 ++ (⟨#[122]⟩ : ByteArray))] rfl (by (try simp only [maps_]); first | done | rfl) ?_; (with_reducible refine (item_Read.calls k (t230 ++ (⟨#[122]⟩ : ByteArray)) t232 t233 t234 t235 t236 t239 t240 _ A3.out).mono ?_); rintro e w29 ⟨v237, rfl, ho0, hb⟩; refine ⟨_, rfl, ?_⟩; have n0_ := Aside0.mk (Kd.R_elder' (by (with_reducible repeat (first | apply Kd.R_alloc | apply Kd.R_drewN | apply Kd.R_drew)); exact HO228.out) (Kd.R_base ho0) hb); have n1_ := Aside0.mk (Kd.R_lower (Kd.R_new' ho0 (Kd.R_lt (by (with_reducible repeat (first | apply Kd.R_alloc | apply Kd.R_drewN | apply Kd.R_drew)); exact HO228.out))) (below_size (gwl_ [gb229] HB ⟨GE229, ⟨⟩⟩))); have n2_ := bb_ BK229 hb; have n3_ := bl_ [gb229] HB ⟨GE229, ⟨⟩⟩ hb; clear HO228; clear BK229; clear HB; have HO228 := n0_; have HO238 := n1_; have BK229 := n2_; have HB := n3_; clear n0_ n1_ n2_ n3_; (try clear hb); (try clear hb2); (try clear hk); (try clear hi); (try clear ho0)) | ((with_reducible refine gate_dst (N := 4) rfl ?_); (try (refine gate_guard (by rfl) ?_; dsimp only)); refine box_event ?hg (N := 4) ?hd (cs := #[.int .i64 0, .int .i64 0, .int .i64 0, .bool false, .slice none 0 0]) (t := 24) ?hr ?_; (case hd => rfl); (case hg => rfl); (case hr => first | (go_simp; done) | (go_simp; rfl)); intro gb241 hg w30 hbox hb; have n0_ := rb_ HO228 hb; have n1_ := rb_ HO238 hb; have n2_ := bb_ BK229 hb; have n3_ := bl_ [gb229] HB ⟨GE229, ⟨⟩⟩ hb; have n4_ := Aside0.mk (hbox); have n5_ := gl_ [gb229] HB ⟨GE229, ⟨⟩⟩ hg; have n6_ := gl_ [gb229] HB ⟨GE229, ⟨⟩⟩ hg; have n7_ := gn_ BK229 hg; have n8_ := Aside0.mk ((by rw [hg]; exact Nat.ne_of_gt (blk_lt (g := gb229) (o := .cells #[.int .i64 1, .int .i64 2, .int .i64 0, .bool false, .slice Ao25 y226.length co25] 24 (0, 0)) (gb_ BK229)) : gb241 ≠ gb229)); clear HO228; clear HO238; clear BK229; clear HB; have HO228 := n0_; have HO238 := n1_; have BK229 := n2_; have HB := n3_; have BK241 := n4_; have GW241 := n5_; have GE241 := n6_; have NB229_241 := n7_; have NB241_229 := n8_; clear n0_ n1_ n2_ n3_ n4_ n5_ n6_ n7_ n8_; clear hb hbox hg; have hnb31 := NB241_229.out; have hnc31 := NB229_241.out; have hcz32_0 := bc0 BK241; have hcz32_1 := bc1 BK241; have hcz32_2 := bc2 BK241; have hcz32_3 := bc3 BK241; have hcz32_4 := bc4 BK241; have hfz32_0 := bf_ BK241 0; have hfz32_1 := bf_ BK241 1; have hfz32_2 := bf_ BK241 2; have hfz32_3 := bf_ BK241 3; have hfz32_4 := bf_ BK241 4; obtain ⟨Ao33, co33, eo33⟩ := Kd.R_slice HO238.out; subst eo33) | ((with_reducible refine gate_callee (f := 9) rfl ?_); refine goesL_ (some 29) rfl rfl Try.func9 (by kernel_rfl) rfl #[.agg #[.int .i64 0, .int .i64 0, .int .i64 0, .bool false, .slice none 0 0]] rfl (by (try simp only [maps_]); first | done | rfl) ?_; (refine (item_Bytes.calls k 0 0 0 false _ _ ([] : List (S39)) t242 t243 _ ?side1 ?side2 A4.out).mono ?_); (case side1 => exact Kd.C_nil _ _); (case side2 => exact Nat.le_refl _); rintro e w34 ⟨rfl, hb⟩; refine ⟨_, rfl, ?_⟩; have n0_ := Aside0.mk (Kd.R_below (by (with_reducible repeat (first | apply Kd.R_alloc | apply Kd.R_drewN | apply Kd.R_drew)); exact (Kd.R_mono (Kd.R_far (p := ⟨gb241, 4, none⟩) (Kd.R_far (p := ⟨gb241, 3, none⟩) (Kd.R_far (p := ⟨gb241, 2, none⟩) (Kd.R_far (p := ⟨gb241, 1, none⟩) (Kd.R_far (p := ⟨gb241, 0, none⟩) (Kd.R_types HO228.out BK241.out (by decide)) (fun _ hk => hk.2) (.int .i64 t232)) (fun _ hk => hk.2) (.int .i64 t233)) (fun _ hk => hk.2) (.int .i64 t234)) (fun _ hk => hk.2) (.bool t235)) (fun _ hk => hk.2) (.slice Ao33 t236.length co33)) (fun _ h_ => h_.1))) hb); have n1_ := Aside0.mk (Kd.R_below (by (with_reducible repeat (first | apply Kd.R_alloc | apply Kd.R_drewN | apply Kd.R_drew)); exact (Kd.R_mono (Kd.R_far (p := ⟨gb241, 4, none⟩) (Kd.R_far (p := ⟨gb241, 3, none⟩) (Kd.R_far (p := ⟨gb241, 2, none⟩) (Kd.R_far (p := ⟨gb241, 1, none⟩) (Kd.R_far (p := ⟨gb241, 0, none⟩) (Kd.R_types HO238.out BK241.out (by decide)) (fun _ hk => hk.2) (.int .i64 t232)) (fun _ hk => hk.2) (.int .i64 t233)) (fun _ hk => hk.2) (.int .i64 t234)) (fun _ hk => hk.2) (.bool t235)) (fun _ hk => hk.2) (.slice Ao33 t236.length co33)) (fun _ h_ => h_.1))) hb); have n2_ := Aside0.mk (blk_below (g := gb229) (o := .cells #[.int .i64 1, .int .i64 2, .int .i64 0, .bool false, .slice Ao25 y226.length co25] 24 (0, 0)) (by (with_reducible repeat (first | refine blk_drewN ?_ _ | refine blk_drew ?_ | refine blk_alloc ?_ _)); refine blk_far ?_ NB229_241.out _; refine blk_far ?_ NB229_241.out _; refine blk_far ?_ NB229_241.out _; refine blk_far ?_ NB229_241.out _; refine blk_far ?_ NB229_241.out _; exact gb_ BK229) hb); have n3_ := Aside0.mk (blk_below (g := gb241) (o := .cells #[.int .i64 t232, .int .i64 t233, .int .i64 t234, .bool t235, .slice Ao33 t236.length co33] 24 (0, 0)) (by (with_reducible repeat (first | refine blk_drewN ?_ _ | refine blk_drew ?_ | refine blk_alloc ?_ _)); refine blk_put (cs := #[.int .i64 t232, .int .i64 t233, .int .i64 t234, .bool t235, .slice none 0 0]) ?_ 4 _ rfl; refine blk_put (cs := #[.int .i64 t232, .int .i64 t233, .int .i64 t234, .bool false, .slice none 0 0]) ?_ 3 _ rfl; refine blk_put (cs := #[.int .i64 t232, .int .i64 t233, .int .i64 0, .bool false, .slice none 0 0]) ?_ 2 _ rfl; refine blk_put (cs := #[.int .i64 t232, .int .i64 0, .int .i64 0, .bool false, .slice none 0 0]) ?_ 1 _ rfl; refine blk_put (cs := #[.int .i64 0, .int .i64 0, .int .i64 0, .bool false, .slice none 0 0]) ?_ 0 _ rfl; exact gb_ BK241) hb); have n4_ := bl_ [gb229, gb241] HB ⟨GE229, GE241, ⟨⟩⟩ hb; clear HO228; clear HO238; clear BK229; clear BK241; clear HB; have HO228 := n0_; have HO238 := n1_; have BK229 := n2_; have BK241 := n3_; have HB := n4_; clear n0_ n1_ n2_ n3_ n4_; (try clear hb); (try clear hb2); (try clear hk); (try clear hi)) | ((with_reducible refine gate_callee (f := 11) rfl ?_); refine goesL_ (some 33) rfl rfl Try.func11 (by kernel_rfl) rfl #[.string (⟨#[]⟩ : ByteArray)] rfl (by (try simp only [maps_]); first | done | rfl) ?_; (with_reducible refine (item_Read.calls k (⟨#[]⟩ : ByteArray) t244 t245 t246 t247 t248 t251 t252 _ A5.out).mono ?_); rintro e w35 ⟨v249, rfl, ho0, hb⟩; refine ⟨_, rfl, ?_⟩; have n0_ := Aside0.mk (Kd.R_elder' (by (with_reducible repeat (first | apply Kd.R_alloc | apply Kd.R_drewN | apply Kd.R_drew)); exact HO228.out) (Kd.R_base ho0) hb); have n1_ := Aside0.mk (Kd.R_elder' (by (with_reducible repeat (first | apply Kd.R_alloc | apply Kd.R_drewN | apply Kd.R_drew)); exact HO238.out) (Kd.R_base ho0) hb); have n2_ := Aside0.mk (Kd.R_lower (Kd.R_new' (Kd.R_new' ho0 (Kd.R_lt (by (with_reducible repeat (first | apply Kd.R_alloc | apply Kd.R_drewN | apply Kd.R_drew)); exact HO228.out))) (Kd.R_lt (by (with_reducible repeat (first | apply Kd.R_alloc | apply Kd.R_drewN | apply Kd.R_drew)); exact HO238.out))) (below_size (gwl_ [gb229, gb241] HB ⟨GE229, GE241, ⟨⟩⟩))); have n3_ := bb_ BK229 hb; have n4_ := bb_ BK241 hb; have n5_ := bl_ [gb229, gb241] HB ⟨GE229, GE241, ⟨⟩⟩ hb; clear HO228; clear HO238; clear BK229; clear BK241; clear HB; have HO228 := n0_; have HO238 := n1_; have HO250 := n2_; have BK229 := n3_; have BK241 := n4_; have HB := n5_; clear n0_ n1_ n2_ n3_ n4_ n5_; (try clear hb); (try clear hb2); (try clear hk); (try clear hi); (try clear ho0)) | ((with_reducible refine gate_dst (N := 9) rfl ?_); (try (refine gate_guard (by rfl) ?_; dsimp only)); refine box_event ?hg (N := 9) ?hd (cs := #[.int .i64 0, .int .i64 0, .int .i64 0, .bool false, .slice none 0 0]) (t := 24) ?hr ?_; (case hd => rfl); (case hg => rfl); (case hr => first | (go_simp; done) | (go_simp; rfl)); intro gb253 hg w36 hbox hb; have n0_ := rb_ HO228 hb; have n1_ := rb_ HO238 hb; have n2_ := rb_ HO250 hb; have n3_ := bb_ BK229 hb; have n4_ := bb_ BK241 hb; have n5_ := bl_ [gb229, gb241] HB ⟨GE229, GE241, ⟨⟩⟩ hb; have n6_ := Aside0.mk (hbox); have n7_ := gl_ [gb229, gb241] HB ⟨GE229, GE241, ⟨⟩⟩ hg; have n8_ := gl_ [gb229, gb241] HB ⟨GE229, GE241, ⟨⟩⟩ hg; have n9_ := gn_ BK229 hg; have n10_ := Aside0.mk ((by rw [hg]; exact Nat.ne_of_gt (blk_lt (g := gb229) (o := .cells #[.int .i64 1, .int .i64 2, .int .i64 0, .bool false, .slice Ao25 y226.length co25] 24 (0, 0)) (gb_ BK229)) : gb253 ≠ gb229)); have n11_ := gn_ BK241 hg; have n12_ := Aside0.mk ((by rw [hg]; exact Nat.ne_of_gt (blk_lt (g := gb241) (o := .cells #[.int .i64 t232, .int .i64 t233, .int .i64 t234, .bool t235, .slice Ao33 t236.length co33] 24 (0, 0)) (gb_ BK241)) : gb253 ≠ gb241)); clear HO228; clear HO238; clear HO250; clear BK229; clear BK241; clear HB; have HO228 := n0_; have HO238 := n1_; have HO250 := n2_; have BK229 := n3_; have BK241 := n4_; have HB := n5_; have BK253 := n6_; have GW253 := n7_; have GE253 := n8_; have NB229_253 := n9_; have NB253_229 := n10_; have NB241_253 := n11_; have NB253_241 := n12_; clear n0_ n1_ n2_ n3_ n4_ n5_ n6_ n7_ n8_ n9_ n10_ n11_ n12_; clear hb hbox hg; have hnb37 := NB253_229.out; have hnc37 := NB229_253.out; have hnb38 := NB253_241.out; have hnc38 := NB241_253.out; have hcz39_0 := bc0 BK253; have hcz39_1 := bc1 BK253; have hcz39_2 := bc2 BK253; have hcz39_3 := bc3 BK253; have hcz39_4 := bc4 BK253; have hfz39_0 := bf_ BK253 0; have hfz39_1 := bf_ BK253 1; have hfz39_2 := bf_ BK253 2; have hfz39_3 := bf_ BK253 3; have hfz39_4 := bf_ BK253 4; obtain ⟨Ao40, co40, eo40⟩ := Kd.R_slice HO250.out; subst eo40))
  have n0_ : Aside0 (Kd.R k39 39 (((((w36.setCell ⟨gb253, 0, none⟩ (.int .i64 t244)).setCell ⟨gb253, 1, none⟩ (.int .i64 t245)).setCell ⟨gb253, 2, none⟩ (.int .i64 t246)).setCell ⟨gb253, 3, none⟩ (.bool t247)).setCell ⟨gb253, 4, none⟩ (.slice Ao40 t248.length co40)) w.heap.size (fun k_ => some k_ ≠ (.slice Ao33 t236.length co33 : Value).ownBlock ∧ some k_ ≠ (.slice Ao40 t248.length co40 : Value).ownBlock) (.slice Ao25 y226.length co25) y226) := ⟨by (with_reducible repeat (first | apply Kd.R_alloc | apply Kd.R_drewN | apply Kd.R_drew)); exact Kd.R_mono (Kd.R_far (p := ⟨gb253, 4, none⟩) (Kd.R_far (p := ⟨gb253, 3, none⟩) (Kd.R_far (p := ⟨gb253, 2, none⟩) (Kd.R_far (p := ⟨gb253, 1, none⟩) (Kd.R_far (p := ⟨gb253, 0, none⟩) (Kd.R_types HO228.out BK253.out (by decide)) (fun _ hk => hk.2) (.int .i64 t244)) (fun _ hk => hk.2) (.int .i64 t245)) (fun _ hk => hk.2) (.int .i64 t246)) (fun _ hk => hk.2) (.bool t247)) (fun _ hk => hk.2) (.slice Ao40 t248.length co40)) (fun _ hk => ⟨hk.1.1.2, hk.1.2⟩)⟩
  have n1_ : Aside0 (Kd.R k39 39 (((((w36.setCell ⟨gb253, 0, none⟩ (.int .i64 t244)).setCell ⟨gb253, 1, none⟩ (.int .i64 t245)).setCell ⟨gb253, 2, none⟩ (.int .i64 t246)).setCell ⟨gb253, 3, none⟩ (.bool t247)).setCell ⟨gb253, 4, none⟩ (.slice Ao40 t248.length co40)) w.heap.size (fun k_ => some k_ ≠ (.slice Ao25 y226.length co25 : Value).ownBlock ∧ some k_ ≠ (.slice Ao40 t248.length co40 : Value).ownBlock) (.slice Ao33 t236.length co33) t236) := ⟨by (with_reducible repeat (first | apply Kd.R_alloc | apply Kd.R_drewN | apply Kd.R_drew)); exact Kd.R_mono (Kd.R_far (p := ⟨gb253, 4, none⟩) (Kd.R_far (p := ⟨gb253, 3, none⟩) (Kd.R_far (p := ⟨gb253, 2, none⟩) (Kd.R_far (p := ⟨gb253, 1, none⟩) (Kd.R_far (p := ⟨gb253, 0, none⟩) (Kd.R_types HO238.out BK253.out (by decide)) (fun _ hk => hk.2) (.int .i64 t244)) (fun _ hk => hk.2) (.int .i64 t245)) (fun _ hk => hk.2) (.int .i64 t246)) (fun _ hk => hk.2) (.bool t247)) (fun _ hk => hk.2) (.slice Ao40 t248.length co40)) (fun _ hk => ⟨hk.1.1.2, hk.1.2⟩)⟩
  have n2_ : Aside0 (Kd.R k39 39 (((((w36.setCell ⟨gb253, 0, none⟩ (.int .i64 t244)).setCell ⟨gb253, 1, none⟩ (.int .i64 t245)).setCell ⟨gb253, 2, none⟩ (.int .i64 t246)).setCell ⟨gb253, 3, none⟩ (.bool t247)).setCell ⟨gb253, 4, none⟩ (.slice Ao40 t248.length co40)) w.heap.size (fun k_ => some k_ ≠ (.slice Ao25 y226.length co25 : Value).ownBlock ∧ some k_ ≠ (.slice Ao33 t236.length co33 : Value).ownBlock) (.slice Ao40 t248.length co40) t248) := ⟨by (with_reducible repeat (first | apply Kd.R_alloc | apply Kd.R_drewN | apply Kd.R_drew)); exact Kd.R_mono (Kd.R_far (p := ⟨gb253, 4, none⟩) (Kd.R_far (p := ⟨gb253, 3, none⟩) (Kd.R_far (p := ⟨gb253, 2, none⟩) (Kd.R_far (p := ⟨gb253, 1, none⟩) (Kd.R_far (p := ⟨gb253, 0, none⟩) (Kd.R_types HO250.out BK253.out (by decide)) (fun _ hk => hk.2) (.int .i64 t244)) (fun _ hk => hk.2) (.int .i64 t245)) (fun _ hk => hk.2) (.int .i64 t246)) (fun _ hk => hk.2) (.bool t247)) (fun _ hk => hk.2) (.slice Ao40 t248.length co40)) (fun _ hk => ⟨hk.1.1.2, hk.1.2⟩)⟩
  have n3_ : Aside0 ((((((w36.setCell ⟨gb253, 0, none⟩ (.int .i64 t244)).setCell ⟨gb253, 1, none⟩ (.int .i64 t245)).setCell ⟨gb253, 2, none⟩ (.int .i64 t246)).setCell ⟨gb253, 3, none⟩ (.bool t247)).setCell ⟨gb253, 4, none⟩ (.slice Ao40 t248.length co40)).heap[gb229]? = some (.cells #[.int .i64 1, .int .i64 2, .int .i64 0, .bool false, .slice Ao25 y226.length co25] 24 (0, 0))) := ⟨by (with_reducible repeat (first | refine blk_drewN ?_ _ | refine blk_drew ?_ | refine blk_alloc ?_ _)); refine blk_far ?_ NB229_253.out _; refine blk_far ?_ NB229_253.out _; refine blk_far ?_ NB229_253.out _; refine blk_far ?_ NB229_253.out _; refine blk_far ?_ NB229_253.out _; exact gb_ BK229⟩
  have n4_ : Aside0 ((((((w36.setCell ⟨gb253, 0, none⟩ (.int .i64 t244)).setCell ⟨gb253, 1, none⟩ (.int .i64 t245)).setCell ⟨gb253, 2, none⟩ (.int .i64 t246)).setCell ⟨gb253, 3, none⟩ (.bool t247)).setCell ⟨gb253, 4, none⟩ (.slice Ao40 t248.length co40)).heap[gb241]? = some (.cells #[.int .i64 t232, .int .i64 t233, .int .i64 t234, .bool t235, .slice Ao33 t236.length co33] 24 (0, 0))) := ⟨by (with_reducible repeat (first | refine blk_drewN ?_ _ | refine blk_drew ?_ | refine blk_alloc ?_ _)); refine blk_far ?_ NB241_253.out _; refine blk_far ?_ NB241_253.out _; refine blk_far ?_ NB241_253.out _; refine blk_far ?_ NB241_253.out _; refine blk_far ?_ NB241_253.out _; exact gb_ BK241⟩
  have n5_ : Aside0 ((((((w36.setCell ⟨gb253, 0, none⟩ (.int .i64 t244)).setCell ⟨gb253, 1, none⟩ (.int .i64 t245)).setCell ⟨gb253, 2, none⟩ (.int .i64 t246)).setCell ⟨gb253, 3, none⟩ (.bool t247)).setCell ⟨gb253, 4, none⟩ (.slice Ao40 t248.length co40)).heap[gb253]? = some (.cells #[.int .i64 t244, .int .i64 t245, .int .i64 t246, .bool t247, .slice Ao40 t248.length co40] 24 (0, 0))) := ⟨by (with_reducible repeat (first | refine blk_drewN ?_ _ | refine blk_drew ?_ | refine blk_alloc ?_ _)); refine blk_put (cs := #[.int .i64 t244, .int .i64 t245, .int .i64 t246, .bool t247, .slice none 0 0]) ?_ 4 _ rfl; refine blk_put (cs := #[.int .i64 t244, .int .i64 t245, .int .i64 t246, .bool false, .slice none 0 0]) ?_ 3 _ rfl; refine blk_put (cs := #[.int .i64 t244, .int .i64 t245, .int .i64 0, .bool false, .slice none 0 0]) ?_ 2 _ rfl; refine blk_put (cs := #[.int .i64 t244, .int .i64 0, .int .i64 0, .bool false, .slice none 0 0]) ?_ 1 _ rfl; refine blk_put (cs := #[.int .i64 0, .int .i64 0, .int .i64 0, .bool false, .slice none 0 0]) ?_ 0 _ rfl; exact gb_ BK253⟩
  have n6_ : Aside0 (Below w.heap.size w (((((w36.setCell ⟨gb253, 0, none⟩ (.int .i64 t244)).setCell ⟨gb253, 1, none⟩ (.int .i64 t245)).setCell ⟨gb253, 2, none⟩ (.int .i64 t246)).setCell ⟨gb253, 3, none⟩ (.bool t247)).setCell ⟨gb253, 4, none⟩ (.slice Ao40 t248.length co40))) := ⟨gwl_ [gb229, gb241, gb253] HB ⟨GE229, GE241, GE253, ⟨⟩⟩⟩
  (try clear HO228)
  (try clear HO238)
  (try clear HO250)
  (try clear BK229)
  (try clear BK241)
  (try clear BK253)
  (try clear HB)
  generalize (((((w36.setCell ⟨gb253, 0, none⟩ (.int .i64 t244)).setCell ⟨gb253, 1, none⟩ (.int .i64 t245)).setCell ⟨gb253, 2, none⟩ (.int .i64 t246)).setCell ⟨gb253, 3, none⟩ (.bool t247)).setCell ⟨gb253, 4, none⟩ (.slice Ao40 t248.length co40)) = w41 at n0_ n1_ n2_ n3_ n4_ n5_ n6_ ⊢
  have HO228 := n0_
  have HO238 := n1_
  have HO250 := n2_
  have BK229 := n3_
  have BK241 := n4_
  have BK253 := n5_
  have HB := n6_
  clear n0_ n1_ n2_ n3_ n4_ n5_ n6_
  have n0_ := Aside0.mk (Kd.R_drew HO228.out)
  have n1_ := Aside0.mk (Kd.R_drew HO238.out)
  have n2_ := Aside0.mk (Kd.R_drew HO250.out)
  have n3_ := Aside0.mk (blk_drew BK229.out)
  have n4_ := Aside0.mk (blk_drew BK241.out)
  have n5_ := Aside0.mk (blk_drew BK253.out)
  have n6_ := Aside0.mk (below_drew1 HB.out)
  clear HO228
  clear HO238
  clear HO250
  clear BK229
  clear BK241
  clear BK253
  clear HB
  have HO228 := n0_
  have HO238 := n1_
  have HO250 := n2_
  have BK229 := n3_
  have BK241 := n4_
  have BK253 := n5_
  have HB := n6_
  clear n0_ n1_ n2_ n3_ n4_ n5_ n6_
  refine start_ (n := 50) (S := fun w' => w'.cell? ⟨gb229, 0, none⟩ = some (.int .i64 1) ∧ w'.cell? ⟨gb229, 1, none⟩ = some (.int .i64 2) ∧ w'.cell? ⟨gb229, 2, none⟩ = some (.int .i64 0) ∧ w'.cell? ⟨gb229, 3, none⟩ = some (.bool false) ∧ w'.cell? ⟨gb229, 4, none⟩ = some (.slice Ao25 y226.length co25) ∧ w'.cell? ⟨gb241, 0, none⟩ = some (.int .i64 t232) ∧ w'.cell? ⟨gb241, 1, none⟩ = some (.int .i64 t233) ∧ w'.cell? ⟨gb241, 2, none⟩ = some (.int .i64 t234) ∧ w'.cell? ⟨gb241, 3, none⟩ = some (.bool t235) ∧ w'.cell? ⟨gb241, 4, none⟩ = some (.slice Ao33 t236.length co33)) (ds := []) mkPx9_0 (by kernel_rfl) rfl rfl ⟨bc0 BK229, bc1 BK229, bc2 BK229, bc3 BK229, bc4 BK229, bc0 BK241, bc1 BK241, bc2 BK241, bc3 BK241, bc4 BK241⟩ (fun hHeld => ?_); refine with_tabW ravelinlaw18_known.tab6 ravelinlaw18_known.bits6 (fun HT_ HW_ => ?_)
  generalize w41.drew = w42 at HO228 HO238 HO250 BK229 BK241 BK253 HB hHeld ⊢
  refine take_ (i := 0) (N := some 37) (v := ?_) (a' := ?_) mkPx9_1 rfl rfl (take_ofW HT_.out HW_.out (by kernel_rfl)) (fun _ _ _ h => h) (Or.inl ⟨by rfl, ?_⟩) hHeld ?_ ?_
  rotate_left
  · rintro w' ⟨s0, s1, s2, s3, s4, s5, s6, s7, s8, s9⟩
    go_simp
    with_reducible rfl
  rotate_left
  · simp only [Act.put, lists_, i64_w, i32_w]
    rfl
  refine one_ (i := 1) (N := some 38) mkPx9_2 rfl rfl (one_of HT_.out (by kernel_rfl)) (by decide) (fun K hK => ?_)
  refine goes_ Try.func15 (by kernel_rfl) rfl #[.agg #[.int .i64 1, .int .i64 2, .int .i64 0, .bool false, .slice Ao25 y226.length co25]] (by rfl) rfl rfl (by (try simp only [maps_]); first | done | rfl) ?_
  with_reducible refine (item_Is.calls k 1 2 0 false _ _ y226 true _ ?side1 ?side2 A6.out).mono ?_
  (case side1 => repeat (first | exact (Kd.R_reads' HO228.out).2.2 | (with_reducible refine Kd.C_alloc ?_ _) | (with_reducible refine Kd.C_drewN ?_ _) | (with_reducible refine Kd.C_drew ?_)))
  (case side2 => exact (Kd.R_reads' HO228.out).2.1)
  rintro e w43 ⟨rfl, hb⟩
  refine ⟨_, rfl, ?_⟩
  have n0_ := rb_ HO228 hb
  have n1_ := rb_ HO238 hb
  have n2_ := rb_ HO250 hb
  have n3_ := bb_ BK229 hb
  have n4_ := bb_ BK241 hb
  have n5_ := bb_ BK253 hb
  have n6_ := bl_ [gb229, gb241, gb253] HB ⟨GE229, GE241, GE253, ⟨⟩⟩ hb
  clear HO228
  clear HO238
  clear HO250
  clear BK229
  clear BK241
  clear BK253
  clear HB
  have HO228 := n0_
  have HO238 := n1_
  have HO250 := n2_
  have BK229 := n3_
  have BK241 := n4_
  have BK253 := n5_
  have HB := n6_
  clear n0_ n1_ n2_ n3_ n4_ n5_ n6_
  (try clear hb)
  (try clear hb2)
  (try clear hk)
  (try clear hi)
  refine hK.out _ _ ⟨bc0 BK229, bc1 BK229, bc2 BK229, bc3 BK229, bc4 BK229, bc0 BK241, bc1 BK241, bc2 BK241, bc3 BK241, bc4 BK241⟩ (fun hHeld => ?_)
  clear hK K
  refine norm_ (a' := ?_) ?_ ?_
  rotate_left
  · show Act.put _ (some 38) _ = _
    simp only [Act.put, lists_, i64_w, i32_w]
    rfl
  refine pu_ 2 (some 39) mkPx9_3 HT_ ?_ rfl rfl (by kernel_rfl) (fun _ _ _ h => h) (Or.inl ⟨by rfl, ?_⟩) ?_ ?_ ?_
  rotate_left
  · intro w'
    go_simp
    with_reducible rfl
  rotate_left
  · simp only [Act.put, lists_, i64_w, i32_w]
    rfl
  refine pu_ 3 (some 40) mkPx9_4 HT_ ?_ rfl rfl (by kernel_rfl) (fun _ _ _ h => h) (Or.inl ⟨by rfl, ?_⟩) ?_ ?_ ?_
  rotate_left
  · intro w'
    go_simp
    with_reducible rfl
  rotate_left
  · simp only [Act.put, lists_, i64_w, i32_w]
    rfl
  refine one_ (i := 4) (N := some 41) mkPx9_5 rfl rfl (one_of HT_.out (by kernel_rfl)) (by decide) (fun K hK => ?_)
  refine goes_ Try.func15 (by kernel_rfl) rfl #[.agg #[.int .i64 0, .int .i64 1, .int .i64 0, .bool true, .slice none 0 0]] (by rfl) rfl rfl (by (try simp only [maps_]); first | done | rfl) ?_
  refine (item_Is.calls k 0 1 0 true _ _ ([] : List (S39)) true _ ?side1 ?side2 A8.out).mono ?_
  (case side1 => exact Kd.C_nil _ _)
  (case side2 => exact Nat.le_refl _)
  rintro e w44 ⟨rfl, hb⟩
  refine ⟨_, rfl, ?_⟩
  have n0_ := rb_ HO228 hb
  have n1_ := rb_ HO238 hb
  have n2_ := rb_ HO250 hb
  have n3_ := bb_ BK229 hb
  have n4_ := bb_ BK241 hb
  have n5_ := bb_ BK253 hb
  have n6_ := bl_ [gb229, gb241, gb253] HB ⟨GE229, GE241, GE253, ⟨⟩⟩ hb
  clear HO228
  clear HO238
  clear HO250
  clear BK229
  clear BK241
  clear BK253
  clear HB
  have HO228 := n0_
  have HO238 := n1_
  have HO250 := n2_
  have BK229 := n3_
  have BK241 := n4_
  have BK253 := n5_
  have HB := n6_
  clear n0_ n1_ n2_ n3_ n4_ n5_ n6_
  (try clear hb)
  (try clear hb2)
  (try clear hk)
  (try clear hi)
  refine hK.out _ _ ⟨bc0 BK229, bc1 BK229, bc2 BK229, bc3 BK229, bc4 BK229, bc0 BK241, bc1 BK241, bc2 BK241, bc3 BK241, bc4 BK241⟩ (fun hHeld => ?_)
  clear hK K
  refine norm_ (a' := ?_) ?_ ?_
  rotate_left
  · show Act.put _ (some 41) _ = _
    simp only [Act.put, lists_, i64_w, i32_w]
    rfl
  refine pu_ 5 (some 42) mkPx9_6 HT_ ?_ rfl rfl (by kernel_rfl) (fun _ _ _ h => h) (Or.inl ⟨by rfl, ?_⟩) ?_ ?_ ?_
  rotate_left
  · intro w'
    go_simp
    with_reducible rfl
  rotate_left
  · simp only [Act.put, lists_, i64_w, i32_w]
    rfl
  refine pu_ 6 (some 43) mkPx9_7 HT_ ?_ rfl rfl (by kernel_rfl) (fun _ _ _ h => h) (Or.inl ⟨by rfl, ?_⟩) ?_ ?_ ?_
  rotate_left
  · intro w'
    go_simp
    with_reducible rfl
  rotate_left
  · simp only [Act.put, lists_, i64_w, i32_w]
    rfl
  refine pu_ 7 (some 44) mkPx9_8 HT_ ?_ rfl rfl (by kernel_rfl) (fun _ _ _ h => h) (Or.inl ⟨by rfl, ?_⟩) ?_ ?_ ?_
  rotate_left
  · intro w'
    go_simp
    with_reducible rfl
  rotate_left
  · simp only [Act.put, lists_, i64_w, i32_w]
    rfl
  refine one_ (i := 8) (N := some 45) mkPx9_9 rfl rfl (one_of HT_.out (by kernel_rfl)) (by decide) (fun K hK => ?_)
  refine goes_ Try.func15 (by kernel_rfl) rfl #[.agg #[.int .i64 0, .int .i64 1, .int .i64 0, .bool false, .slice none 0 0]] (by rfl) rfl rfl (by (try simp only [maps_]); first | done | rfl) ?_
  refine (item_Is.calls k 0 1 0 false _ _ ([] : List (S39)) false _ ?side1 ?side2 A10.out).mono ?_
  (case side1 => exact Kd.C_nil _ _)
  (case side2 => exact Nat.le_refl _)
  rintro e w45 ⟨rfl, hb⟩
  refine ⟨_, rfl, ?_⟩
  have n0_ := rb_ HO228 hb
  have n1_ := rb_ HO238 hb
  have n2_ := rb_ HO250 hb
  have n3_ := bb_ BK229 hb
  have n4_ := bb_ BK241 hb
  have n5_ := bb_ BK253 hb
  have n6_ := bl_ [gb229, gb241, gb253] HB ⟨GE229, GE241, GE253, ⟨⟩⟩ hb
  clear HO228
  clear HO238
  clear HO250
  clear BK229
  clear BK241
  clear BK253
  clear HB
  have HO228 := n0_
  have HO238 := n1_
  have HO250 := n2_
  have BK229 := n3_
  have BK241 := n4_
  have BK253 := n5_
  have HB := n6_
  clear n0_ n1_ n2_ n3_ n4_ n5_ n6_
  (try clear hb)
  (try clear hb2)
  (try clear hk)
  (try clear hi)
  refine hK.out _ _ ⟨bc0 BK229, bc1 BK229, bc2 BK229, bc3 BK229, bc4 BK229, bc0 BK241, bc1 BK241, bc2 BK241, bc3 BK241, bc4 BK241⟩ (fun hHeld => ?_)
  clear hK K
  refine norm_ (a' := ?_) ?_ ?_
  rotate_left
  · show Act.put _ (some 45) _ = _
    simp only [Act.put, lists_, i64_w, i32_w]
    rfl
  refine pu_ 9 (some 46) mkPx9_10 HT_ ?_ rfl rfl (by kernel_rfl) (fun _ _ _ h => h) (Or.inl ⟨by rfl, ?_⟩) ?_ ?_ ?_
  rotate_left
  · intro w'
    go_simp
    with_reducible rfl
  rotate_left
  · simp only [Act.put, lists_, i64_w, i32_w]
    rfl
  refine pu_ 10 (some 47) mkPx9_11 HT_ ?_ rfl rfl (by kernel_rfl) (fun _ _ _ h => h) (Or.inl ⟨by rfl, ?_⟩) ?_ ?_ ?_
  rotate_left
  · intro w'
    go_simp
    with_reducible rfl
  rotate_left
  · simp only [Act.put, lists_, i64_w, i32_w]
    rfl
  refine pu_ 11 (some 48) mkPx9_12 HT_ ?_ rfl rfl (by kernel_rfl) (fun _ _ _ h => h) (Or.inl ⟨by rfl, ?_⟩) ?_ ?_ ?_
  rotate_left
  · intro w'
    go_simp
    with_reducible rfl
  rotate_left
  · simp only [Act.put, lists_, i64_w, i32_w]
    rfl
  refine take_ (i := 12) (N := some 49) (v := ?_) (a' := ?_) mkPx9_13 rfl rfl (take_ofW HT_.out HW_.out (by kernel_rfl)) (fun _ _ _ h => h) (Or.inl ⟨by rfl, ?_⟩) hHeld ?_ ?_
  rotate_left
  · rintro w' ⟨s0, s1, s2, s3, s4, s5, s6, s7, s8, s9⟩
    go_simp
    with_reducible rfl
  rotate_left
  · simp only [Act.put, lists_, i64_w, i32_w]
    rfl
  refine take_ (i := 13) (N := some 50) (v := ?_) (a' := ?_) mkPx9_14 rfl rfl (take_ofW HT_.out HW_.out (by kernel_rfl)) (fun _ _ _ h => h) (Or.inl ⟨by rfl, ?_⟩) hHeld ?_ ?_
  rotate_left
  · rintro w' ⟨s0, s1, s2, s3, s4, s5, s6, s7, s8, s9⟩
    go_simp
    with_reducible rfl
  rotate_left
  · simp only [Act.put, lists_, i64_w, i32_w]
    rfl
  refine one_ (i := 14) (N := some 51) mkPx9_15 rfl rfl (one_of HT_.out (by kernel_rfl)) (by decide) (fun K hK => ?_)
  refine goes_ Try.func17 (by kernel_rfl) rfl #[.agg #[.int .i64 1, .int .i64 2, .int .i64 0, .bool false, .slice Ao25 y226.length co25], .agg #[.int .i64 1, .int .i64 2, .int .i64 0, .bool false, .slice Ao25 y226.length co25]] (by rfl) rfl rfl (by (try simp only [maps_]); first | done | rfl) ?_
  with_reducible refine (item_Same.calls k 1 2 0 false _ _ y226 1 2 0 false _ _ y226 true _ ?side1 ?side2 ?side3 ?side4 A12.out).mono ?_
  (case side1 => repeat (first | exact (Kd.R_reads' HO228.out).2.2 | (with_reducible refine Kd.C_alloc ?_ _) | (with_reducible refine Kd.C_drewN ?_ _) | (with_reducible refine Kd.C_drew ?_)))
  (case side2 => exact (Kd.R_reads' HO228.out).2.1)
  (case side3 => repeat (first | exact (Kd.R_reads' HO228.out).2.2 | (with_reducible refine Kd.C_alloc ?_ _) | (with_reducible refine Kd.C_drewN ?_ _) | (with_reducible refine Kd.C_drew ?_)))
  (case side4 => exact (Kd.R_reads' HO228.out).2.1)
  rintro e w46 ⟨rfl, hb⟩
  refine ⟨_, rfl, ?_⟩
  have n0_ := rb_ HO228 hb
  have n1_ := rb_ HO238 hb
  have n2_ := rb_ HO250 hb
  have n3_ := bb_ BK229 hb
  have n4_ := bb_ BK241 hb
  have n5_ := bb_ BK253 hb
  have n6_ := bl_ [gb229, gb241, gb253] HB ⟨GE229, GE241, GE253, ⟨⟩⟩ hb
  clear HO228
  clear HO238
  clear HO250
  clear BK229
  clear BK241
  clear BK253
  clear HB
  have HO228 := n0_
  have HO238 := n1_
  have HO250 := n2_
  have BK229 := n3_
  have BK241 := n4_
  have BK253 := n5_
  have HB := n6_
  clear n0_ n1_ n2_ n3_ n4_ n5_ n6_
  (try clear hb)
  (try clear hb2)
  (try clear hk)
  (try clear hi)
  refine hK.out _ _ ⟨bc0 BK229, bc1 BK229, bc2 BK229, bc3 BK229, bc4 BK229, bc0 BK241, bc1 BK241, bc2 BK241, bc3 BK241, bc4 BK241⟩ (fun hHeld => ?_)
  clear hK K
  refine norm_ (a' := ?_) ?_ ?_
  rotate_left
  · show Act.put _ (some 51) _ = _
    simp only [Act.put, lists_, i64_w, i32_w]
    rfl
  refine pu_ 15 (some 52) mkPx9_16 HT_ ?_ rfl rfl (by kernel_rfl) (fun _ _ _ h => h) (Or.inl ⟨by rfl, ?_⟩) ?_ ?_ ?_
  rotate_left
  · intro w'
    go_simp
    with_reducible rfl
  rotate_left
  · simp only [Act.put, lists_, i64_w, i32_w]
    rfl
  refine pu_ 16 (some 53) mkPx9_17 HT_ ?_ rfl rfl (by kernel_rfl) (fun _ _ _ h => h) (Or.inl ⟨by rfl, ?_⟩) ?_ ?_ ?_
  rotate_left
  · intro w'
    go_simp
    with_reducible rfl
  rotate_left
  · simp only [Act.put, lists_, i64_w, i32_w]
    rfl
  refine take_ (i := 17) (N := some 54) (v := ?_) (a' := ?_) mkPx9_18 rfl rfl (take_ofW HT_.out HW_.out (by kernel_rfl)) (fun _ _ _ h => h) (Or.inl ⟨by rfl, ?_⟩) hHeld ?_ ?_
  rotate_left
  · rintro w' ⟨s0, s1, s2, s3, s4, s5, s6, s7, s8, s9⟩
    go_simp
    with_reducible rfl
  rotate_left
  · simp only [Act.put, lists_, i64_w, i32_w]
    rfl
  refine take_ (i := 19) (N := some 56) (v := ?_) (a' := ?_) mkPx9_19 rfl rfl (take_ofW HT_.out HW_.out (by kernel_rfl)) (fun _ _ _ h => h) (Or.inl ⟨by rfl, ?_⟩) hHeld ?_ ?_
  rotate_left
  · rintro w' ⟨s0, s1, s2, s3, s4, s5, s6, s7, s8, s9⟩
    go_simp
    with_reducible rfl
  rotate_left
  · simp only [Act.put, lists_, i64_w, i32_w]
    rfl
  refine one_ (i := 18) (N := some 55) mkPx9_20 rfl rfl (one_of HT_.out (by kernel_rfl)) (by decide) (fun K hK => ?_)
  refine goes_ Try.func13 (by kernel_rfl) rfl #[.agg #[.int .i64 1, .int .i64 2, .int .i64 0, .bool false, .slice Ao25 y226.length co25]] (by rfl) rfl rfl (by (try simp only [maps_]); first | done | rfl) ?_
  with_reducible refine (item_Copy.calls 1 2 0 false _ _ y226 t258 t259 t260 t261 t262 _ ?side1 ?side2 A14.out).mono ?_
  (case side1 => repeat (first | exact (Kd.R_reads' HO228.out).2.2 | (with_reducible refine Kd.C_alloc ?_ _) | (with_reducible refine Kd.C_drewN ?_ _) | (with_reducible refine Kd.C_drew ?_)))
  (case side2 => exact (Kd.R_reads' HO228.out).2.1)
  rintro e w47 ⟨v263, rfl, ho0, hb⟩
  refine ⟨_, rfl, ?_⟩
  have n0_ := Aside0.mk (Kd.R_elder' (by (with_reducible repeat (first | apply Kd.R_alloc | apply Kd.R_drewN | apply Kd.R_drew)); exact HO228.out) (Kd.R_base ho0) hb)
  have n1_ := Aside0.mk (Kd.R_elder' (by (with_reducible repeat (first | apply Kd.R_alloc | apply Kd.R_drewN | apply Kd.R_drew)); exact HO238.out) (Kd.R_base ho0) hb)
  have n2_ := Aside0.mk (Kd.R_elder' (by (with_reducible repeat (first | apply Kd.R_alloc | apply Kd.R_drewN | apply Kd.R_drew)); exact HO250.out) (Kd.R_base ho0) hb)
  have n3_ := Aside0.mk (Kd.R_lower (Kd.R_new' (Kd.R_new' (Kd.R_new' ho0 (Kd.R_lt (by (with_reducible repeat (first | apply Kd.R_alloc | apply Kd.R_drewN | apply Kd.R_drew)); exact HO228.out))) (Kd.R_lt (by (with_reducible repeat (first | apply Kd.R_alloc | apply Kd.R_drewN | apply Kd.R_drew)); exact HO238.out))) (Kd.R_lt (by (with_reducible repeat (first | apply Kd.R_alloc | apply Kd.R_drewN | apply Kd.R_drew)); exact HO250.out))) (below_size (gwl_ [gb229, gb241, gb253] HB ⟨GE229, GE241, GE253, ⟨⟩⟩)))
  have n4_ := bb_ BK229 hb
  have n5_ := bb_ BK241 hb
  have n6_ := bb_ BK253 hb
  have n7_ := bl_ [gb229, gb241, gb253] HB ⟨GE229, GE241, GE253, ⟨⟩⟩ hb
  clear HO228
  clear HO238
  clear HO250
  clear BK229
  clear BK241
  clear BK253
  clear HB
  have HO228 := n0_
  have HO238 := n1_
  have HO250 := n2_
  have HO264 := n3_
  have BK229 := n4_
  have BK241 := n5_
  have BK253 := n6_
  have HB := n7_
  clear n0_ n1_ n2_ n3_ n4_ n5_ n6_ n7_
  (try clear hb)
  (try clear hb2)
  (try clear hk)
  (try clear hi)
  (try clear ho0)
  obtain ⟨Ao48, co48, eo48⟩ := Kd.R_slice HO264.out
  (first | subst eo48 | (injection eo48 with f1_ f2_ f3_; have f4_ := f1_.symm; have f5_ := f3_.symm; clear f1_ f2_ f3_; subst f4_; subst f5_))
  refine hK.out _ _ ⟨bc0 BK229, bc1 BK229, bc2 BK229, bc3 BK229, bc4 BK229, bc0 BK241, bc1 BK241, bc2 BK241, bc3 BK241, bc4 BK241⟩ (fun hHeld => ?_)
  clear hK K
  refine norm_ (a' := ?_) ?_ ?_
  rotate_left
  · show Act.put _ (some 55) _ = _
    simp only [Act.put, lists_, i64_w, i32_w]
    rfl
  refine one_ (i := 20) (N := some 57) mkPx9_21 rfl rfl (one_of HT_.out (by kernel_rfl)) (by decide) (fun K hK => ?_)
  refine goes_ Try.func17 (by kernel_rfl) rfl #[.agg #[.int .i64 t258, .int .i64 t259, .int .i64 t260, .bool t261, .slice Ao48 t262.length co48], .agg #[.int .i64 1, .int .i64 2, .int .i64 0, .bool false, .slice Ao25 y226.length co25]] (by rfl) rfl rfl (by (try simp only [maps_]); first | done | rfl) ?_
  with_reducible refine (item_Same.calls k t258 t259 t260 t261 _ _ t262 1 2 0 false _ _ y226 true _ ?side1 ?side2 ?side3 ?side4 A15.out).mono ?_
  (case side1 => repeat (first | exact (Kd.R_reads' HO264.out).2.2 | (with_reducible refine Kd.C_alloc ?_ _) | (with_reducible refine Kd.C_drewN ?_ _) | (with_reducible refine Kd.C_drew ?_)))
  (case side2 => exact (Kd.R_reads' HO264.out).2.1)
  (case side3 => repeat (first | exact (Kd.R_reads' HO228.out).2.2 | (with_reducible refine Kd.C_alloc ?_ _) | (with_reducible refine Kd.C_drewN ?_ _) | (with_reducible refine Kd.C_drew ?_)))
  (case side4 => exact (Kd.R_reads' HO228.out).2.1)
  rintro e w49 ⟨rfl, hb⟩
  refine ⟨_, rfl, ?_⟩
  have n0_ := rb_ HO228 hb
  have n1_ := rb_ HO238 hb
  have n2_ := rb_ HO250 hb
  have n3_ := rb_ HO264 hb
  have n4_ := bb_ BK229 hb
  have n5_ := bb_ BK241 hb
  have n6_ := bb_ BK253 hb
  have n7_ := bl_ [gb229, gb241, gb253] HB ⟨GE229, GE241, GE253, ⟨⟩⟩ hb
  clear HO228
  clear HO238
  clear HO250
  clear HO264
  clear BK229
  clear BK241
  clear BK253
  clear HB
  have HO228 := n0_
  have HO238 := n1_
  have HO250 := n2_
  have HO264 := n3_
  have BK229 := n4_
  have BK241 := n5_
  have BK253 := n6_
  have HB := n7_
  clear n0_ n1_ n2_ n3_ n4_ n5_ n6_ n7_
  (try clear hb)
  (try clear hb2)
  (try clear hk)
  (try clear hi)
  refine hK.out _ _ ⟨bc0 BK229, bc1 BK229, bc2 BK229, bc3 BK229, bc4 BK229, bc0 BK241, bc1 BK241, bc2 BK241, bc3 BK241, bc4 BK241⟩ (fun hHeld => ?_)
  clear hK K
  refine norm_ (a' := ?_) ?_ ?_
  rotate_left
  · show Act.put _ (some 57) _ = _
    simp only [Act.put, lists_, i64_w, i32_w]
    rfl
  refine pu_ 21 (some 58) mkPx9_22 HT_ ?_ rfl rfl (by kernel_rfl) (fun _ _ _ h => h) (Or.inl ⟨by rfl, ?_⟩) ?_ ?_ ?_
  rotate_left
  · intro w'
    go_simp
    with_reducible rfl
  rotate_left
  · simp only [Act.put, lists_, i64_w, i32_w]
    rfl
  refine pu_ 22 (some 59) mkPx9_23 HT_ ?_ rfl rfl (by kernel_rfl) (fun _ _ _ h => h) (Or.inl ⟨by rfl, ?_⟩) ?_ ?_ ?_
  rotate_left
  · intro w'
    go_simp
    with_reducible rfl
  rotate_left
  · simp only [Act.put, lists_, i64_w, i32_w]
    rfl
  refine pu_ 23 (some 60) mkPx9_24 HT_ ?_ rfl rfl (by kernel_rfl) (fun _ _ _ h => h) (Or.inl ⟨by rfl, ?_⟩) ?_ ?_ ?_
  rotate_left
  · intro w'
    go_simp
    with_reducible rfl
  rotate_left
  · simp only [Act.put, lists_, i64_w, i32_w]
    rfl
  refine pu_ 24 (some 61) mkPx9_25 HT_ ?_ rfl rfl (by kernel_rfl) (fun _ _ _ h => h) (Or.inl ⟨by rfl, ?_⟩) ?_ ?_ ?_
  rotate_left
  · intro w'
    go_simp
    with_reducible rfl
  rotate_left
  · simp only [Act.put, lists_, i64_w, i32_w]
    rfl
  refine pu_ 25 (some 62) mkPx9_26 HT_ ?_ rfl rfl (by kernel_rfl) (fun _ _ _ h => h) (Or.inl ⟨by rfl, ?_⟩) ?_ ?_ ?_
  rotate_left
  · intro w'
    go_simp
    with_reducible rfl
  rotate_left
  · simp only [Act.put, lists_, i64_w, i32_w]
    rfl
  refine pu_ 26 (some 63) mkPx9_27 HT_ ?_ rfl rfl (by kernel_rfl) (fun _ _ _ h => h) (Or.inl ⟨by rfl, ?_⟩) ?_ ?_ ?_
  rotate_left
  · intro w'
    go_simp
    with_reducible rfl
  rotate_left
  · simp only [Act.put, lists_, i64_w, i32_w]
    rfl
  refine pu_ 27 (some 64) mkPx9_28 HT_ ?_ rfl rfl (by kernel_rfl) (fun _ _ _ h => h) (Or.inl ⟨by rfl, ?_⟩) ?_ ?_ ?_
  rotate_left
  · intro w'
    go_simp
    with_reducible rfl
  rotate_left
  · simp only [Act.put, lists_, i64_w, i32_w]
    rfl
  refine pu_ 28 (some 65) mkPx9_29 HT_ ?_ rfl rfl (by kernel_rfl) (fun _ _ _ h => h) (Or.inl ⟨by rfl, ?_⟩) ?_ ?_ ?_
  rotate_left
  · intro w'
    go_simp
    with_reducible rfl
  rotate_left
  · simp only [Act.put, lists_, i64_w, i32_w]
    rfl
  refine pu_ 29 (some 66) mkPx9_30 HT_ ?_ rfl rfl (by kernel_rfl) (fun _ _ _ h => h) (Or.inl ⟨by rfl, ?_⟩) ?_ ?_ ?_
  rotate_left
  · intro w'
    go_simp
    with_reducible rfl
  rotate_left
  · simp only [Act.put, lists_, i64_w, i32_w]
    rfl
  refine pu_ 30 (some 67) mkPx9_31 HT_ ?_ rfl rfl (by kernel_rfl) (fun _ _ _ h => h) (Or.inl ⟨by rfl, ?_⟩) ?_ ?_ ?_
  rotate_left
  · intro w'
    go_simp
    with_reducible rfl
  rotate_left
  · simp only [Act.put, lists_, i64_w, i32_w]
    rfl
  refine pu_ 31 (some 68) mkPx9_32 HT_ ?_ rfl rfl (by kernel_rfl) (fun _ _ _ h => h) (Or.inl ⟨by rfl, ?_⟩) ?_ ?_ ?_
  rotate_left
  · intro w'
    go_simp
    with_reducible rfl
  rotate_left
  · simp only [Act.put, lists_, i64_w, i32_w]
    rfl
  refine pu_ 32 (some 69) mkPx9_33 HT_ ?_ rfl rfl (by kernel_rfl) (fun _ _ _ h => h) (Or.inl ⟨by rfl, ?_⟩) ?_ ?_ ?_
  rotate_left
  · intro w'
    go_simp
    with_reducible rfl
  rotate_left
  · simp only [Act.put, lists_, i64_w, i32_w]
    rfl
  refine pu_ 33 (some 70) mkPx9_34 HT_ ?_ rfl rfl (by kernel_rfl) (fun _ _ _ h => h) (Or.inl ⟨by rfl, ?_⟩) ?_ ?_ ?_
  rotate_left
  · intro w'
    go_simp
    with_reducible rfl
  rotate_left
  · simp only [Act.put, lists_, i64_w, i32_w]
    rfl
  refine pu_ 34 (some 71) mkPx9_35 HT_ ?_ rfl rfl (by kernel_rfl) (fun _ _ _ h => h) (Or.inl ⟨by rfl, ?_⟩) ?_ ?_ ?_
  rotate_left
  · intro w'
    go_simp
    with_reducible rfl
  rotate_left
  · simp only [Act.put, lists_, i64_w, i32_w]
    rfl
  refine pu_ 35 (some 72) mkPx9_36 HT_ ?_ rfl rfl (by kernel_rfl) (fun _ _ _ h => h) (Or.inl ⟨by rfl, ?_⟩) ?_ ?_ ?_
  rotate_left
  · intro w'
    go_simp
    with_reducible rfl
  rotate_left
  · simp only [Act.put, lists_, i64_w, i32_w]
    rfl
  refine pu_ 36 (some 73) mkPx9_37 HT_ ?_ rfl rfl (by kernel_rfl) (fun _ _ _ h => h) (Or.inl ⟨by rfl, ?_⟩) ?_ ?_ ?_
  rotate_left
  · intro w'
    go_simp
    with_reducible rfl
  rotate_left
  · simp only [Act.put, lists_, i64_w, i32_w]
    rfl
  refine take_ (i := 37) (N := some 74) (v := ?_) (a' := ?_) mkPx9_38 rfl rfl (take_ofW HT_.out HW_.out (by kernel_rfl)) (fun _ _ _ h => h) (Or.inl ⟨by rfl, ?_⟩) hHeld ?_ ?_
  rotate_left
  · rintro w' ⟨s0, s1, s2, s3, s4, s5, s6, s7, s8, s9⟩
    go_simp
    with_reducible rfl
  rotate_left
  · simp only [Act.put, lists_, i64_w, i32_w]
    rfl
  refine take_ (i := 38) (N := some 75) (v := ?_) (a' := ?_) mkPx9_39 rfl rfl (take_ofW HT_.out HW_.out (by kernel_rfl)) (fun _ _ _ h => h) (Or.inl ⟨by rfl, ?_⟩) hHeld ?_ ?_
  rotate_left
  · rintro w' ⟨s0, s1, s2, s3, s4, s5, s6, s7, s8, s9⟩
    go_simp
    with_reducible rfl
  rotate_left
  · simp only [Act.put, lists_, i64_w, i32_w]
    rfl
  refine one_ (i := 39) (N := some 76) mkPx9_40 rfl rfl (one_of HT_.out (by kernel_rfl)) (by decide) (fun K hK => ?_)
  refine goes_ Try.func17 (by kernel_rfl) rfl #[.agg #[.int .i64 1, .int .i64 2, .int .i64 0, .bool false, .slice Ao25 y226.length co25], .agg #[.int .i64 t232, .int .i64 t233, .int .i64 t234, .bool t235, .slice Ao33 t236.length co33]] (by rfl) rfl rfl (by (try simp only [maps_]); first | done | rfl) ?_
  with_reducible refine (item_Same.calls k 1 2 0 false _ _ y226 t232 t233 t234 t235 _ _ t236 true _ ?side1 ?side2 ?side3 ?side4 A20.out).mono ?_
  (case side1 => repeat (first | exact (Kd.R_reads' HO228.out).2.2 | (with_reducible refine Kd.C_alloc ?_ _) | (with_reducible refine Kd.C_drewN ?_ _) | (with_reducible refine Kd.C_drew ?_)))
  (case side2 => exact (Kd.R_reads' HO228.out).2.1)
  (case side3 => repeat (first | exact (Kd.R_reads' HO238.out).2.2 | (with_reducible refine Kd.C_alloc ?_ _) | (with_reducible refine Kd.C_drewN ?_ _) | (with_reducible refine Kd.C_drew ?_)))
  (case side4 => exact (Kd.R_reads' HO238.out).2.1)
  rintro e w50 ⟨rfl, hb⟩
  refine ⟨_, rfl, ?_⟩
  have n0_ := rb_ HO228 hb
  have n1_ := rb_ HO238 hb
  have n2_ := rb_ HO250 hb
  have n3_ := rb_ HO264 hb
  have n4_ := bb_ BK229 hb
  have n5_ := bb_ BK241 hb
  have n6_ := bb_ BK253 hb
  have n7_ := bl_ [gb229, gb241, gb253] HB ⟨GE229, GE241, GE253, ⟨⟩⟩ hb
  clear HO228
  clear HO238
  clear HO250
  clear HO264
  clear BK229
  clear BK241
  clear BK253
  clear HB
  have HO228 := n0_
  have HO238 := n1_
  have HO250 := n2_
  have HO264 := n3_
  have BK229 := n4_
  have BK241 := n5_
  have BK253 := n6_
  have HB := n7_
  clear n0_ n1_ n2_ n3_ n4_ n5_ n6_ n7_
  (try clear hb)
  (try clear hb2)
  (try clear hk)
  (try clear hi)
  refine hK.out _ _ ⟨bc0 BK229, bc1 BK229, bc2 BK229, bc3 BK229, bc4 BK229, bc0 BK241, bc1 BK241, bc2 BK241, bc3 BK241, bc4 BK241⟩ (fun hHeld => ?_)
  clear hK K
  refine norm_ (a' := ?_) ?_ ?_
  rotate_left
  · show Act.put _ (some 76) _ = _
    simp only [Act.put, lists_, i64_w, i32_w]
    rfl
  refine pu_ 40 (some 77) mkPx9_41 HT_ ?_ rfl rfl (by kernel_rfl) (fun _ _ _ h => h) (Or.inl ⟨by rfl, ?_⟩) ?_ ?_ ?_
  rotate_left
  · intro w'
    go_simp
    with_reducible rfl
  rotate_left
  · simp only [Act.put, lists_, i64_w, i32_w]
    rfl
  refine pu_ 41 (some 78) mkPx9_42 HT_ ?_ rfl rfl (by kernel_rfl) (fun _ _ _ h => h) (Or.inl ⟨by rfl, ?_⟩) ?_ ?_ ?_
  rotate_left
  · intro w'
    go_simp
    with_reducible rfl
  rotate_left
  · simp only [Act.put, lists_, i64_w, i32_w]
    rfl
  refine pu_ 42 (some 79) mkPx9_43 HT_ ?_ rfl rfl (by kernel_rfl) (fun _ _ _ h => h) (Or.inl ⟨by rfl, ?_⟩) ?_ ?_ ?_
  rotate_left
  · intro w'
    go_simp
    with_reducible rfl
  rotate_left
  · simp only [Act.put, lists_, i64_w, i32_w]
    rfl
  refine pu_ 43 (some 80) mkPx9_44 HT_ ?_ rfl rfl (by kernel_rfl) (fun _ _ _ h => h) (Or.inl ⟨by rfl, ?_⟩) ?_ ?_ ?_
  rotate_left
  · intro w'
    go_simp
    with_reducible rfl
  rotate_left
  · simp only [Act.put, lists_, i64_w, i32_w]
    rfl
  refine pu_ 44 (some 81) mkPx9_45 HT_ ?_ rfl rfl (by kernel_rfl) (fun _ _ _ h => h) (Or.inl ⟨by rfl, ?_⟩) ?_ ?_ ?_
  rotate_left
  · intro w'
    go_simp
    with_reducible rfl
  rotate_left
  · simp only [Act.put, lists_, i64_w, i32_w]
    rfl
  refine pu_ 45 (some 82) mkPx9_46 HT_ ?_ rfl rfl (by kernel_rfl) (fun _ _ _ h => h) (Or.inl ⟨by rfl, ?_⟩) ?_ ?_ ?_
  rotate_left
  · intro w'
    go_simp
    with_reducible rfl
  rotate_left
  · simp only [Act.put, lists_, i64_w, i32_w]
    rfl
  refine pu_ 46 (some 83) mkPx9_47 HT_ ?_ rfl rfl (by kernel_rfl) (fun _ _ _ h => h) (Or.inl ⟨by rfl, ?_⟩) ?_ ?_ ?_
  rotate_left
  · intro w'
    go_simp
    with_reducible rfl
  rotate_left
  · simp only [Act.put, lists_, i64_w, i32_w]
    rfl
  refine pu_ 47 (some 84) mkPx9_48 HT_ ?_ rfl rfl (by kernel_rfl) (fun _ _ _ h => h) (Or.inl ⟨by rfl, ?_⟩) ?_ ?_ ?_
  rotate_left
  · intro w'
    go_simp
    with_reducible rfl
  rotate_left
  · simp only [Act.put, lists_, i64_w, i32_w]
    rfl
  refine pu_ 48 (some 85) mkPx9_49 HT_ ?_ rfl rfl (by kernel_rfl) (fun _ _ _ h => h) (Or.inl ⟨by rfl, ?_⟩) ?_ ?_ ?_
  rotate_left
  · intro w'
    go_simp
    with_reducible rfl
  rotate_left
  · simp only [Act.put, lists_, i64_w, i32_w]
    rfl
  refine pu_ 49 (some 0) mkPx9_50 HT_ ?_ rfl rfl (by kernel_rfl) (fun _ _ _ h => h) (Or.inl ⟨by rfl, ?_⟩) ?_ ?_ ?_
  rotate_left
  · intro w'
    go_simp
    with_reducible rfl
  rotate_left
  · simp only [Act.put, lists_, i64_w, i32_w]
    rfl
  refine done_ (done_of HT_.out (by kernel_rfl)) ?_
  try go_wp2
  go_ret
  exact ⟨by first | rfl | (simp [*, errW_none, errW_some] <;> rfl), gwl_ [gb229, gb241, gb253] HB ⟨GE229, GE241, GE253, ⟨⟩⟩⟩

end Go.Proofs.Ytkmbgihfdfgmgaa.P
