-- Printed by a changed copy of the kit's printer (wip/tools/ext.py); labels and more
import Derived.Test.YtkmbgihfdfgmgaaQShort
import Derived.Test.YtkmbgihfdfgmgaaM0
import Derived.Test.YtkmbgihfdfgmgaaM2
import Derived.Test.YtkmbgihfdfgmgaaM5
import Derived.Test.YtkmbgihfdfgmgaaM6
import Derived.Test.YtkmbgihfdfgmgaaM7
import Derived.Test.YtkmbgihfdfgmgaaM8
import Derived.Test.YtkmbgihfdfgmgaaM9
import Derived.Test.YtkmbgihfdfgmgaaM11
import Derived.Test.YtkmbgihfdfgmgaaM12
namespace Go.Proofs.Ytkmbgihfdfgmgaa.P
open Go.RowKit Go.Proofs.YtkmbgihfdfgmgaaW.PrintWords Go.Proofs.YtkmbgihfdfgmgaaW.PrintLast Go.Proofs.YtkmbgihfdfgmgaaW.PrintMore
attribute [local go_sem] max2_int min2_int max_two min_two max_three min_three max_four min_four   -- for this text's walks alone
attribute [local go_sem high] string_leq string_geq string_gtr
set_option linter.unusedVariables false
set_option linter.unusedSimpArgs false

abbrev mkPx18_0 : Array Bool := #[false, false, false, false, false, false, false, false, false, false, false, false, false, false, false, false, false, false, false, false, false, false, false, false, false, false, false, false, false, false, false, false, false, false, false, false, false, false, false, false, false, false, false, false, false, false, false, false, false, false, false, false, false, false]
abbrev mkPx18_1 : Array Bool := #[true, false, false, false, false, false, false, false, false, false, false, false, false, false, false, false, false, false, false, false, false, false, false, false, false, false, false, false, false, false, false, false, false, false, false, false, false, false, false, false, false, false, false, false, false, false, false, false, false, false, false, false, false, false]
abbrev mkPx18_2 : Array Bool := #[true, false, true, false, false, false, false, false, false, false, false, false, false, false, false, false, false, false, false, false, false, false, false, false, false, false, false, false, false, false, false, false, false, false, false, false, false, false, false, false, false, false, false, false, false, false, false, false, false, false, false, false, false, false]
abbrev mkPx18_3 : Array Bool := #[true, true, true, false, false, false, false, false, false, false, false, false, false, false, false, false, false, false, false, false, false, false, false, false, false, false, false, false, false, false, false, false, false, false, false, false, false, false, false, false, false, false, false, false, false, false, false, false, false, false, false, false, false, false]
abbrev mkPx18_4 : Array Bool := #[true, true, true, true, false, false, false, false, false, false, false, false, false, false, false, false, false, false, false, false, false, false, false, false, false, false, false, false, false, false, false, false, false, false, false, false, false, false, false, false, false, false, false, false, false, false, false, false, false, false, false, false, false, false]
abbrev mkPx18_5 : Array Bool := #[true, true, true, true, true, false, false, false, false, false, false, false, false, false, false, false, false, false, false, false, false, false, false, false, false, false, false, false, false, false, false, false, false, false, false, false, false, false, false, false, false, false, false, false, false, false, false, false, false, false, false, false, false, false]
abbrev mkPx18_6 : Array Bool := #[true, true, true, true, true, true, false, false, false, false, false, false, false, false, false, false, false, false, false, false, false, false, false, false, false, false, false, false, false, false, false, false, false, false, false, false, false, false, false, false, false, false, false, false, false, false, false, false, false, false, false, false, false, false]
abbrev mkPx18_7 : Array Bool := #[true, true, true, true, true, true, true, false, false, false, false, false, false, false, false, false, false, false, false, false, false, false, false, false, false, false, false, false, false, false, false, false, false, false, false, false, false, false, false, false, false, false, false, false, false, false, false, false, false, false, false, false, false, false]
abbrev mkPx18_8 : Array Bool := #[true, true, true, true, true, true, true, true, false, false, false, false, false, false, false, false, false, false, false, false, false, false, false, false, false, false, false, false, false, false, false, false, false, false, false, false, false, false, false, false, false, false, false, false, false, false, false, false, false, false, false, false, false, false]
abbrev mkPx18_9 : Array Bool := #[true, true, true, true, true, true, true, true, false, true, false, false, false, false, false, false, false, false, false, false, false, false, false, false, false, false, false, false, false, false, false, false, false, false, false, false, false, false, false, false, false, false, false, false, false, false, false, false, false, false, false, false, false, false]
abbrev mkPx18_10 : Array Bool := #[true, true, true, true, true, true, true, true, false, true, true, false, false, false, false, false, false, false, false, false, false, false, false, false, false, false, false, false, false, false, false, false, false, false, false, false, false, false, false, false, false, false, false, false, false, false, false, false, false, false, false, false, false, false]
abbrev mkPx18_11 : Array Bool := #[true, true, true, true, true, true, true, true, true, true, true, false, false, false, false, false, false, false, false, false, false, false, false, false, false, false, false, false, false, false, false, false, false, false, false, false, false, false, false, false, false, false, false, false, false, false, false, false, false, false, false, false, false, false]
abbrev mkPx18_12 : Array Bool := #[true, true, true, true, true, true, true, true, true, true, true, true, false, false, false, false, false, false, false, false, false, false, false, false, false, false, false, false, false, false, false, false, false, false, false, false, false, false, false, false, false, false, false, false, false, false, false, false, false, false, false, false, false, false]
abbrev mkPx18_13 : Array Bool := #[true, true, true, true, true, true, true, true, true, true, true, true, true, false, false, false, false, false, false, false, false, false, false, false, false, false, false, false, false, false, false, false, false, false, false, false, false, false, false, false, false, false, false, false, false, false, false, false, false, false, false, false, false, false]
abbrev mkPx18_14 : Array Bool := #[true, true, true, true, true, true, true, true, true, true, true, true, true, true, false, false, false, false, false, false, false, false, false, false, false, false, false, false, false, false, false, false, false, false, false, false, false, false, false, false, false, false, false, false, false, false, false, false, false, false, false, false, false, false]
abbrev mkPx18_15 : Array Bool := #[true, true, true, true, true, true, true, true, true, true, true, true, true, true, true, false, false, false, false, false, false, false, false, false, false, false, false, false, false, false, false, false, false, false, false, false, false, false, false, false, false, false, false, false, false, false, false, false, false, false, false, false, false, false]
abbrev mkPx18_16 : Array Bool := #[true, true, true, true, true, true, true, true, true, true, true, true, true, true, true, true, false, false, false, false, false, false, false, false, false, false, false, false, false, false, false, false, false, false, false, false, false, false, false, false, false, false, false, false, false, false, false, false, false, false, false, false, false, false]
abbrev mkPx18_17 : Array Bool := #[true, true, true, true, true, true, true, true, true, true, true, true, true, true, true, true, true, false, false, false, false, false, false, false, false, false, false, false, false, false, false, false, false, false, false, false, false, false, false, false, false, false, false, false, false, false, false, false, false, false, false, false, false, false]
abbrev mkPx18_18 : Array Bool := #[true, true, true, true, true, true, true, true, true, true, true, true, true, true, true, true, true, true, false, false, false, false, false, false, false, false, false, false, false, false, false, false, false, false, false, false, false, false, false, false, false, false, false, false, false, false, false, false, false, false, false, false, false, false]
abbrev mkPx18_19 : Array Bool := #[true, true, true, true, true, true, true, true, true, true, true, true, true, true, true, true, true, true, true, false, false, false, false, false, false, false, false, false, false, false, false, false, false, false, false, false, false, false, false, false, false, false, false, false, false, false, false, false, false, false, false, false, false, false]
abbrev mkPx18_20 : Array Bool := #[true, true, true, true, true, true, true, true, true, true, true, true, true, true, true, true, true, true, true, true, false, false, false, false, false, false, false, false, false, false, false, false, false, false, false, false, false, false, false, false, false, false, false, false, false, false, false, false, false, false, false, false, false, false]
abbrev mkPx18_21 : Array Bool := #[true, true, true, true, true, true, true, true, true, true, true, true, true, true, true, true, true, true, true, true, true, false, false, false, false, false, false, false, false, false, false, false, false, false, false, false, false, false, false, false, false, false, false, false, false, false, false, false, false, false, false, false, false, false]
abbrev mkPx18_22 : Array Bool := #[true, true, true, true, true, true, true, true, true, true, true, true, true, true, true, true, true, true, true, true, true, true, false, false, false, false, false, false, false, false, false, false, false, false, false, false, false, false, false, false, false, false, false, false, false, false, false, false, false, false, false, false, false, false]
abbrev mkPx18_23 : Array Bool := #[true, true, true, true, true, true, true, true, true, true, true, true, true, true, true, true, true, true, true, true, true, true, true, false, false, false, false, false, false, false, false, false, false, false, false, false, false, false, false, false, false, false, false, false, false, false, false, false, false, false, false, false, false, false]
abbrev mkPx18_24 : Array Bool := #[true, true, true, true, true, true, true, true, true, true, true, true, true, true, true, true, true, true, true, true, true, true, true, true, false, false, false, false, false, false, false, false, false, false, false, false, false, false, false, false, false, false, false, false, false, false, false, false, false, false, false, false, false, false]
abbrev mkPx18_25 : Array Bool := #[true, true, true, true, true, true, true, true, true, true, true, true, true, true, true, true, true, true, true, true, true, true, true, true, true, false, false, false, false, false, false, false, false, false, false, false, false, false, false, false, false, false, false, false, false, false, false, false, false, false, false, false, false, false]
abbrev mkPx18_26 : Array Bool := #[true, true, true, true, true, true, true, true, true, true, true, true, true, true, true, true, true, true, true, true, true, true, true, true, true, true, false, false, false, false, false, false, false, false, false, false, false, false, false, false, false, false, false, false, false, false, false, false, false, false, false, false, false, false]
abbrev mkPx18_27 : Array Bool := #[true, true, true, true, true, true, true, true, true, true, true, true, true, true, true, true, true, true, true, true, true, true, true, true, true, true, true, false, false, false, false, false, false, false, false, false, false, false, false, false, false, false, false, false, false, false, false, false, false, false, false, false, false, false]
abbrev mkPx18_28 : Array Bool := #[true, true, true, true, true, true, true, true, true, true, true, true, true, true, true, true, true, true, true, true, true, true, true, true, true, true, true, true, false, false, false, false, false, false, false, false, false, false, false, false, false, false, false, false, false, false, false, false, false, false, false, false, false, false]
abbrev mkPx18_29 : Array Bool := #[true, true, true, true, true, true, true, true, true, true, true, true, true, true, true, true, true, true, true, true, true, true, true, true, true, true, true, true, true, false, false, false, false, false, false, false, false, false, false, false, false, false, false, false, false, false, false, false, false, false, false, false, false, false]
abbrev mkPx18_30 : Array Bool := #[true, true, true, true, true, true, true, true, true, true, true, true, true, true, true, true, true, true, true, true, true, true, true, true, true, true, true, true, true, true, false, false, false, false, false, false, false, false, false, false, false, false, false, false, false, false, false, false, false, false, false, false, false, false]
abbrev mkPx18_31 : Array Bool := #[true, true, true, true, true, true, true, true, true, true, true, true, true, true, true, true, true, true, true, true, true, true, true, true, true, true, true, true, true, true, true, false, false, false, false, false, false, false, false, false, false, false, false, false, false, false, false, false, false, false, false, false, false, false]
abbrev mkPx18_32 : Array Bool := #[true, true, true, true, true, true, true, true, true, true, true, true, true, true, true, true, true, true, true, true, true, true, true, true, true, true, true, true, true, true, true, true, false, false, false, false, false, false, false, false, false, false, false, false, false, false, false, false, false, false, false, false, false, false]
abbrev mkPx18_33 : Array Bool := #[true, true, true, true, true, true, true, true, true, true, true, true, true, true, true, true, true, true, true, true, true, true, true, true, true, true, true, true, true, true, true, true, true, false, false, false, false, false, false, false, false, false, false, false, false, false, false, false, false, false, false, false, false, false]
abbrev mkPx18_34 : Array Bool := #[true, true, true, true, true, true, true, true, true, true, true, true, true, true, true, true, true, true, true, true, true, true, true, true, true, true, true, true, true, true, true, true, true, true, false, false, false, false, false, false, false, false, false, false, false, false, false, false, false, false, false, false, false, false]
abbrev mkPx18_35 : Array Bool := #[true, true, true, true, true, true, true, true, true, true, true, true, true, true, true, true, true, true, true, true, true, true, true, true, true, true, true, true, true, true, true, true, true, true, true, false, false, false, false, false, false, false, false, false, false, false, false, false, false, false, false, false, false, false]
abbrev mkPx18_36 : Array Bool := #[true, true, true, true, true, true, true, true, true, true, true, true, true, true, true, true, true, true, true, true, true, true, true, true, true, true, true, true, true, true, true, true, true, true, true, true, false, false, false, false, false, false, false, false, false, false, false, false, false, false, false, false, false, false]
abbrev mkPx18_37 : Array Bool := #[true, true, true, true, true, true, true, true, true, true, true, true, true, true, true, true, true, true, true, true, true, true, true, true, true, true, true, true, true, true, true, true, true, true, true, true, true, false, false, false, false, false, false, false, false, false, false, false, false, false, false, false, false, false]
abbrev mkPx18_38 : Array Bool := #[true, true, true, true, true, true, true, true, true, true, true, true, true, true, true, true, true, true, true, true, true, true, true, true, true, true, true, true, true, true, true, true, true, true, true, true, true, true, false, false, false, false, false, false, false, false, false, false, false, false, false, false, false, false]
abbrev mkPx18_39 : Array Bool := #[true, true, true, true, true, true, true, true, true, true, true, true, true, true, true, true, true, true, true, true, true, true, true, true, true, true, true, true, true, true, true, true, true, true, true, true, true, true, true, false, false, false, false, false, false, false, false, false, false, false, false, false, false, false]
abbrev mkPx18_40 : Array Bool := #[true, true, true, true, true, true, true, true, true, true, true, true, true, true, true, true, true, true, true, true, true, true, true, true, true, true, true, true, true, true, true, true, true, true, true, true, true, true, true, true, false, false, false, false, false, false, false, false, false, false, false, false, false, false]
abbrev mkPx18_41 : Array Bool := #[true, true, true, true, true, true, true, true, true, true, true, true, true, true, true, true, true, true, true, true, true, true, true, true, true, true, true, true, true, true, true, true, true, true, true, true, true, true, true, true, true, false, false, false, false, false, false, false, false, false, false, false, false, false]
abbrev mkPx18_42 : Array Bool := #[true, true, true, true, true, true, true, true, true, true, true, true, true, true, true, true, true, true, true, true, true, true, true, true, true, true, true, true, true, true, true, true, true, true, true, true, true, true, true, true, true, true, false, false, false, false, false, false, false, false, false, false, false, false]
abbrev mkPx18_43 : Array Bool := #[true, true, true, true, true, true, true, true, true, true, true, true, true, true, true, true, true, true, true, true, true, true, true, true, true, true, true, true, true, true, true, true, true, true, true, true, true, true, true, true, true, true, true, false, false, false, false, false, false, false, false, false, false, false]
abbrev mkPx18_44 : Array Bool := #[true, true, true, true, true, true, true, true, true, true, true, true, true, true, true, true, true, true, true, true, true, true, true, true, true, true, true, true, true, true, true, true, true, true, true, true, true, true, true, true, true, true, true, true, false, false, false, false, false, false, false, false, false, false]
abbrev mkPx18_45 : Array Bool := #[true, true, true, true, true, true, true, true, true, true, true, true, true, true, true, true, true, true, true, true, true, true, true, true, true, true, true, true, true, true, true, true, true, true, true, true, true, true, true, true, true, true, true, true, true, false, false, false, false, false, false, false, false, false]
abbrev mkPx18_46 : Array Bool := #[true, true, true, true, true, true, true, true, true, true, true, true, true, true, true, true, true, true, true, true, true, true, true, true, true, true, true, true, true, true, true, true, true, true, true, true, true, true, true, true, true, true, true, true, true, true, false, false, false, false, false, false, false, false]
abbrev mkPx18_47 : Array Bool := #[true, true, true, true, true, true, true, true, true, true, true, true, true, true, true, true, true, true, true, true, true, true, true, true, true, true, true, true, true, true, true, true, true, true, true, true, true, true, true, true, true, true, true, true, true, true, true, false, false, false, false, false, false, false]
abbrev mkPx18_48 : Array Bool := #[true, true, true, true, true, true, true, true, true, true, true, true, true, true, true, true, true, true, true, true, true, true, true, true, true, true, true, true, true, true, true, true, true, true, true, true, true, true, true, true, true, true, true, true, true, true, true, true, false, false, false, false, false, false]
abbrev mkPx18_49 : Array Bool := #[true, true, true, true, true, true, true, true, true, true, true, true, true, true, true, true, true, true, true, true, true, true, true, true, true, true, true, true, true, true, true, true, true, true, true, true, true, true, true, true, true, true, true, true, true, true, true, true, true, false, false, false, false, false]
abbrev mkPx18_50 : Array Bool := #[true, true, true, true, true, true, true, true, true, true, true, true, true, true, true, true, true, true, true, true, true, true, true, true, true, true, true, true, true, true, true, true, true, true, true, true, true, true, true, true, true, true, true, true, true, true, true, true, true, true, false, false, false, false]
abbrev mkPx18_51 : Array Bool := #[true, true, true, true, true, true, true, true, true, true, true, true, true, true, true, true, true, true, true, true, true, true, true, true, true, true, true, true, true, true, true, true, true, true, true, true, true, true, true, true, true, true, true, true, true, true, true, true, true, true, true, false, false, false]
abbrev mkPx18_52 : Array Bool := #[true, true, true, true, true, true, true, true, true, true, true, true, true, true, true, true, true, true, true, true, true, true, true, true, true, true, true, true, true, true, true, true, true, true, true, true, true, true, true, true, true, true, true, true, true, true, true, true, true, true, true, true, false, false]
abbrev mkPx18_53 : Array Bool := #[true, true, true, true, true, true, true, true, true, true, true, true, true, true, true, true, true, true, true, true, true, true, true, true, true, true, true, true, true, true, true, true, true, true, true, true, true, true, true, true, true, true, true, true, true, true, true, true, true, true, true, true, true, false]
abbrev mkPx18_54 : Array Bool := #[true, true, true, true, true, true, true, true, true, true, true, true, true, true, true, true, true, true, true, true, true, true, true, true, true, true, true, true, true, true, true, true, true, true, true, true, true, true, true, true, true, true, true, true, true, true, true, true, true, true, true, true, true, true]
/-! ### ravelinlaw18_ItemTells: function 3 -/
mutual
def ravelinlaw18_ItemTells.j0 : Nat → ByteArray → Bool → Int → Int → Int → Bool → List (S39) → Int → Int → Int → Bool → List (S39) → Option (Bool)
  | 0, _, _, _, _, _, _, _, _, _, _, _, _ => none
  | k + 1, x2, x33, x356000, x356001, x356002, x356003, x356004, x357000, x357001, x357002, x357003, x357004 => if x33 = true then (some true) else ((item_Bytes.f k x356000 x356001 x356002 x356003 x356004).bind fun bt360 => ((ravelinref18_Bytes.f k x356000 x356001 x356002 x356003 x356004).bind fun bt362 => ((item_Read.f k x2).bind fun bt364 => ((ravelinref18_Read.f k x2).bind fun bt374 => (if ([] : List (S39)).length + x356004.length < 3518437208883 then ((some (([] : List (S39)) ++ x356004 : List (S39))).bind fun y385 => ((item_Copy.f x356000 x356001 x356002 x356003 y385).bind fun bt388 => ((ravelinref18_Same.f k bt388.1 bt388.2.1 bt388.2.2.1 bt388.2.2.2.1 bt388.2.2.2.2 x356000 x356001 x356002 x356003 x356004).bind fun t396 => (if t396 = true then (if (bt388.2.2.2.2.length : Int) > 0 then (if 0 < (bt388.2.2.2.2.length : Int) then (ravelinlaw18_ItemTells.j1 k bt360.1 bt360.2 bt362.1 bt362.2 bt364.2.2.2.2.2.1 bt364.2.2.2.2.2.2 bt374.2.2.2.2.2.1 bt374.2.2.2.2.2.2 x356000 x356001 x356002 x356003 x356004 x357000 x357001 x357002 x357003 x357004 bt364.1 bt364.2.1 bt364.2.2.1 bt364.2.2.2.1 bt364.2.2.2.2.1 bt374.1 bt374.2.1 bt374.2.2.1 bt374.2.2.2.1 bt374.2.2.2.2.1 x356000 x356001 x356002 x356003 y385) else (none)) else (ravelinlaw18_ItemTells.j1 k bt360.1 bt360.2 bt362.1 bt362.2 bt364.2.2.2.2.2.1 bt364.2.2.2.2.2.2 bt374.2.2.2.2.2.1 bt374.2.2.2.2.2.2 x356000 x356001 x356002 x356003 x356004 x357000 x357001 x357002 x357003 x357004 bt364.1 bt364.2.1 bt364.2.2.1 bt364.2.2.2.1 bt364.2.2.2.2.1 bt374.1 bt374.2.1 bt374.2.2.1 bt374.2.2.2.1 bt374.2.2.2.2.1 x356000 x356001 x356002 x356003 y385)) else (some false))))) else (none))))))
def ravelinlaw18_ItemTells.j1 : Nat → ByteArray → Int → ByteArray → Bool → Int → Int → Int → Int → Int → Int → Int → Bool → List (S39) → Int → Int → Int → Bool → List (S39) → Int → Int → Int → Bool → List (S39) → Int → Int → Int → Bool → List (S39) → Int → Int → Int → Bool → List (S39) → Option (Bool)
  | 0, _, _, _, _, _, _, _, _, _, _, _, _, _, _, _, _, _, _, _, _, _, _, _, _, _, _, _, _, _, _, _, _, _ => none
  | k + 1, x7, x8, x9, x10, x12, x13, x15, x16, x356000, x356001, x356002, x356003, x356004, x357000, x357001, x357002, x357003, x357004, x374000, x374001, x374002, x374003, x374004, x384000, x384001, x384002, x384003, x384004, x385000, x385001, x385002, x385003, x385004 => (item_Is.f k x356000 x356001 x356002 x356003 x356004).bind fun t398 => ((ravelinref18_Is.f k x356000 x356001 x356002 x356003 x356004).bind fun t399 => (if (t398 == t399) = true then ((item_Same.f k x356000 x356001 x356002 x356003 x356004 x357000 x357001 x357002 x357003 x357004).bind fun t400 => ((ravelinref18_Same.f k x356000 x356001 x356002 x356003 x356004 x357000 x357001 x357002 x357003 x357004).bind fun t401 => (if (t400 == t401) = true then (if x7.toList = x9.toList then (if ((x8 == 0) == x10) = true then (if x8 = 0 then ((ravelinref18_Same.f k x374000 x374001 x374002 x374003 x374004 x384000 x384001 x384002 x384003 x384004).bind fun t402 => (if t402 = true then (if x12 = x15 then (if x13 = x16 then ((ravelinref18_Same.f k x385000 x385001 x385002 x385003 x385004 x356000 x356001 x356002 x356003 x356004).bind fun t403 => (some t403)) else (some false)) else (some false)) else (some false))) else (if x8 = 10 then ((ravelinref18_Same.f k x374000 x374001 x374002 x374003 x374004 x384000 x384001 x384002 x384003 x384004).bind fun t404 => (if t404 = true then (if x12 = x15 then (if x13 = x16 then ((ravelinref18_Same.f k x385000 x385001 x385002 x385003 x385004 x356000 x356001 x356002 x356003 x356004).bind fun t405 => (some t405)) else (some false)) else (some false)) else (some false))) else (some false))) else (some false)) else (some false)) else (some false)))) else (some false)))
end
def ravelinlaw18_ItemTells.f (k : Nat) (a0_0 : Int) (a0_1 : Int) (a0_2 : Int) (a0_3 : Bool) (l0_4 : List (S39)) (a1_0 : Int) (a1_1 : Int) (a1_2 : Int) (a1_3 : Bool) (l1_4 : List (S39)) (a2 : ByteArray) : Option (Bool) := (ravelinlaw18_known.f k).bind fun t357 => (if t357 = true then ((ravelinlaw18_few.f k a0_0 a0_1 a0_2 a0_3 l0_4).bind fun t358 => (if t358 = true then ((ravelinlaw18_few.f k a1_0 a1_1 a1_2 a1_3 l1_4).bind fun t359 => (if t359 = true then (ravelinlaw18_ItemTells.j0 k a2 (decide ((a2.size : Int) > 600)) a0_0 a0_1 a0_2 a0_3 l0_4 a1_0 a1_1 a1_2 a1_3 l1_4) else (ravelinlaw18_ItemTells.j0 k a2 true a0_0 a0_1 a0_2 a0_3 l0_4 a1_0 a1_1 a1_2 a1_3 l1_4))) else (ravelinlaw18_ItemTells.j0 k a2 true a0_0 a0_1 a0_2 a0_3 l0_4 a1_0 a1_1 a1_2 a1_3 l1_4))) else (some false))
theorem ravelinlaw18_ItemTells.mono_l : ∀ k, (∀ y0 y1 y2 y3 y4 y5 y6 y7 y8 y9 y10 y11, LeO (ravelinlaw18_ItemTells.j0 k y0 y1 y2 y3 y4 y5 y6 y7 y8 y9 y10 y11) (ravelinlaw18_ItemTells.j0 (k + 1) y0 y1 y2 y3 y4 y5 y6 y7 y8 y9 y10 y11)) ∧ (∀ y0 y1 y2 y3 y4 y5 y6 y7 y8 y9 y10 y11 y12 y13 y14 y15 y16 y17 y18 y19 y20 y21 y22 y23 y24 y25 y26 y27 y28 y29 y30 y31 y32, LeO (ravelinlaw18_ItemTells.j1 k y0 y1 y2 y3 y4 y5 y6 y7 y8 y9 y10 y11 y12 y13 y14 y15 y16 y17 y18 y19 y20 y21 y22 y23 y24 y25 y26 y27 y28 y29 y30 y31 y32) (ravelinlaw18_ItemTells.j1 (k + 1) y0 y1 y2 y3 y4 y5 y6 y7 y8 y9 y10 y11 y12 y13 y14 y15 y16 y17 y18 y19 y20 y21 y22 y23 y24 y25 y26 y27 y28 y29 y30 y31 y32))
  | 0 => ⟨fun _ _ _ _ _ _ _ _ _ _ _ _ r h => by simp [ravelinlaw18_ItemTells.j0] at h, fun _ _ _ _ _ _ _ _ _ _ _ _ _ _ _ _ _ _ _ _ _ _ _ _ _ _ _ _ _ _ _ _ _ r h => by simp [ravelinlaw18_ItemTells.j1] at h⟩
  | k + 1 => by
    obtain ⟨ih0, ih1⟩ := ravelinlaw18_ItemTells.mono_l k
    refine ⟨?_, ?_⟩
    all_goals
      intros
      first | unfold ravelinlaw18_ItemTells.j0 | unfold ravelinlaw18_ItemTells.j1
      repeat' first
      | (with_reducible exact ih0 _ _ _ _ _ _ _ _ _ _ _ _)
      | (with_reducible exact ih1 _ _ _ _ _ _ _ _ _ _ _ _ _ _ _ _ _ _ _ _ _ _ _ _ _ _ _ _ _ _ _ _ _)
      | (with_reducible exact item_Bytes.mono _ _ _ _ _ _)
      | (with_reducible exact item_Is.mono _ _ _ _ _ _)
      | (with_reducible exact item_Read.mono _ _)
      | (with_reducible exact item_Same.mono _ _ _ _ _ _ _ _ _ _ _)
      | (with_reducible exact ravelinlaw18_few.mono _ _ _ _ _ _)
      | (with_reducible exact ravelinlaw18_known.mono _)
      | (with_reducible exact ravelinref18_Bytes.mono _ _ _ _ _ _)
      | (with_reducible exact ravelinref18_Is.mono _ _ _ _ _ _)
      | (with_reducible exact ravelinref18_Read.mono _ _)
      | (with_reducible exact ravelinref18_Same.mono _ _ _ _ _ _ _ _ _ _ _)
      | (with_reducible exact LeO.refl _)
      | (with_reducible exact LeO.none _)
      | (with_reducible refine LeO.ite ?_ ?_)
      | (with_reducible refine LeO.bind ?_ (fun _ => ?_))
      | exact ih0 _ _ _ _ _ _ _ _ _ _ _ _
      | exact ih1 _ _ _ _ _ _ _ _ _ _ _ _ _ _ _ _ _ _ _ _ _ _ _ _ _ _ _ _ _ _ _ _ _
      | exact item_Bytes.mono _ _ _ _ _ _
      | exact item_Is.mono _ _ _ _ _ _
      | exact item_Read.mono _ _
      | exact item_Same.mono _ _ _ _ _ _ _ _ _ _ _
      | exact ravelinlaw18_few.mono _ _ _ _ _ _
      | exact ravelinlaw18_known.mono _
      | exact ravelinref18_Bytes.mono _ _ _ _ _ _
      | exact ravelinref18_Is.mono _ _ _ _ _ _
      | exact ravelinref18_Read.mono _ _
      | exact ravelinref18_Same.mono _ _ _ _ _ _ _ _ _ _ _
      | exact LeO.none _
      | refine LeO.ite ?_ ?_
      | refine LeO.bind ?_ (fun _ => ?_)
theorem ravelinlaw18_ItemTells.mono : ∀ a0 a1 a2 a3 a4 a5 a6 a7 a8 a9 a10 k, LeO (ravelinlaw18_ItemTells.f k a0 a1 a2 a3 a4 a5 a6 a7 a8 a9 a10) (ravelinlaw18_ItemTells.f (k + 1) a0 a1 a2 a3 a4 a5 a6 a7 a8 a9 a10) := by
  intro a0 a1 a2 a3 a4 a5 a6 a7 a8 a9 a10 k
  obtain ⟨ih0, ih1⟩ := ravelinlaw18_ItemTells.mono_l k
  unfold ravelinlaw18_ItemTells.f
  repeat' first
      | (with_reducible exact ih0 _ _ _ _ _ _ _ _ _ _ _ _)
      | (with_reducible exact ih1 _ _ _ _ _ _ _ _ _ _ _ _ _ _ _ _ _ _ _ _ _ _ _ _ _ _ _ _ _ _ _ _ _)
      | (with_reducible exact item_Bytes.mono _ _ _ _ _ _)
      | (with_reducible exact item_Is.mono _ _ _ _ _ _)
      | (with_reducible exact item_Read.mono _ _)
      | (with_reducible exact item_Same.mono _ _ _ _ _ _ _ _ _ _ _)
      | (with_reducible exact ravelinlaw18_few.mono _ _ _ _ _ _)
      | (with_reducible exact ravelinlaw18_known.mono _)
      | (with_reducible exact ravelinref18_Bytes.mono _ _ _ _ _ _)
      | (with_reducible exact ravelinref18_Is.mono _ _ _ _ _ _)
      | (with_reducible exact ravelinref18_Read.mono _ _)
      | (with_reducible exact ravelinref18_Same.mono _ _ _ _ _ _ _ _ _ _ _)
      | (with_reducible exact LeO.refl _)
      | (with_reducible exact LeO.none _)
      | (with_reducible refine LeO.ite ?_ ?_)
      | (with_reducible refine LeO.bind ?_ (fun _ => ?_))
      | exact ih0 _ _ _ _ _ _ _ _ _ _ _ _
      | exact ih1 _ _ _ _ _ _ _ _ _ _ _ _ _ _ _ _ _ _ _ _ _ _ _ _ _ _ _ _ _ _ _ _ _
      | exact item_Bytes.mono _ _ _ _ _ _
      | exact item_Is.mono _ _ _ _ _ _
      | exact item_Read.mono _ _
      | exact item_Same.mono _ _ _ _ _ _ _ _ _ _ _
      | exact ravelinlaw18_few.mono _ _ _ _ _ _
      | exact ravelinlaw18_known.mono _
      | exact ravelinref18_Bytes.mono _ _ _ _ _ _
      | exact ravelinref18_Is.mono _ _ _ _ _ _
      | exact ravelinref18_Read.mono _ _
      | exact ravelinref18_Same.mono _ _ _ _ _ _ _ _ _ _ _
      | exact LeO.none _
      | refine LeO.ite ?_ ?_
      | refine LeO.bind ?_ (fun _ => ?_)
def ravelinlaw18_ItemTells.T16 : Bool × List (List Nat × List Nat) := (true, [([], []), ([0], [0]), ([], []), ([2, 1], [2]), ([1, 3], [1, 3]), ([4, 3], [4]), ([5], [5]), ([5], [5]), ([6, 7, 5, 5], [5, 6, 7]), ([5], [5]), ([5], [5]), ([9, 10, 8, 5], [5, 9, 10]), ([8, 11, 5], [5, 8, 11]), ([5, 12], [5, 12]), ([13, 11], [13]), ([14], [14]), ([14], [14]), ([15, 16, 14], [14, 15, 16]), ([14, 17], [14, 17]), ([18, 14], [18]), ([19], [19]), ([20, 19], [19, 20]), ([19], [19]), ([21, 22, 19], [19, 21, 22]), ([19, 23], [19, 23]), ([24, 19], [24]), ([25], [25]), ([26, 25], [25, 26]), ([27, 25, 25], [25, 27]), ([28], [28]), ([29, 28], [28, 29]), ([28, 30, 25], [25, 28, 30]), ([25, 31], [25, 31]), ([32, 28], [32]), ([33], [33]), ([33], [33]), ([34, 35, 33, 33], [33, 34, 35]), ([33, 36], [33, 36]), ([37, 36], [37]), ([38], [38]), ([38], [38]), ([39, 40, 38], [38, 39, 40]), ([38, 41], [38, 41]), ([42, 38], [42]), ([43], [43]), ([43], [43]), ([44, 45, 43], [43, 44, 45]), ([43, 46], [43, 46]), ([47, 43], [47]), ([48], [48]), ([48], [48]), ([49, 50, 48, 48], [48, 49, 50]), ([48, 51], [48, 51]), ([52, 51, 0, 1, 2, 3, 4, 5, 6, 7, 8, 9, 10, 11, 12, 13, 14, 15, 16, 17, 18, 19, 20, 21, 22, 23, 24, 25, 26, 27, 28, 29, 30, 31, 32, 33, 34, 35, 36, 37, 38, 39, 40, 41, 42, 43, 44, 45, 46, 47, 48, 49, 50, 51, 52], [52])])
def ravelinlaw18_ItemTells.B16 : List Nat := [0, 1, 0, 7, 15, 31, 63, 63, 255, 63, 63, 2047, 4095, 8191, 16383, 32767, 32767, 131071, 262143, 524287, 1048575, 2097151, 1048575, 8388607, 16777215, 33554431, 67108863, 134217727, 268435455, 536870911, 1073741823, 2147483647, 4294967295, 8589934591, 17179869183, 17179869183, 68719476735, 137438953471, 274877906943, 549755813887, 549755813887, 2199023255551, 4398046511103, 8796093022207, 17592186044415, 17592186044415, 70368744177663, 140737488355327, 281474976710655, 562949953421311, 562949953421311, 2251799813685247, 4503599627370495, 9007199254740991]
theorem ravelinlaw18_ItemTells.tab16 : rtab .any (opsOf Try.f3 16) = ravelinlaw18_ItemTells.T16 := by kernel_rfl
theorem ravelinlaw18_ItemTells.bits16 : waitsOk ravelinlaw18_ItemTells.T16.2 ravelinlaw18_ItemTells.B16 = true := by kernel_rfl
set_option maxHeartbeats 8000000 in
set_option maxRecDepth 100000 in
theorem ravelinlaw18_ItemTells.calls (k : Nat) (a0_0 : Int) (a0_1 : Int) (a0_2 : Int) (a0_3 : Bool) (A0_4 : Option Addr) (c0_4 : Nat) (l0_4 : List (S39)) (a1_0 : Int) (a1_1 : Int) (a1_2 : Int) (a1_3 : Bool) (A1_4 : Option Addr) (c1_4 : Nat) (l1_4 : List (S39)) (a2 : ByteArray) (r : Bool) (w : World) (hr0_4 : Kd.C k39 w A0_4 l0_4.length l0_4) (hc0_4 : l0_4.length ≤ c0_4) (hr1_4 : Kd.C k39 w A1_4 l1_4.length l1_4) (hc1_4 : l1_4.length ≤ c1_4) (h : ravelinlaw18_ItemTells.f k a0_0 a0_1 a0_2 a0_3 l0_4 a1_0 a1_1 a1_2 a1_3 l1_4 a2 = some r) (hr_ : r = true) :
    Calls Try.prog 3 #[.agg #[.int .i64 a0_0, .int .i64 a0_1, .int .i64 a0_2, .bool a0_3, .slice A0_4 l0_4.length c0_4], .agg #[.int .i64 a1_0, .int .i64 a1_1, .int .i64 a1_2, .bool a1_3, .slice A1_4 l1_4.length c1_4], .string a2] w fun e w' => e = .returned (.bool r) ∧ Below w.heap.size w w' := by
  have hu24 := Try.underlying24
  have HR0_4 := Aside0.mk hr0_4
  have HC0_4 := Aside0.mk hc0_4
  clear hr0_4 hc0_4
  have HR1_4 := Aside0.mk hr1_4
  have HC1_4 := Aside0.mk hc1_4
  clear hr1_4 hc1_4
  have HB := Aside0.mk (Below.refl w.heap.size w)
  have H : ((ravelinlaw18_known.f k).bind fun t357 => (if t357 = true then ((ravelinlaw18_few.f k a0_0 a0_1 a0_2 a0_3 l0_4).bind fun t358 => (if t358 = true then ((ravelinlaw18_few.f k a1_0 a1_1 a1_2 a1_3 l1_4).bind fun t359 => (if t359 = true then (ravelinlaw18_ItemTells.j0 k a2 (decide ((a2.size : Int) > 600)) a0_0 a0_1 a0_2 a0_3 l0_4 a1_0 a1_1 a1_2 a1_3 l1_4) else (ravelinlaw18_ItemTells.j0 k a2 true a0_0 a0_1 a0_2 a0_3 l0_4 a1_0 a1_1 a1_2 a1_3 l1_4))) else (ravelinlaw18_ItemTells.j0 k a2 true a0_0 a0_1 a0_2 a0_3 l0_4 a1_0 a1_1 a1_2 a1_3 l1_4))) else (some false))) = some r := h
  clear h
  have HR_ := Aside0.mk hr_
  clear hr_
  replace H := Option.bind_eq_some_iff.mp H
  obtain ⟨t357, A40, H⟩ := H
  try dsimp only at H
  have A4 := Aside0.mk A40
  clear A40
  by_cases c5 : t357 = true
  rotate_left
  · replace c5 := Bool.eq_false_iff.mpr c5
    subst c5
    have H1 : (some false) = some r := by rw [if_neg (show ¬ (false = true) by decide)] at H; exact H
    clear H
    have H := H1
    clear H1
    exact absurd ((Option.some.inj H).trans HR_.out) (by decide)
  subst c5
  have H1 : ((ravelinlaw18_few.f k a0_0 a0_1 a0_2 a0_3 l0_4).bind fun t358 => (if t358 = true then ((ravelinlaw18_few.f k a1_0 a1_1 a1_2 a1_3 l1_4).bind fun t359 => (if t359 = true then (ravelinlaw18_ItemTells.j0 k a2 (decide ((a2.size : Int) > 600)) a0_0 a0_1 a0_2 a0_3 l0_4 a1_0 a1_1 a1_2 a1_3 l1_4) else (ravelinlaw18_ItemTells.j0 k a2 true a0_0 a0_1 a0_2 a0_3 l0_4 a1_0 a1_1 a1_2 a1_3 l1_4))) else (ravelinlaw18_ItemTells.j0 k a2 true a0_0 a0_1 a0_2 a0_3 l0_4 a1_0 a1_1 a1_2 a1_3 l1_4))) = some r := by rw [if_pos rfl] at H; exact H
  clear H
  have H := H1
  clear H1
  have HC6 := Aside0.mk H
  clear H
  go_enter Try.func3, Try.ntmps3
  go_upto_region 3 with (first | ((with_reducible refine gate_dst (N := 3) rfl ?_); (try (refine gate_guard (by rfl) ?_; dsimp only)); refine box_event ?hg (N := 3) ?hd (cs := #[.int .i64 a0_0, .int .i64 a0_1, .int .i64 a0_2, .bool a0_3, .slice A0_4 l0_4.length c0_4]) (t := 24) ?hr ?_; (case hd => rfl); (case hg => rfl); (case hr => first | (go_simp; done) | (go_simp; rfl)); intro gb355 hg w7 hbox hb; have n0_ := bs_ HB hb; have n1_ := Aside0.mk (hbox); have n2_ := gz_ HB hg; have n3_ := gz_ HB hg; clear HB; have HB := n0_; have BK355 := n1_; have GW355 := n2_; have GE355 := n3_; clear n0_ n1_ n2_ n3_; clear hb hbox hg) | ((with_reducible refine gate_dst (N := 4) rfl ?_); (try (refine gate_guard (by rfl) ?_; dsimp only)); refine box_event ?hg (N := 4) ?hd (cs := #[.int .i64 a1_0, .int .i64 a1_1, .int .i64 a1_2, .bool a1_3, .slice A1_4 l1_4.length c1_4]) (t := 24) ?hr ?_; (case hd => rfl); (case hg => rfl); (case hr => first | (go_simp; done) | (go_simp; rfl)); intro gb356 hg w8 hbox hb; have n0_ := bb_ BK355 hb; have n1_ := bl_ [gb355] HB ⟨GE355, ⟨⟩⟩ hb; have n2_ := Aside0.mk (hbox); have n3_ := gl_ [gb355] HB ⟨GE355, ⟨⟩⟩ hg; have n4_ := gl_ [gb355] HB ⟨GE355, ⟨⟩⟩ hg; have n5_ := gn_ BK355 hg; have n6_ := Aside0.mk ((by rw [hg]; exact Nat.ne_of_gt (blk_lt (g := gb355) (o := .cells #[.int .i64 a0_0, .int .i64 a0_1, .int .i64 a0_2, .bool a0_3, .slice A0_4 l0_4.length c0_4] 24 (0, 0)) (gb_ BK355)) : gb356 ≠ gb355)); clear BK355; clear HB; have BK355 := n0_; have HB := n1_; have BK356 := n2_; have GW356 := n3_; have GE356 := n4_; have NB355_356 := n5_; have NB356_355 := n6_; clear n0_ n1_ n2_ n3_ n4_ n5_ n6_; clear hb hbox hg) | ((with_reducible refine gate_callee (f := 7) rfl ?_); refine goesL_ (some 19) rfl rfl Try.func7 (by kernel_rfl) rfl #[] rfl (by (try simp only [maps_]); first | done | rfl) ?_; (with_reducible refine (ravelinlaw18_known.calls k  true _ A4.out (by first | rfl | assumption | exact of_decide_eq_true (by assumption))).mono ?_); rintro e w9 ⟨rfl, hb⟩; refine ⟨_, rfl, ?_⟩; have n0_ := bb_ BK355 hb; have n1_ := bb_ BK356 hb; have n2_ := bl_ [gb355, gb356] HB ⟨GE355, GE356, ⟨⟩⟩ hb; clear BK355; clear BK356; clear HB; have BK355 := n0_; have BK356 := n1_; have HB := n2_; clear n0_ n1_ n2_; (try clear hb); (try clear hb2); (try clear hk); (try clear hi)))
  (try simp only [Act.put, lists_])
  go_cut [33] (fun v33 wc => ∃ (kq : Nat) (x33_5 : Bool), v33 = .bool x33_5 ∧ Aside0 (ravelinlaw18_ItemTells.j0 kq a2 x33_5 a0_0 a0_1 a0_2 a0_3 l0_4 a1_0 a1_1 a1_2 a1_3 l1_4 = some r) ∧ Aside0 (kq ≤ k) ∧ Aside0 (wc.heap[gb355]? = some (.cells #[.int .i64 a0_0, .int .i64 a0_1, .int .i64 a0_2, .bool a0_3, (.slice A0_4 l0_4.length c0_4)] 24 (0, 0))) ∧ Aside0 (wc.heap[gb356]? = some (.cells #[.int .i64 a1_0, .int .i64 a1_1, .int .i64 a1_2, .bool a1_3, (.slice A1_4 l1_4.length c1_4)] 24 (0, 0))) ∧ Aside0 (Below w.heap.size w wc))
  case first =>
    have H := HC6.out
    clear HC6
    replace H := Option.bind_eq_some_iff.mp H
    obtain ⟨t358, A100, H⟩ := H
    try dsimp only at H
    have A10 := Aside0.mk A100
    clear A100
    by_cases c11 : t358 = true
    rotate_left
    · replace c11 := Bool.eq_false_iff.mpr c11
      subst c11
      have H1 : (ravelinlaw18_ItemTells.j0 k a2 true a0_0 a0_1 a0_2 a0_3 l0_4 a1_0 a1_1 a1_2 a1_3 l1_4) = some r := by rw [if_neg (show ¬ (false = true) by decide)] at H; exact H
      clear H
      have H := H1
      clear H1
      have H' := Aside0.mk H
      clear H
      have hnb24 := NB355_356.out
      have hnc24 := NB356_355.out
      have hcz25_0 := bc0 BK355
      have hcz25_1 := bc1 BK355
      have hcz25_2 := bc2 BK355
      have hcz25_3 := bc3 BK355
      have hcz25_4 := bc4 BK355
      have hfz25_0 := bf_ BK355 0
      have hfz25_1 := bf_ BK355 1
      have hfz25_2 := bf_ BK355 2
      have hfz25_3 := bf_ BK355 3
      have hfz25_4 := bf_ BK355 4
      go_wp2_with (first | ((with_reducible refine gate_callee (f := 8) rfl ?_); refine goesL_ (some 22) rfl rfl Try.func8 (by kernel_rfl) rfl #[.agg #[.int .i64 a0_0, .int .i64 a0_1, .int .i64 a0_2, .bool a0_3, .slice A0_4 l0_4.length c0_4]] rfl (by (try simp only [maps_]); first | done | rfl) ?_; (with_reducible refine (ravelinlaw18_few.calls k a0_0 a0_1 a0_2 a0_3 _ _ l0_4 false _ ?side1 ?side2 A10.out).mono ?_); (case side1 => exact cb_ HR0_4 HB); (case side2 => exact HC0_4.out); rintro e w26 ⟨rfl, hb⟩; refine ⟨_, rfl, ?_⟩; have n0_ := bb_ BK355 hb; have n1_ := bb_ BK356 hb; have n2_ := bl_ [gb355, gb356] HB ⟨GE355, GE356, ⟨⟩⟩ hb; clear BK355; clear BK356; clear HB; have BK355 := n0_; have BK356 := n1_; have HB := n2_; clear n0_ n1_ n2_; (try clear hb); (try clear hb2); (try clear hk); (try clear hi)))
      go_meet
      case rel => exact ⟨_, (true), (by first | rfl | (simp; done) | (simp [*]; done)), H', ⟨by first | omega | exact Nat.le_refl _⟩, ⟨gb_ BK355⟩, ⟨gb_ BK356⟩, ⟨gwl_ [gb355, gb356] HB ⟨GE355, GE356, ⟨⟩⟩⟩⟩
    subst c11
    have H1 : ((ravelinlaw18_few.f k a1_0 a1_1 a1_2 a1_3 l1_4).bind fun t359 => (if t359 = true then (ravelinlaw18_ItemTells.j0 k a2 (decide ((a2.size : Int) > 600)) a0_0 a0_1 a0_2 a0_3 l0_4 a1_0 a1_1 a1_2 a1_3 l1_4) else (ravelinlaw18_ItemTells.j0 k a2 true a0_0 a0_1 a0_2 a0_3 l0_4 a1_0 a1_1 a1_2 a1_3 l1_4))) = some r := by rw [if_pos rfl] at H; exact H
    clear H
    have H := H1
    clear H1
    replace H := Option.bind_eq_some_iff.mp H
    obtain ⟨t359, A120, H⟩ := H
    try dsimp only at H
    have A12 := Aside0.mk A120
    clear A120
    by_cases c13 : t359 = true
    · subst c13
      have H1 : (ravelinlaw18_ItemTells.j0 k a2 (decide ((a2.size : Int) > 600)) a0_0 a0_1 a0_2 a0_3 l0_4 a1_0 a1_1 a1_2 a1_3 l1_4) = some r := by rw [if_pos rfl] at H; exact H
      clear H
      have H := H1
      clear H1
      have H' := Aside0.mk H
      clear H
      have hnb14 := NB355_356.out
      have hnc14 := NB356_355.out
      have hcz15_0 := bc0 BK355
      have hcz15_1 := bc1 BK355
      have hcz15_2 := bc2 BK355
      have hcz15_3 := bc3 BK355
      have hcz15_4 := bc4 BK355
      have hfz15_0 := bf_ BK355 0
      have hfz15_1 := bf_ BK355 1
      have hfz15_2 := bf_ BK355 2
      have hfz15_3 := bf_ BK355 3
      have hfz15_4 := bf_ BK355 4
      go_wp2_with (first | ((with_reducible refine gate_callee (f := 8) rfl ?_); refine goesL_ (some 22) rfl rfl Try.func8 (by kernel_rfl) rfl #[.agg #[.int .i64 a0_0, .int .i64 a0_1, .int .i64 a0_2, .bool a0_3, .slice A0_4 l0_4.length c0_4]] rfl (by (try simp only [maps_]); first | done | rfl) ?_; (with_reducible refine (ravelinlaw18_few.calls k a0_0 a0_1 a0_2 a0_3 _ _ l0_4 true _ ?side1 ?side2 A10.out).mono ?_); (case side1 => exact cb_ HR0_4 HB); (case side2 => exact HC0_4.out); rintro e w16 ⟨rfl, hb⟩; refine ⟨_, rfl, ?_⟩; have n0_ := bb_ BK355 hb; have n1_ := bb_ BK356 hb; have n2_ := bl_ [gb355, gb356] HB ⟨GE355, GE356, ⟨⟩⟩ hb; clear BK355; clear BK356; clear HB; have BK355 := n0_; have BK356 := n1_; have HB := n2_; clear n0_ n1_ n2_; (try clear hb); (try clear hb2); (try clear hk); (try clear hi); have hcz17_0 := bc0 BK356; have hcz17_1 := bc1 BK356; have hcz17_2 := bc2 BK356; have hcz17_3 := bc3 BK356; have hcz17_4 := bc4 BK356; have hfz17_0 := bf_ BK356 0; have hfz17_1 := bf_ BK356 1; have hfz17_2 := bf_ BK356 2; have hfz17_3 := bf_ BK356 3; have hfz17_4 := bf_ BK356 4) | (go_at_call 8; (with_reducible refine (ravelinlaw18_few.calls k a1_0 a1_1 a1_2 a1_3 _ _ l1_4 true _ ?side1 ?side2 A12.out).mono ?_); (case side1 => exact cb_ HR1_4 HB); (case side2 => exact HC1_4.out); rintro e w18 ⟨rfl, hb⟩; have n0_ := bb_ BK355 hb; have n1_ := bb_ BK356 hb; have n2_ := bl_ [gb355, gb356] HB ⟨GE355, GE356, ⟨⟩⟩ hb; clear BK355; clear BK356; clear HB; have BK355 := n0_; have BK356 := n1_; have HB := n2_; clear n0_ n1_ n2_; (try clear hb); (try clear hb2); (try clear hk); (try clear hi)))
      go_meet
      case rel => exact ⟨_, (decide ((a2.size : Int) > 600)), (by first | rfl | (simp; done) | (simp [*]; done)), H', ⟨by first | omega | exact Nat.le_refl _⟩, ⟨gb_ BK355⟩, ⟨gb_ BK356⟩, ⟨gwl_ [gb355, gb356] HB ⟨GE355, GE356, ⟨⟩⟩⟩⟩
    replace c13 := Bool.eq_false_iff.mpr c13
    subst c13
    have H1 : (ravelinlaw18_ItemTells.j0 k a2 true a0_0 a0_1 a0_2 a0_3 l0_4 a1_0 a1_1 a1_2 a1_3 l1_4) = some r := by rw [if_neg (show ¬ (false = true) by decide)] at H; exact H
    clear H
    have H := H1
    clear H1
    have H' := Aside0.mk H
    clear H
    have hnb19 := NB355_356.out
    have hnc19 := NB356_355.out
    have hcz20_0 := bc0 BK355
    have hcz20_1 := bc1 BK355
    have hcz20_2 := bc2 BK355
    have hcz20_3 := bc3 BK355
    have hcz20_4 := bc4 BK355
    have hfz20_0 := bf_ BK355 0
    have hfz20_1 := bf_ BK355 1
    have hfz20_2 := bf_ BK355 2
    have hfz20_3 := bf_ BK355 3
    have hfz20_4 := bf_ BK355 4
    go_wp2_with (first | ((with_reducible refine gate_callee (f := 8) rfl ?_); refine goesL_ (some 22) rfl rfl Try.func8 (by kernel_rfl) rfl #[.agg #[.int .i64 a0_0, .int .i64 a0_1, .int .i64 a0_2, .bool a0_3, .slice A0_4 l0_4.length c0_4]] rfl (by (try simp only [maps_]); first | done | rfl) ?_; (with_reducible refine (ravelinlaw18_few.calls k a0_0 a0_1 a0_2 a0_3 _ _ l0_4 true _ ?side1 ?side2 A10.out).mono ?_); (case side1 => exact cb_ HR0_4 HB); (case side2 => exact HC0_4.out); rintro e w21 ⟨rfl, hb⟩; refine ⟨_, rfl, ?_⟩; have n0_ := bb_ BK355 hb; have n1_ := bb_ BK356 hb; have n2_ := bl_ [gb355, gb356] HB ⟨GE355, GE356, ⟨⟩⟩ hb; clear BK355; clear BK356; clear HB; have BK355 := n0_; have BK356 := n1_; have HB := n2_; clear n0_ n1_ n2_; (try clear hb); (try clear hb2); (try clear hk); (try clear hi); have hcz22_0 := bc0 BK356; have hcz22_1 := bc1 BK356; have hcz22_2 := bc2 BK356; have hcz22_3 := bc3 BK356; have hcz22_4 := bc4 BK356; have hfz22_0 := bf_ BK356 0; have hfz22_1 := bf_ BK356 1; have hfz22_2 := bf_ BK356 2; have hfz22_3 := bf_ BK356 3; have hfz22_4 := bf_ BK356 4) | (go_at_call 8; (with_reducible refine (ravelinlaw18_few.calls k a1_0 a1_1 a1_2 a1_3 _ _ l1_4 false _ ?side1 ?side2 A12.out).mono ?_); (case side1 => exact cb_ HR1_4 HB); (case side2 => exact HC1_4.out); rintro e w23 ⟨rfl, hb⟩; have n0_ := bb_ BK355 hb; have n1_ := bb_ BK356 hb; have n2_ := bl_ [gb355, gb356] HB ⟨GE355, GE356, ⟨⟩⟩ hb; clear BK355; clear BK356; clear HB; have BK355 := n0_; have BK356 := n1_; have HB := n2_; clear n0_ n1_ n2_; (try clear hb); (try clear hb2); (try clear hk); (try clear hi)))
    go_meet
    case rel => exact ⟨_, (true), (by first | rfl | (simp; done) | (simp [*]; done)), H', ⟨by first | omega | exact Nat.le_refl _⟩, ⟨gb_ BK355⟩, ⟨gb_ BK356⟩, ⟨gwl_ [gb355, gb356] HB ⟨GE355, GE356, ⟨⟩⟩⟩⟩
  clear HC6
  try clear c1
  try clear c2
  try clear p2
  try clear c3
  try clear c5
  try clear c7
  try clear c8
  try clear c11
  try clear c13
  try clear c14
  try clear c19
  try clear c24
  try clear hcz15_0
  try clear hcz15_1
  try clear hcz15_2
  try clear hcz15_3
  try clear hcz15_4
  try clear hcz17_0
  try clear hcz17_1
  try clear hcz17_2
  try clear hcz17_3
  try clear hcz17_4
  try clear hcz20_0
  try clear hcz20_1
  try clear hcz20_2
  try clear hcz20_3
  try clear hcz20_4
  try clear hcz22_0
  try clear hcz22_1
  try clear hcz22_2
  try clear hcz22_3
  try clear hcz22_4
  try clear hcz25_0
  try clear hcz25_1
  try clear hcz25_2
  try clear hcz25_3
  try clear hcz25_4
  try clear hfz15_0
  try clear hfz15_1
  try clear hfz15_2
  try clear hfz15_3
  try clear hfz15_4
  try clear hfz17_0
  try clear hfz17_1
  try clear hfz17_2
  try clear hfz17_3
  try clear hfz17_4
  try clear hfz20_0
  try clear hfz20_1
  try clear hfz20_2
  try clear hfz20_3
  try clear hfz20_4
  try clear hfz22_0
  try clear hfz22_1
  try clear hfz22_2
  try clear hfz22_3
  try clear hfz22_4
  try clear hfz25_0
  try clear hfz25_1
  try clear hfz25_2
  try clear hfz25_3
  try clear hfz25_4
  obtain ⟨kq, x33_5, rfl, HA, HJ5, BK355, BK356, HB⟩ := hcut
  cases kq with
  | zero => exact absurd HA.out (by simp [ravelinlaw18_ItemTells.j0])
  | succ kj5 => ?_
  have H := HA.out
  clear HA
  simp only [ravelinlaw18_ItemTells.j0] at H
  by_cases c27 : x33_5 = true
  · subst c27
    have H1 : (some true) = some r := by rw [if_pos rfl] at H; exact H
    clear H
    have H := H1
    clear H1
    obtain rfl := Option.some.inj H
    go_wp2
    go_ret
    exact ⟨by first | rfl | (simp [*, errW_none, errW_some] <;> rfl), gwl_ [gb355, gb356] HB ⟨GE355, GE356, ⟨⟩⟩⟩
  replace c27 := Bool.eq_false_iff.mpr c27
  subst c27
  have H1 : ((item_Bytes.f kj5 a0_0 a0_1 a0_2 a0_3 l0_4).bind fun bt360 => ((ravelinref18_Bytes.f kj5 a0_0 a0_1 a0_2 a0_3 l0_4).bind fun bt362 => ((item_Read.f kj5 a2).bind fun bt364 => ((ravelinref18_Read.f kj5 a2).bind fun bt374 => (if ([] : List (S39)).length + l0_4.length < 3518437208883 then ((some (([] : List (S39)) ++ l0_4 : List (S39))).bind fun y385 => ((item_Copy.f a0_0 a0_1 a0_2 a0_3 y385).bind fun bt388 => ((ravelinref18_Same.f kj5 bt388.1 bt388.2.1 bt388.2.2.1 bt388.2.2.2.1 bt388.2.2.2.2 a0_0 a0_1 a0_2 a0_3 l0_4).bind fun t396 => (if t396 = true then (if (bt388.2.2.2.2.length : Int) > 0 then (if 0 < (bt388.2.2.2.2.length : Int) then (ravelinlaw18_ItemTells.j1 kj5 bt360.1 bt360.2 bt362.1 bt362.2 bt364.2.2.2.2.2.1 bt364.2.2.2.2.2.2 bt374.2.2.2.2.2.1 bt374.2.2.2.2.2.2 a0_0 a0_1 a0_2 a0_3 l0_4 a1_0 a1_1 a1_2 a1_3 l1_4 bt364.1 bt364.2.1 bt364.2.2.1 bt364.2.2.2.1 bt364.2.2.2.2.1 bt374.1 bt374.2.1 bt374.2.2.1 bt374.2.2.2.1 bt374.2.2.2.2.1 a0_0 a0_1 a0_2 a0_3 y385) else (none)) else (ravelinlaw18_ItemTells.j1 kj5 bt360.1 bt360.2 bt362.1 bt362.2 bt364.2.2.2.2.2.1 bt364.2.2.2.2.2.2 bt374.2.2.2.2.2.1 bt374.2.2.2.2.2.2 a0_0 a0_1 a0_2 a0_3 l0_4 a1_0 a1_1 a1_2 a1_3 l1_4 bt364.1 bt364.2.1 bt364.2.2.1 bt364.2.2.2.1 bt364.2.2.2.2.1 bt374.1 bt374.2.1 bt374.2.2.1 bt374.2.2.2.1 bt374.2.2.2.2.1 a0_0 a0_1 a0_2 a0_3 y385)) else (some false))))) else (none)))))) = some r := by rw [if_neg (show ¬ (false = true) by decide)] at H; exact H
  clear H
  have H := H1
  clear H1
  replace H := Option.bind_eq_some_iff.mp H
  obtain ⟨⟨t360, t361⟩, A280, H⟩ := H
  try dsimp only at H
  have A28 := Aside0.mk A280
  clear A280
  replace H := Option.bind_eq_some_iff.mp H
  obtain ⟨⟨t362, t363⟩, A290, H⟩ := H
  try dsimp only at H
  have A29 := Aside0.mk A290
  clear A290
  replace H := Option.bind_eq_some_iff.mp H
  obtain ⟨⟨t364, t365, t366, t367, t368, t371, t372⟩, A300, H⟩ := H
  try dsimp only at H
  have A30 := Aside0.mk A300
  clear A300
  replace H := Option.bind_eq_some_iff.mp H
  obtain ⟨⟨t374, t375, t376, t377, t378, t381, t382⟩, A310, H⟩ := H
  try dsimp only at H
  have A31 := Aside0.mk A310
  clear A310
  by_cases c32 : ([] : List (S39)).length + l0_4.length < 3518437208883
  rotate_left
  · rw [if_neg c32] at H
    exact absurd H (by simp)
  rw [if_pos c32] at H
  have LMc32 := Aside0.mk c32
  clear c32
  obtain ⟨y385, hy385⟩ : ∃ y_ : List (S39), y_ = (([] : List (S39)) ++ l0_4) := ⟨_, rfl⟩
  replace H : ((item_Copy.f a0_0 a0_1 a0_2 a0_3 y385).bind fun bt388 => ((ravelinref18_Same.f kj5 bt388.1 bt388.2.1 bt388.2.2.1 bt388.2.2.2.1 bt388.2.2.2.2 a0_0 a0_1 a0_2 a0_3 l0_4).bind fun t396 => (if t396 = true then (if (bt388.2.2.2.2.length : Int) > 0 then (if 0 < (bt388.2.2.2.2.length : Int) then (ravelinlaw18_ItemTells.j1 kj5 t360 t361 t362 t363 t371 t372 t381 t382 a0_0 a0_1 a0_2 a0_3 l0_4 a1_0 a1_1 a1_2 a1_3 l1_4 t364 t365 t366 t367 t368 t374 t375 t376 t377 t378 a0_0 a0_1 a0_2 a0_3 y385) else (none)) else (ravelinlaw18_ItemTells.j1 kj5 t360 t361 t362 t363 t371 t372 t381 t382 a0_0 a0_1 a0_2 a0_3 l0_4 a1_0 a1_1 a1_2 a1_3 l1_4 t364 t365 t366 t367 t368 t374 t375 t376 t377 t378 a0_0 a0_1 a0_2 a0_3 y385)) else (some false)))) = some r := by first | (rw [hy385]; with_reducible exact H) | (have H2_ := (Option.bind_some _ _).symm.trans H; rw [hy385]; with_reducible exact H2_) | (have H2_ := (Option.bind_some _ _).symm.trans H; with_reducible exact H2_) | with_reducible exact H | (rw [hy385]; exact H) | exact H
  have Ny385 := Aside0.mk hy385
  clear hy385
  replace H := Option.bind_eq_some_iff.mp H
  obtain ⟨⟨t388, t389, t390, t391, t392⟩, A330, H⟩ := H
  try dsimp only at H
  have A33 := Aside0.mk A330
  clear A330
  replace H := Option.bind_eq_some_iff.mp H
  obtain ⟨t396, A340, H⟩ := H
  try dsimp only at H
  have A34 := Aside0.mk A340
  clear A340
  by_cases c35 : t396 = true
  rotate_left
  · replace c35 := Bool.eq_false_iff.mpr c35
    subst c35
    have H1 : (some false) = some r := by rw [if_neg (show ¬ (false = true) by decide)] at H; exact H
    clear H
    have H := H1
    clear H1
    exact absurd ((Option.some.inj H).trans HR_.out) (by decide)
  subst c35
  have H1 : (if (t392.length : Int) > 0 then (if 0 < (t392.length : Int) then (ravelinlaw18_ItemTells.j1 kj5 t360 t361 t362 t363 t371 t372 t381 t382 a0_0 a0_1 a0_2 a0_3 l0_4 a1_0 a1_1 a1_2 a1_3 l1_4 t364 t365 t366 t367 t368 t374 t375 t376 t377 t378 a0_0 a0_1 a0_2 a0_3 y385) else (none)) else (ravelinlaw18_ItemTells.j1 kj5 t360 t361 t362 t363 t371 t372 t381 t382 a0_0 a0_1 a0_2 a0_3 l0_4 a1_0 a1_1 a1_2 a1_3 l1_4 t364 t365 t366 t367 t368 t374 t375 t376 t377 t378 a0_0 a0_1 a0_2 a0_3 y385)) = some r := by rw [if_pos rfl] at H; exact H
  clear H
  have H := H1
  clear H1
  have HC36 := Aside0.mk H
  clear H
  have hnb37 := NB355_356.out
  have hnc37 := NB356_355.out
  have hcz38_0 := bc0 BK355
  have hcz38_1 := bc1 BK355
  have hcz38_2 := bc2 BK355
  have hcz38_3 := bc3 BK355
  have hcz38_4 := bc4 BK355
  have hfz38_0 := bf_ BK355 0
  have hfz38_1 := bf_ BK355 1
  have hfz38_2 := bf_ BK355 2
  have hfz38_3 := bf_ BK355 3
  have hfz38_4 := bf_ BK355 4
  go_upto_if 70 with (first | ((with_reducible refine gate_callee (f := 9) rfl ?_); refine goesL_ (some 36) rfl rfl Try.func9 (by kernel_rfl) rfl #[.agg #[.int .i64 a0_0, .int .i64 a0_1, .int .i64 a0_2, .bool a0_3, .slice A0_4 l0_4.length c0_4]] rfl (by (try simp only [maps_]); first | done | rfl) ?_; (with_reducible refine (item_Bytes.calls kj5 a0_0 a0_1 a0_2 a0_3 _ _ l0_4 t360 t361 _ ?side1 ?side2 A28.out).mono ?_); (case side1 => exact cb_ HR0_4 HB); (case side2 => exact HC0_4.out); rintro e w39 ⟨rfl, hb⟩; refine ⟨_, rfl, ?_⟩; have n0_ := bb_ BK355 hb; have n1_ := bb_ BK356 hb; have n2_ := bl_ [gb355, gb356] HB ⟨GE355, GE356, ⟨⟩⟩ hb; clear BK355; clear BK356; clear HB; have BK355 := n0_; have BK356 := n1_; have HB := n2_; clear n0_ n1_ n2_; (try clear hb); (try clear hb2); (try clear hk); (try clear hi); have hcz40_0 := bc0 BK355; have hcz40_1 := bc1 BK355; have hcz40_2 := bc2 BK355; have hcz40_3 := bc3 BK355; have hcz40_4 := bc4 BK355; have hfz40_0 := bf_ BK355 0; have hfz40_1 := bf_ BK355 1; have hfz40_2 := bf_ BK355 2; have hfz40_3 := bf_ BK355 3; have hfz40_4 := bf_ BK355 4) | ((with_reducible refine gate_callee (f := 10) rfl ?_); refine goesL_ (some 41) rfl rfl Try.func10 (by kernel_rfl) rfl #[.agg #[.int .i64 a0_0, .int .i64 a0_1, .int .i64 a0_2, .bool a0_3, .slice A0_4 l0_4.length c0_4]] rfl (by (try simp only [maps_]); first | done | rfl) ?_; (with_reducible refine (ravelinref18_Bytes.calls kj5 a0_0 a0_1 a0_2 a0_3 _ _ l0_4 t362 t363 _ ?side1 ?side2 A29.out).mono ?_); (case side1 => exact cb_ HR0_4 HB); (case side2 => exact HC0_4.out); rintro e w41 ⟨rfl, hb⟩; refine ⟨_, rfl, ?_⟩; have n0_ := bb_ BK355 hb; have n1_ := bb_ BK356 hb; have n2_ := bl_ [gb355, gb356] HB ⟨GE355, GE356, ⟨⟩⟩ hb; clear BK355; clear BK356; clear HB; have BK355 := n0_; have BK356 := n1_; have HB := n2_; clear n0_ n1_ n2_; (try clear hb); (try clear hb2); (try clear hk); (try clear hi)) | ((with_reducible refine gate_callee (f := 11) rfl ?_); refine goesL_ (some 46) rfl rfl Try.func11 (by kernel_rfl) rfl #[.string a2] rfl (by (try simp only [maps_]); first | done | rfl) ?_; (with_reducible refine (item_Read.calls kj5 a2 t364 t365 t366 t367 t368 t371 t372 _ A30.out).mono ?_); rintro e w42 ⟨v369, rfl, ho0, hb⟩; refine ⟨_, rfl, ?_⟩; have n0_ := Aside0.mk (Kd.R_lower ho0 (below_size (gwl_ [gb355, gb356] HB ⟨GE355, GE356, ⟨⟩⟩))); have n1_ := bb_ BK355 hb; have n2_ := bb_ BK356 hb; have n3_ := bl_ [gb355, gb356] HB ⟨GE355, GE356, ⟨⟩⟩ hb; clear BK355; clear BK356; clear HB; have HO370 := n0_; have BK355 := n1_; have BK356 := n2_; have HB := n3_; clear n0_ n1_ n2_ n3_; (try clear hb); (try clear hb2); (try clear hk); (try clear hi); (try clear ho0)) | ((with_reducible refine gate_dst (N := 11) rfl ?_); (try (refine gate_guard (by rfl) ?_; dsimp only)); refine box_event ?hg (N := 11) ?hd (cs := #[.int .i64 0, .int .i64 0, .int .i64 0, .bool false, .slice none 0 0]) (t := 24) ?hr ?_; (case hd => rfl); (case hg => rfl); (case hr => first | (go_simp; done) | (go_simp; rfl)); intro gb373 hg w43 hbox hb; have n0_ := rb_ HO370 hb; have n1_ := bb_ BK355 hb; have n2_ := bb_ BK356 hb; have n3_ := bl_ [gb355, gb356] HB ⟨GE355, GE356, ⟨⟩⟩ hb; have n4_ := Aside0.mk (hbox); have n5_ := gl_ [gb355, gb356] HB ⟨GE355, GE356, ⟨⟩⟩ hg; have n6_ := gl_ [gb355, gb356] HB ⟨GE355, GE356, ⟨⟩⟩ hg; have n7_ := gn_ BK355 hg; have n8_ := Aside0.mk ((by rw [hg]; exact Nat.ne_of_gt (blk_lt (g := gb355) (o := .cells #[.int .i64 a0_0, .int .i64 a0_1, .int .i64 a0_2, .bool a0_3, .slice A0_4 l0_4.length c0_4] 24 (0, 0)) (gb_ BK355)) : gb373 ≠ gb355)); have n9_ := gn_ BK356 hg; have n10_ := Aside0.mk ((by rw [hg]; exact Nat.ne_of_gt (blk_lt (g := gb356) (o := .cells #[.int .i64 a1_0, .int .i64 a1_1, .int .i64 a1_2, .bool a1_3, .slice A1_4 l1_4.length c1_4] 24 (0, 0)) (gb_ BK356)) : gb373 ≠ gb356)); clear HO370; clear BK355; clear BK356; clear HB; have HO370 := n0_; have BK355 := n1_; have BK356 := n2_; have HB := n3_; have BK373 := n4_; have GW373 := n5_; have GE373 := n6_; have NB355_373 := n7_; have NB373_355 := n8_; have NB356_373 := n9_; have NB373_356 := n10_; clear n0_ n1_ n2_ n3_ n4_ n5_ n6_ n7_ n8_ n9_ n10_; clear hb hbox hg; have hnb44 := NB373_355.out; have hnc44 := NB355_373.out; have hnb45 := NB373_356.out; have hnc45 := NB356_373.out; have hcz46_0 := bc0 BK373; have hcz46_1 := bc1 BK373; have hcz46_2 := bc2 BK373; have hcz46_3 := bc3 BK373; have hcz46_4 := bc4 BK373; have hfz46_0 := bf_ BK373 0; have hfz46_1 := bf_ BK373 1; have hfz46_2 := bf_ BK373 2; have hfz46_3 := bf_ BK373 3; have hfz46_4 := bf_ BK373 4; obtain ⟨Ao47, co47, eo47⟩ := Kd.R_slice HO370.out; subst eo47) | ((with_reducible refine gate_callee (f := 12) rfl ?_); refine goesL_ (some 52) rfl rfl Try.func12 (by kernel_rfl) rfl #[.string a2] rfl (by (try simp only [maps_]); first | done | rfl) ?_; (with_reducible refine (ravelinref18_Read.calls kj5 a2 t374 t375 t376 t377 t378 t381 t382 _ A31.out).mono ?_); rintro e w48 ⟨v379, rfl, ho0, hb⟩; refine ⟨_, rfl, ?_⟩; have n0_ := Aside0.mk (Kd.R_elder' (by (with_reducible repeat (first | apply Kd.R_alloc | apply Kd.R_drewN | apply Kd.R_drew)); exact (Kd.R_mono (Kd.R_far (p := ⟨gb373, 4, none⟩) (Kd.R_far (p := ⟨gb373, 3, none⟩) (Kd.R_far (p := ⟨gb373, 2, none⟩) (Kd.R_far (p := ⟨gb373, 1, none⟩) (Kd.R_far (p := ⟨gb373, 0, none⟩) (Kd.R_types HO370.out BK373.out (by decide)) (fun _ hk => hk.2) (.int .i64 t364)) (fun _ hk => hk.2) (.int .i64 t365)) (fun _ hk => hk.2) (.int .i64 t366)) (fun _ hk => hk.2) (.bool t367)) (fun _ hk => hk.2) (.slice Ao47 t368.length co47)) (fun _ h_ => h_.1))) (Kd.R_base ho0) hb); have n1_ := Aside0.mk (Kd.R_lower (Kd.R_new' ho0 (Kd.R_lt (by (with_reducible repeat (first | apply Kd.R_alloc | apply Kd.R_drewN | apply Kd.R_drew)); exact (Kd.R_mono (Kd.R_far (p := ⟨gb373, 4, none⟩) (Kd.R_far (p := ⟨gb373, 3, none⟩) (Kd.R_far (p := ⟨gb373, 2, none⟩) (Kd.R_far (p := ⟨gb373, 1, none⟩) (Kd.R_far (p := ⟨gb373, 0, none⟩) (Kd.R_types HO370.out BK373.out (by decide)) (fun _ hk => hk.2) (.int .i64 t364)) (fun _ hk => hk.2) (.int .i64 t365)) (fun _ hk => hk.2) (.int .i64 t366)) (fun _ hk => hk.2) (.bool t367)) (fun _ hk => hk.2) (.slice Ao47 t368.length co47)) (fun _ h_ => h_.1))))) (below_size (gwl_ [gb355, gb356, gb373] HB ⟨GE355, GE356, GE373, ⟨⟩⟩))); have n2_ := Aside0.mk (blk_below (g := gb355) (o := .cells #[.int .i64 a0_0, .int .i64 a0_1, .int .i64 a0_2, .bool a0_3, .slice A0_4 l0_4.length c0_4] 24 (0, 0)) (by (with_reducible repeat (first | refine blk_drewN ?_ _ | refine blk_drew ?_ | refine blk_alloc ?_ _)); refine blk_far ?_ NB355_373.out _; refine blk_far ?_ NB355_373.out _; refine blk_far ?_ NB355_373.out _; refine blk_far ?_ NB355_373.out _; refine blk_far ?_ NB355_373.out _; exact gb_ BK355) hb); have n3_ := Aside0.mk (blk_below (g := gb356) (o := .cells #[.int .i64 a1_0, .int .i64 a1_1, .int .i64 a1_2, .bool a1_3, .slice A1_4 l1_4.length c1_4] 24 (0, 0)) (by (with_reducible repeat (first | refine blk_drewN ?_ _ | refine blk_drew ?_ | refine blk_alloc ?_ _)); refine blk_far ?_ NB356_373.out _; refine blk_far ?_ NB356_373.out _; refine blk_far ?_ NB356_373.out _; refine blk_far ?_ NB356_373.out _; refine blk_far ?_ NB356_373.out _; exact gb_ BK356) hb); have n4_ := Aside0.mk (blk_below (g := gb373) (o := .cells #[.int .i64 t364, .int .i64 t365, .int .i64 t366, .bool t367, .slice Ao47 t368.length co47] 24 (0, 0)) (by (with_reducible repeat (first | refine blk_drewN ?_ _ | refine blk_drew ?_ | refine blk_alloc ?_ _)); refine blk_put (cs := #[.int .i64 t364, .int .i64 t365, .int .i64 t366, .bool t367, .slice none 0 0]) ?_ 4 _ rfl; refine blk_put (cs := #[.int .i64 t364, .int .i64 t365, .int .i64 t366, .bool false, .slice none 0 0]) ?_ 3 _ rfl; refine blk_put (cs := #[.int .i64 t364, .int .i64 t365, .int .i64 0, .bool false, .slice none 0 0]) ?_ 2 _ rfl; refine blk_put (cs := #[.int .i64 t364, .int .i64 0, .int .i64 0, .bool false, .slice none 0 0]) ?_ 1 _ rfl; refine blk_put (cs := #[.int .i64 0, .int .i64 0, .int .i64 0, .bool false, .slice none 0 0]) ?_ 0 _ rfl; exact gb_ BK373) hb); have n5_ := bl_ [gb355, gb356, gb373] HB ⟨GE355, GE356, GE373, ⟨⟩⟩ hb; clear HO370; clear BK355; clear BK356; clear BK373; clear HB; have HO370 := n0_; have HO380 := n1_; have BK355 := n2_; have BK356 := n3_; have BK373 := n4_; have HB := n5_; clear n0_ n1_ n2_ n3_ n4_ n5_; (try clear hb); (try clear hb2); (try clear hk); (try clear hi); (try clear ho0)) | ((with_reducible refine gate_dst (N := 14) rfl ?_); (try (refine gate_guard (by rfl) ?_; dsimp only)); refine box_event ?hg (N := 14) ?hd (cs := #[.int .i64 0, .int .i64 0, .int .i64 0, .bool false, .slice none 0 0]) (t := 24) ?hr ?_; (case hd => rfl); (case hg => rfl); (case hr => first | (go_simp; done) | (go_simp; rfl)); intro gb383 hg w49 hbox hb; have n0_ := rb_ HO370 hb; have n1_ := rb_ HO380 hb; have n2_ := bb_ BK355 hb; have n3_ := bb_ BK356 hb; have n4_ := bb_ BK373 hb; have n5_ := bl_ [gb355, gb356, gb373] HB ⟨GE355, GE356, GE373, ⟨⟩⟩ hb; have n6_ := Aside0.mk (hbox); have n7_ := gl_ [gb355, gb356, gb373] HB ⟨GE355, GE356, GE373, ⟨⟩⟩ hg; have n8_ := gl_ [gb355, gb356, gb373] HB ⟨GE355, GE356, GE373, ⟨⟩⟩ hg; have n9_ := gn_ BK355 hg; have n10_ := Aside0.mk ((by rw [hg]; exact Nat.ne_of_gt (blk_lt (g := gb355) (o := .cells #[.int .i64 a0_0, .int .i64 a0_1, .int .i64 a0_2, .bool a0_3, .slice A0_4 l0_4.length c0_4] 24 (0, 0)) (gb_ BK355)) : gb383 ≠ gb355)); have n11_ := gn_ BK356 hg; have n12_ := Aside0.mk ((by rw [hg]; exact Nat.ne_of_gt (blk_lt (g := gb356) (o := .cells #[.int .i64 a1_0, .int .i64 a1_1, .int .i64 a1_2, .bool a1_3, .slice A1_4 l1_4.length c1_4] 24 (0, 0)) (gb_ BK356)) : gb383 ≠ gb356)); have n13_ := gn_ BK373 hg; have n14_ := Aside0.mk ((by rw [hg]; exact Nat.ne_of_gt (blk_lt (g := gb373) (o := .cells #[.int .i64 t364, .int .i64 t365, .int .i64 t366, .bool t367, .slice Ao47 t368.length co47] 24 (0, 0)) (gb_ BK373)) : gb383 ≠ gb373)); clear HO370; clear HO380; clear BK355; clear BK356; clear BK373; clear HB; have HO370 := n0_; have HO380 := n1_; have BK355 := n2_; have BK356 := n3_; have BK373 := n4_; have HB := n5_; have BK383 := n6_; have GW383 := n7_; have GE383 := n8_; have NB355_383 := n9_; have NB383_355 := n10_; have NB356_383 := n11_; have NB383_356 := n12_; have NB373_383 := n13_; have NB383_373 := n14_; clear n0_ n1_ n2_ n3_ n4_ n5_ n6_ n7_ n8_ n9_ n10_ n11_ n12_ n13_ n14_; clear hb hbox hg; have hnb50 := NB383_355.out; have hnc50 := NB355_383.out; have hnb51 := NB383_356.out; have hnc51 := NB356_383.out; have hnb52 := NB383_373.out; have hnc52 := NB373_383.out; have hcz53_0 := bc0 BK383; have hcz53_1 := bc1 BK383; have hcz53_2 := bc2 BK383; have hcz53_3 := bc3 BK383; have hcz53_4 := bc4 BK383; have hfz53_0 := bf_ BK383 0; have hfz53_1 := bf_ BK383 1; have hfz53_2 := bf_ BK383 2; have hfz53_3 := bf_ BK383 3; have hfz53_4 := bf_ BK383 4; obtain ⟨Ao54, co54, eo54⟩ := Kd.R_slice HO380.out; subst eo54; have hcz55_0 := bc0 BK355; have hcz55_1 := bc1 BK355; have hcz55_2 := bc2 BK355; have hcz55_3 := bc3 BK355; have hcz55_4 := bc4 BK355; have hfz55_0 := bf_ BK355 0; have hfz55_1 := bf_ BK355 1; have hfz55_2 := bf_ BK355 2; have hfz55_3 := bf_ BK355 3; have hfz55_4 := bf_ BK355 4) | ((with_reducible refine gate_dst (N := 17) rfl ?_); (try (refine gate_guard (by rfl) ?_; dsimp only)); refine box_event ?hg (N := 17) ?hd (cs := #[.int .i64 0, .int .i64 0, .int .i64 0, .bool false, .slice none 0 0]) (t := 24) ?hr ?_; (case hd => rfl); (case hg => rfl); (case hr => first | (go_simp; done) | (go_simp; rfl)); intro gb384 hg w56 hbox hb; have n0_ := Aside0.mk (Kd.R_below (by (with_reducible repeat (first | apply Kd.R_alloc | apply Kd.R_drewN | apply Kd.R_drew)); exact (Kd.R_mono (Kd.R_far (p := ⟨gb383, 4, none⟩) (Kd.R_far (p := ⟨gb383, 3, none⟩) (Kd.R_far (p := ⟨gb383, 2, none⟩) (Kd.R_far (p := ⟨gb383, 1, none⟩) (Kd.R_far (p := ⟨gb383, 0, none⟩) (Kd.R_types HO370.out BK383.out (by decide)) (fun _ hk => hk.2) (.int .i64 t374)) (fun _ hk => hk.2) (.int .i64 t375)) (fun _ hk => hk.2) (.int .i64 t376)) (fun _ hk => hk.2) (.bool t377)) (fun _ hk => hk.2) (.slice Ao54 t378.length co54)) (fun _ h_ => h_.1))) hb); have n1_ := Aside0.mk (Kd.R_below (by (with_reducible repeat (first | apply Kd.R_alloc | apply Kd.R_drewN | apply Kd.R_drew)); exact (Kd.R_mono (Kd.R_far (p := ⟨gb383, 4, none⟩) (Kd.R_far (p := ⟨gb383, 3, none⟩) (Kd.R_far (p := ⟨gb383, 2, none⟩) (Kd.R_far (p := ⟨gb383, 1, none⟩) (Kd.R_far (p := ⟨gb383, 0, none⟩) (Kd.R_types HO380.out BK383.out (by decide)) (fun _ hk => hk.2) (.int .i64 t374)) (fun _ hk => hk.2) (.int .i64 t375)) (fun _ hk => hk.2) (.int .i64 t376)) (fun _ hk => hk.2) (.bool t377)) (fun _ hk => hk.2) (.slice Ao54 t378.length co54)) (fun _ h_ => h_.1))) hb); have n2_ := Aside0.mk (blk_below (g := gb355) (o := .cells #[.int .i64 a0_0, .int .i64 a0_1, .int .i64 a0_2, .bool a0_3, .slice A0_4 l0_4.length c0_4] 24 (0, 0)) (by (with_reducible repeat (first | refine blk_drewN ?_ _ | refine blk_drew ?_ | refine blk_alloc ?_ _)); refine blk_far ?_ NB355_383.out _; refine blk_far ?_ NB355_383.out _; refine blk_far ?_ NB355_383.out _; refine blk_far ?_ NB355_383.out _; refine blk_far ?_ NB355_383.out _; exact gb_ BK355) hb); have n3_ := Aside0.mk (blk_below (g := gb356) (o := .cells #[.int .i64 a1_0, .int .i64 a1_1, .int .i64 a1_2, .bool a1_3, .slice A1_4 l1_4.length c1_4] 24 (0, 0)) (by (with_reducible repeat (first | refine blk_drewN ?_ _ | refine blk_drew ?_ | refine blk_alloc ?_ _)); refine blk_far ?_ NB356_383.out _; refine blk_far ?_ NB356_383.out _; refine blk_far ?_ NB356_383.out _; refine blk_far ?_ NB356_383.out _; refine blk_far ?_ NB356_383.out _; exact gb_ BK356) hb); have n4_ := Aside0.mk (blk_below (g := gb373) (o := .cells #[.int .i64 t364, .int .i64 t365, .int .i64 t366, .bool t367, .slice Ao47 t368.length co47] 24 (0, 0)) (by (with_reducible repeat (first | refine blk_drewN ?_ _ | refine blk_drew ?_ | refine blk_alloc ?_ _)); refine blk_far ?_ NB373_383.out _; refine blk_far ?_ NB373_383.out _; refine blk_far ?_ NB373_383.out _; refine blk_far ?_ NB373_383.out _; refine blk_far ?_ NB373_383.out _; exact gb_ BK373) hb); have n5_ := Aside0.mk (blk_below (g := gb383) (o := .cells #[.int .i64 t374, .int .i64 t375, .int .i64 t376, .bool t377, .slice Ao54 t378.length co54] 24 (0, 0)) (by (with_reducible repeat (first | refine blk_drewN ?_ _ | refine blk_drew ?_ | refine blk_alloc ?_ _)); refine blk_put (cs := #[.int .i64 t374, .int .i64 t375, .int .i64 t376, .bool t377, .slice none 0 0]) ?_ 4 _ rfl; refine blk_put (cs := #[.int .i64 t374, .int .i64 t375, .int .i64 t376, .bool false, .slice none 0 0]) ?_ 3 _ rfl; refine blk_put (cs := #[.int .i64 t374, .int .i64 t375, .int .i64 0, .bool false, .slice none 0 0]) ?_ 2 _ rfl; refine blk_put (cs := #[.int .i64 t374, .int .i64 0, .int .i64 0, .bool false, .slice none 0 0]) ?_ 1 _ rfl; refine blk_put (cs := #[.int .i64 0, .int .i64 0, .int .i64 0, .bool false, .slice none 0 0]) ?_ 0 _ rfl; exact gb_ BK383) hb); have n6_ := bl_ [gb355, gb356, gb373, gb383] HB ⟨GE355, GE356, GE373, GE383, ⟨⟩⟩ hb; have n7_ := Aside0.mk (hbox); have n8_ := gl_ [gb355, gb356, gb373, gb383] HB ⟨GE355, GE356, GE373, GE383, ⟨⟩⟩ hg; have n9_ := gl_ [gb355, gb356, gb373, gb383] HB ⟨GE355, GE356, GE373, GE383, ⟨⟩⟩ hg; have n10_ := Aside0.mk ((by rw [hg]; exact Nat.ne_of_lt (blk_lt (g := gb355) (o := .cells #[.int .i64 a0_0, .int .i64 a0_1, .int .i64 a0_2, .bool a0_3, .slice A0_4 l0_4.length c0_4] 24 (0, 0)) (by (with_reducible repeat (first | refine blk_drewN ?_ _ | refine blk_drew ?_ | refine blk_alloc ?_ _)); refine blk_far ?_ NB355_383.out _; refine blk_far ?_ NB355_383.out _; refine blk_far ?_ NB355_383.out _; refine blk_far ?_ NB355_383.out _; refine blk_far ?_ NB355_383.out _; exact gb_ BK355)) : gb355 ≠ gb384)); have n11_ := Aside0.mk ((by rw [hg]; exact Nat.ne_of_gt (blk_lt (g := gb355) (o := .cells #[.int .i64 a0_0, .int .i64 a0_1, .int .i64 a0_2, .bool a0_3, .slice A0_4 l0_4.length c0_4] 24 (0, 0)) (by (with_reducible repeat (first | refine blk_drewN ?_ _ | refine blk_drew ?_ | refine blk_alloc ?_ _)); refine blk_far ?_ NB355_383.out _; refine blk_far ?_ NB355_383.out _; refine blk_far ?_ NB355_383.out _; refine blk_far ?_ NB355_383.out _; refine blk_far ?_ NB355_383.out _; exact gb_ BK355)) : gb384 ≠ gb355)); have n12_ := Aside0.mk ((by rw [hg]; exact Nat.ne_of_lt (blk_lt (g := gb356) (o := .cells #[.int .i64 a1_0, .int .i64 a1_1, .int .i64 a1_2, .bool a1_3, .slice A1_4 l1_4.length c1_4] 24 (0, 0)) (by (with_reducible repeat (first | refine blk_drewN ?_ _ | refine blk_drew ?_ | refine blk_alloc ?_ _)); refine blk_far ?_ NB356_383.out _; refine blk_far ?_ NB356_383.out _; refine blk_far ?_ NB356_383.out _; refine blk_far ?_ NB356_383.out _; refine blk_far ?_ NB356_383.out _; exact gb_ BK356)) : gb356 ≠ gb384)); have n13_ := Aside0.mk ((by rw [hg]; exact Nat.ne_of_gt (blk_lt (g := gb356) (o := .cells #[.int .i64 a1_0, .int .i64 a1_1, .int .i64 a1_2, .bool a1_3, .slice A1_4 l1_4.length c1_4] 24 (0, 0)) (by (with_reducible repeat (first | refine blk_drewN ?_ _ | refine blk_drew ?_ | refine blk_alloc ?_ _)); refine blk_far ?_ NB356_383.out _; refine blk_far ?_ NB356_383.out _; refine blk_far ?_ NB356_383.out _; refine blk_far ?_ NB356_383.out _; refine blk_far ?_ NB356_383.out _; exact gb_ BK356)) : gb384 ≠ gb356)); have n14_ := Aside0.mk ((by rw [hg]; exact Nat.ne_of_lt (blk_lt (g := gb373) (o := .cells #[.int .i64 t364, .int .i64 t365, .int .i64 t366, .bool t367, .slice Ao47 t368.length co47] 24 (0, 0)) (by (with_reducible repeat (first | refine blk_drewN ?_ _ | refine blk_drew ?_ | refine blk_alloc ?_ _)); refine blk_far ?_ NB373_383.out _; refine blk_far ?_ NB373_383.out _; refine blk_far ?_ NB373_383.out _; refine blk_far ?_ NB373_383.out _; refine blk_far ?_ NB373_383.out _; exact gb_ BK373)) : gb373 ≠ gb384)); have n15_ := Aside0.mk ((by rw [hg]; exact Nat.ne_of_gt (blk_lt (g := gb373) (o := .cells #[.int .i64 t364, .int .i64 t365, .int .i64 t366, .bool t367, .slice Ao47 t368.length co47] 24 (0, 0)) (by (with_reducible repeat (first | refine blk_drewN ?_ _ | refine blk_drew ?_ | refine blk_alloc ?_ _)); refine blk_far ?_ NB373_383.out _; refine blk_far ?_ NB373_383.out _; refine blk_far ?_ NB373_383.out _; refine blk_far ?_ NB373_383.out _; refine blk_far ?_ NB373_383.out _; exact gb_ BK373)) : gb384 ≠ gb373)); have n16_ := Aside0.mk ((by rw [hg]; exact Nat.ne_of_lt (blk_lt (g := gb383) (o := .cells #[.int .i64 t374, .int .i64 t375, .int .i64 t376, .bool t377, .slice Ao54 t378.length co54] 24 (0, 0)) (by (with_reducible repeat (first | refine blk_drewN ?_ _ | refine blk_drew ?_ | refine blk_alloc ?_ _)); refine blk_put (cs := #[.int .i64 t374, .int .i64 t375, .int .i64 t376, .bool t377, .slice none 0 0]) ?_ 4 _ rfl; refine blk_put (cs := #[.int .i64 t374, .int .i64 t375, .int .i64 t376, .bool false, .slice none 0 0]) ?_ 3 _ rfl; refine blk_put (cs := #[.int .i64 t374, .int .i64 t375, .int .i64 0, .bool false, .slice none 0 0]) ?_ 2 _ rfl; refine blk_put (cs := #[.int .i64 t374, .int .i64 0, .int .i64 0, .bool false, .slice none 0 0]) ?_ 1 _ rfl; refine blk_put (cs := #[.int .i64 0, .int .i64 0, .int .i64 0, .bool false, .slice none 0 0]) ?_ 0 _ rfl; exact gb_ BK383)) : gb383 ≠ gb384)); have n17_ := Aside0.mk ((by rw [hg]; exact Nat.ne_of_gt (blk_lt (g := gb383) (o := .cells #[.int .i64 t374, .int .i64 t375, .int .i64 t376, .bool t377, .slice Ao54 t378.length co54] 24 (0, 0)) (by (with_reducible repeat (first | refine blk_drewN ?_ _ | refine blk_drew ?_ | refine blk_alloc ?_ _)); refine blk_put (cs := #[.int .i64 t374, .int .i64 t375, .int .i64 t376, .bool t377, .slice none 0 0]) ?_ 4 _ rfl; refine blk_put (cs := #[.int .i64 t374, .int .i64 t375, .int .i64 t376, .bool false, .slice none 0 0]) ?_ 3 _ rfl; refine blk_put (cs := #[.int .i64 t374, .int .i64 t375, .int .i64 0, .bool false, .slice none 0 0]) ?_ 2 _ rfl; refine blk_put (cs := #[.int .i64 t374, .int .i64 0, .int .i64 0, .bool false, .slice none 0 0]) ?_ 1 _ rfl; refine blk_put (cs := #[.int .i64 0, .int .i64 0, .int .i64 0, .bool false, .slice none 0 0]) ?_ 0 _ rfl; exact gb_ BK383)) : gb384 ≠ gb383)); clear HO370; clear HO380; clear BK355; clear BK356; clear BK373; clear BK383; clear HB; have HO370 := n0_; have HO380 := n1_; have BK355 := n2_; have BK356 := n3_; have BK373 := n4_; have BK383 := n5_; have HB := n6_; have BK384 := n7_; have GW384 := n8_; have GE384 := n9_; have NB355_384 := n10_; have NB384_355 := n11_; have NB356_384 := n12_; have NB384_356 := n13_; have NB373_384 := n14_; have NB384_373 := n15_; have NB383_384 := n16_; have NB384_383 := n17_; clear n0_ n1_ n2_ n3_ n4_ n5_ n6_ n7_ n8_ n9_ n10_ n11_ n12_ n13_ n14_ n15_ n16_ n17_; clear hb hbox hg; have hnb57 := NB384_355.out; have hnc57 := NB355_384.out; have hnb58 := NB384_356.out; have hnc58 := NB356_384.out; have hnb59 := NB384_373.out; have hnc59 := NB373_384.out; have hnb60 := NB384_383.out; have hnc60 := NB383_384.out; have hcz61_0 := bc0 BK384; have hcz61_1 := bc1 BK384; have hcz61_2 := bc2 BK384; have hcz61_3 := bc3 BK384; have hcz61_4 := bc4 BK384; have hfz61_0 := bf_ BK384 0; have hfz61_1 := bf_ BK384 1; have hfz61_2 := bf_ BK384 2; have hfz61_3 := bf_ BK384 3; have hfz61_4 := bf_ BK384 4; have hcz62_0 := bc0 BK355; have hcz62_1 := bc1 BK355; have hcz62_2 := bc2 BK355; have hcz62_3 := bc3 BK355; have hcz62_4 := bc4 BK355; have hfz62_0 := bf_ BK355 0; have hfz62_1 := bf_ BK355 1; have hfz62_2 := bf_ BK355 2; have hfz62_3 := bf_ BK355 3; have hfz62_4 := bf_ BK355 4) | ((with_reducible refine gate_builtin (b := .append) (xs := #[.const (.slice none 0 0), .tmp 58]) rfl ?_); (try (refine gate_guard (by rfl) ?_; dsimp only)); at_builtin; refine Kd.R_append_rows k39 (w0 := w) w.heap.size rfl (.const (.slice none 0 0)) (.tmp 58) 22 39 (.agg #[(.string ⟨#[]⟩), (.bool false), (.string ⟨#[]⟩)]) 40 rfl Try.underlying22 info39 rfl (by decide) (by omega) (.slice none 0 0) ([] : List (S39)) l0_4 _ _ _ (fun k_ => some k_ ≠ (.slice Ao47 t368.length co47 : Value).ownBlock ∧ some k_ ≠ (.slice Ao54 t378.length co54 : Value).ownBlock) (fun _ => False) rfl rfl ?aO ?aR (fun _ _ h => h) (fun _ h => h.elim) ?aF ?aB ?aS ?aL ?_; (case aR => exact Kd.C_below HR0_4.out (gwl_ [gb355, gb356, gb373, gb383, gb384] HB ⟨GE355, GE356, GE373, GE383, GE384, ⟨⟩⟩)); (case aB => exact (gwl_ [gb355, gb356, gb373, gb383, gb384] HB ⟨GE355, GE356, GE373, GE383, GE384, ⟨⟩⟩)); (case aF => exact (fun k_ hk => ⟨Kd.fresh' (Kd.R_lt (by (with_reducible repeat (first | apply Kd.R_alloc | apply Kd.R_drewN | apply Kd.R_drew)); exact (Kd.R_mono (Kd.R_far (p := ⟨gb384, 4, none⟩) (Kd.R_far (p := ⟨gb384, 3, none⟩) (Kd.R_far (p := ⟨gb384, 2, none⟩) (Kd.R_far (p := ⟨gb384, 1, none⟩) (Kd.R_far (p := ⟨gb384, 0, none⟩) (Kd.R_types HO370.out BK384.out (by decide)) (fun _ hk => hk.2) (.int .i64 a0_0)) (fun _ hk => hk.2) (.int .i64 a0_1)) (fun _ hk => hk.2) (.int .i64 a0_2)) (fun _ hk => hk.2) (.bool a0_3)) (fun _ hk => hk.2) (.slice A0_4 l0_4.length c0_4)) (fun _ h_ => h_.1)))) k_ hk, Kd.fresh' (Kd.R_lt (by (with_reducible repeat (first | apply Kd.R_alloc | apply Kd.R_drewN | apply Kd.R_drew)); exact (Kd.R_mono (Kd.R_far (p := ⟨gb384, 4, none⟩) (Kd.R_far (p := ⟨gb384, 3, none⟩) (Kd.R_far (p := ⟨gb384, 2, none⟩) (Kd.R_far (p := ⟨gb384, 1, none⟩) (Kd.R_far (p := ⟨gb384, 0, none⟩) (Kd.R_types HO380.out BK384.out (by decide)) (fun _ hk => hk.2) (.int .i64 a0_0)) (fun _ hk => hk.2) (.int .i64 a0_1)) (fun _ hk => hk.2) (.int .i64 a0_2)) (fun _ hk => hk.2) (.bool a0_3)) (fun _ hk => hk.2) (.slice A0_4 l0_4.length c0_4)) (fun _ h_ => h_.1)))) k_ hk⟩)); (case aO => exact ((Kd.R_nil _ _ _ _ (fun k_ => some k_ ≠ (.slice Ao47 t368.length co47 : Value).ownBlock ∧ some k_ ≠ (.slice Ao54 t378.length co54 : Value).ownBlock)))); (case aS => exact (below_size (gwl_ [gb355, gb356, gb373, gb383, gb384] HB ⟨GE355, GE356, GE373, GE383, GE384, ⟨⟩⟩))); (case aL => have := LMc32.out; omega); intro v386 w63 ho hb hg hat; rw [← Ny385.out] at ho; have n0_ := Aside0.mk (blk_grown (g := gb355) (o := .cells #[.int .i64 a0_0, .int .i64 a0_1, .int .i64 a0_2, .bool a0_3, .slice A0_4 l0_4.length c0_4] 24 (0, 0)) (by (with_reducible repeat (first | refine blk_drewN ?_ _ | refine blk_drew ?_ | refine blk_alloc ?_ _)); refine blk_far ?_ NB355_384.out _; refine blk_far ?_ NB355_384.out _; refine blk_far ?_ NB355_384.out _; refine blk_far ?_ NB355_384.out _; refine blk_far ?_ NB355_384.out _; exact gb_ BK355) hg (by simp [Value.ownBlock])); have n1_ := Aside0.mk (blk_grown (g := gb356) (o := .cells #[.int .i64 a1_0, .int .i64 a1_1, .int .i64 a1_2, .bool a1_3, .slice A1_4 l1_4.length c1_4] 24 (0, 0)) (by (with_reducible repeat (first | refine blk_drewN ?_ _ | refine blk_drew ?_ | refine blk_alloc ?_ _)); refine blk_far ?_ NB356_384.out _; refine blk_far ?_ NB356_384.out _; refine blk_far ?_ NB356_384.out _; refine blk_far ?_ NB356_384.out _; refine blk_far ?_ NB356_384.out _; exact gb_ BK356) hg (by simp [Value.ownBlock])); have n2_ := Aside0.mk (Kd.R_after (Kd.R_apart_nil (by (with_reducible repeat (first | apply Kd.R_alloc | apply Kd.R_drewN | apply Kd.R_drew)); exact (Kd.R_mono (Kd.R_far (p := ⟨gb384, 4, none⟩) (Kd.R_far (p := ⟨gb384, 3, none⟩) (Kd.R_far (p := ⟨gb384, 2, none⟩) (Kd.R_far (p := ⟨gb384, 1, none⟩) (Kd.R_far (p := ⟨gb384, 0, none⟩) (Kd.R_types HO370.out BK384.out (by decide)) (fun _ hk => hk.2) (.int .i64 a0_0)) (fun _ hk => hk.2) (.int .i64 a0_1)) (fun _ hk => hk.2) (.int .i64 a0_2)) (fun _ hk => hk.2) (.bool a0_3)) (fun _ hk => hk.2) (.slice A0_4 l0_4.length c0_4)) (fun _ h_ => h_.1)))) hg hat); have n3_ := Aside0.mk (blk_grown (g := gb373) (o := .cells #[.int .i64 t364, .int .i64 t365, .int .i64 t366, .bool t367, .slice Ao47 t368.length co47] 24 (0, 0)) (by (with_reducible repeat (first | refine blk_drewN ?_ _ | refine blk_drew ?_ | refine blk_alloc ?_ _)); refine blk_far ?_ NB373_384.out _; refine blk_far ?_ NB373_384.out _; refine blk_far ?_ NB373_384.out _; refine blk_far ?_ NB373_384.out _; refine blk_far ?_ NB373_384.out _; exact gb_ BK373) hg (by simp [Value.ownBlock])); have n4_ := Aside0.mk (Kd.R_after (Kd.R_apart_nil (by (with_reducible repeat (first | apply Kd.R_alloc | apply Kd.R_drewN | apply Kd.R_drew)); exact (Kd.R_mono (Kd.R_far (p := ⟨gb384, 4, none⟩) (Kd.R_far (p := ⟨gb384, 3, none⟩) (Kd.R_far (p := ⟨gb384, 2, none⟩) (Kd.R_far (p := ⟨gb384, 1, none⟩) (Kd.R_far (p := ⟨gb384, 0, none⟩) (Kd.R_types HO380.out BK384.out (by decide)) (fun _ hk => hk.2) (.int .i64 a0_0)) (fun _ hk => hk.2) (.int .i64 a0_1)) (fun _ hk => hk.2) (.int .i64 a0_2)) (fun _ hk => hk.2) (.bool a0_3)) (fun _ hk => hk.2) (.slice A0_4 l0_4.length c0_4)) (fun _ h_ => h_.1)))) hg hat); have n5_ := Aside0.mk (blk_grown (g := gb383) (o := .cells #[.int .i64 t374, .int .i64 t375, .int .i64 t376, .bool t377, .slice Ao54 t378.length co54] 24 (0, 0)) (by (with_reducible repeat (first | refine blk_drewN ?_ _ | refine blk_drew ?_ | refine blk_alloc ?_ _)); refine blk_far ?_ NB383_384.out _; refine blk_far ?_ NB383_384.out _; refine blk_far ?_ NB383_384.out _; refine blk_far ?_ NB383_384.out _; refine blk_far ?_ NB383_384.out _; exact gb_ BK383) hg (by simp [Value.ownBlock])); have n6_ := Aside0.mk (blk_grown (g := gb384) (o := .cells #[.int .i64 a0_0, .int .i64 a0_1, .int .i64 a0_2, .bool a0_3, .slice A0_4 l0_4.length c0_4] 24 (0, 0)) (by (with_reducible repeat (first | refine blk_drewN ?_ _ | refine blk_drew ?_ | refine blk_alloc ?_ _)); refine blk_put (cs := #[.int .i64 a0_0, .int .i64 a0_1, .int .i64 a0_2, .bool a0_3, .slice none 0 0]) ?_ 4 _ rfl; refine blk_put (cs := #[.int .i64 a0_0, .int .i64 a0_1, .int .i64 a0_2, .bool false, .slice none 0 0]) ?_ 3 _ rfl; refine blk_put (cs := #[.int .i64 a0_0, .int .i64 a0_1, .int .i64 0, .bool false, .slice none 0 0]) ?_ 2 _ rfl; refine blk_put (cs := #[.int .i64 a0_0, .int .i64 0, .int .i64 0, .bool false, .slice none 0 0]) ?_ 1 _ rfl; refine blk_put (cs := #[.int .i64 0, .int .i64 0, .int .i64 0, .bool false, .slice none 0 0]) ?_ 0 _ rfl; exact gb_ BK384) hg (by simp [Value.ownBlock])); have n7_ := Aside0.mk (hb); have n8_ := Aside0.mk (ho); clear BK355; clear BK356; clear HO370; clear BK373; clear HO380; clear BK383; clear BK384; clear HB; have BK355 := n0_; have BK356 := n1_; have HO370 := n2_; have BK373 := n3_; have HO380 := n4_; have BK383 := n5_; have BK384 := n6_; have HB := n7_; have HO387 := n8_; clear n0_ n1_ n2_ n3_ n4_ n5_ n6_ n7_ n8_; clear ho hb hg hat; obtain ⟨Ao64, co64, eo64⟩ := Kd.R_slice HO387.out; subst eo64; have hcz65_0 := bc0 BK384; have hcz65_1 := bc1 BK384; have hcz65_2 := bc2 BK384; have hcz65_3 := bc3 BK384; have hcz65_4 := bc4 BK384; have hfz65_0 := bf_ BK384 0; have hfz65_1 := bf_ BK384 1; have hfz65_2 := bf_ BK384 2; have hfz65_3 := bf_ BK384 3; have hfz65_4 := bf_ BK384 4) | ((with_reducible refine gate_callee (f := 13) rfl ?_); refine goesL_ (some 62) rfl rfl Try.func13 (by kernel_rfl) rfl #[.agg #[.int .i64 a0_0, .int .i64 a0_1, .int .i64 a0_2, .bool a0_3, .slice Ao64 y385.length co64]] rfl (by (try simp only [maps_]); first | done | rfl) ?_; (with_reducible refine (item_Copy.calls a0_0 a0_1 a0_2 a0_3 _ _ y385 t388 t389 t390 t391 t392 _ ?side1 ?side2 A33.out).mono ?_); (case side1 => refine (Kd.R_reads' (e := 39) (base := w.heap.size) (ok := fun k_ => (some k_ ≠ (.slice Ao47 t368.length co47 : Value).ownBlock ∧ some k_ ≠ (.slice Ao54 t378.length co54 : Value).ownBlock)) (n := y385.length) (c := co64) ?_).2.2; exact (by (with_reducible repeat (first | apply Kd.R_alloc | apply Kd.R_drewN | apply Kd.R_drew)); exact (Kd.R_mono (Kd.R_far (p := ⟨gb384, 4, none⟩) (Kd.R_types HO387.out BK384.out (by decide)) (fun _ hk => hk.2) (.slice Ao64 y385.length co64)) (fun _ h_ => h_.1)))); (case side2 => exact (Kd.R_reads' HO387.out).2.1); rintro e w66 ⟨v393, rfl, ho0, hb⟩; refine ⟨_, rfl, ?_⟩; have n0_ := Aside0.mk (Kd.R_elder' (by (with_reducible repeat (first | apply Kd.R_alloc | apply Kd.R_drewN | apply Kd.R_drew)); exact (Kd.R_mono (Kd.R_far (p := ⟨gb384, 4, none⟩) (Kd.R_types HO370.out BK384.out (by decide)) (fun _ hk => hk.2) (.slice Ao64 y385.length co64)) (fun _ h_ => h_.1))) (Kd.R_base ho0) hb); have n1_ := Aside0.mk (Kd.R_elder' (by (with_reducible repeat (first | apply Kd.R_alloc | apply Kd.R_drewN | apply Kd.R_drew)); exact (Kd.R_mono (Kd.R_far (p := ⟨gb384, 4, none⟩) (Kd.R_types HO380.out BK384.out (by decide)) (fun _ hk => hk.2) (.slice Ao64 y385.length co64)) (fun _ h_ => h_.1))) (Kd.R_base ho0) hb); have n2_ := Aside0.mk (Kd.R_elder' (by (with_reducible repeat (first | apply Kd.R_alloc | apply Kd.R_drewN | apply Kd.R_drew)); exact (Kd.R_mono (Kd.R_far (p := ⟨gb384, 4, none⟩) (Kd.R_types HO387.out BK384.out (by decide)) (fun _ hk => hk.2) (.slice Ao64 y385.length co64)) (fun _ h_ => h_.1))) (Kd.R_base ho0) hb); have n3_ := Aside0.mk (Kd.R_lower (Kd.R_new' (Kd.R_new' (Kd.R_new' ho0 (Kd.R_lt (by (with_reducible repeat (first | apply Kd.R_alloc | apply Kd.R_drewN | apply Kd.R_drew)); exact (Kd.R_mono (Kd.R_far (p := ⟨gb384, 4, none⟩) (Kd.R_types HO370.out BK384.out (by decide)) (fun _ hk => hk.2) (.slice Ao64 y385.length co64)) (fun _ h_ => h_.1))))) (Kd.R_lt (by (with_reducible repeat (first | apply Kd.R_alloc | apply Kd.R_drewN | apply Kd.R_drew)); exact (Kd.R_mono (Kd.R_far (p := ⟨gb384, 4, none⟩) (Kd.R_types HO380.out BK384.out (by decide)) (fun _ hk => hk.2) (.slice Ao64 y385.length co64)) (fun _ h_ => h_.1))))) (Kd.R_lt (by (with_reducible repeat (first | apply Kd.R_alloc | apply Kd.R_drewN | apply Kd.R_drew)); exact (Kd.R_mono (Kd.R_far (p := ⟨gb384, 4, none⟩) (Kd.R_types HO387.out BK384.out (by decide)) (fun _ hk => hk.2) (.slice Ao64 y385.length co64)) (fun _ h_ => h_.1))))) (below_size (gwl_ [gb355, gb356, gb373, gb383, gb384] HB ⟨GE355, GE356, GE373, GE383, GE384, ⟨⟩⟩))); have n4_ := Aside0.mk (blk_below (g := gb355) (o := .cells #[.int .i64 a0_0, .int .i64 a0_1, .int .i64 a0_2, .bool a0_3, .slice A0_4 l0_4.length c0_4] 24 (0, 0)) (by (with_reducible repeat (first | refine blk_drewN ?_ _ | refine blk_drew ?_ | refine blk_alloc ?_ _)); refine blk_far ?_ NB355_384.out _; exact gb_ BK355) hb); have n5_ := Aside0.mk (blk_below (g := gb356) (o := .cells #[.int .i64 a1_0, .int .i64 a1_1, .int .i64 a1_2, .bool a1_3, .slice A1_4 l1_4.length c1_4] 24 (0, 0)) (by (with_reducible repeat (first | refine blk_drewN ?_ _ | refine blk_drew ?_ | refine blk_alloc ?_ _)); refine blk_far ?_ NB356_384.out _; exact gb_ BK356) hb); have n6_ := Aside0.mk (blk_below (g := gb373) (o := .cells #[.int .i64 t364, .int .i64 t365, .int .i64 t366, .bool t367, .slice Ao47 t368.length co47] 24 (0, 0)) (by (with_reducible repeat (first | refine blk_drewN ?_ _ | refine blk_drew ?_ | refine blk_alloc ?_ _)); refine blk_far ?_ NB373_384.out _; exact gb_ BK373) hb); have n7_ := Aside0.mk (blk_below (g := gb383) (o := .cells #[.int .i64 t374, .int .i64 t375, .int .i64 t376, .bool t377, .slice Ao54 t378.length co54] 24 (0, 0)) (by (with_reducible repeat (first | refine blk_drewN ?_ _ | refine blk_drew ?_ | refine blk_alloc ?_ _)); refine blk_far ?_ NB383_384.out _; exact gb_ BK383) hb); have n8_ := Aside0.mk (blk_below (g := gb384) (o := .cells #[.int .i64 a0_0, .int .i64 a0_1, .int .i64 a0_2, .bool a0_3, .slice Ao64 y385.length co64] 24 (0, 0)) (by (with_reducible repeat (first | refine blk_drewN ?_ _ | refine blk_drew ?_ | refine blk_alloc ?_ _)); refine blk_put (cs := #[.int .i64 a0_0, .int .i64 a0_1, .int .i64 a0_2, .bool a0_3, .slice A0_4 l0_4.length c0_4]) ?_ 4 _ rfl; exact gb_ BK384) hb); have n9_ := bl_ [gb355, gb356, gb373, gb383, gb384] HB ⟨GE355, GE356, GE373, GE383, GE384, ⟨⟩⟩ hb; clear HO370; clear HO380; clear HO387; clear BK355; clear BK356; clear BK373; clear BK383; clear BK384; clear HB; have HO370 := n0_; have HO380 := n1_; have HO387 := n2_; have HO394 := n3_; have BK355 := n4_; have BK356 := n5_; have BK373 := n6_; have BK383 := n7_; have BK384 := n8_; have HB := n9_; clear n0_ n1_ n2_ n3_ n4_ n5_ n6_ n7_ n8_ n9_; (try clear hb); (try clear hb2); (try clear hk); (try clear hi); (try clear ho0)) | ((with_reducible refine gate_dst (N := 18) rfl ?_); (try (refine gate_guard (by rfl) ?_; dsimp only)); refine box_event ?hg (N := 18) ?hd (cs := #[.int .i64 0, .int .i64 0, .int .i64 0, .bool false, .slice none 0 0]) (t := 24) ?hr ?_; (case hd => rfl); (case hg => rfl); (case hr => first | (go_simp; done) | (go_simp; rfl)); intro gb395 hg w67 hbox hb; have n0_ := rb_ HO370 hb; have n1_ := rb_ HO380 hb; have n2_ := rb_ HO387 hb; have n3_ := rb_ HO394 hb; have n4_ := bb_ BK355 hb; have n5_ := bb_ BK356 hb; have n6_ := bb_ BK373 hb; have n7_ := bb_ BK383 hb; have n8_ := bb_ BK384 hb; have n9_ := bl_ [gb355, gb356, gb373, gb383, gb384] HB ⟨GE355, GE356, GE373, GE383, GE384, ⟨⟩⟩ hb; have n10_ := Aside0.mk (hbox); have n11_ := gl_ [gb355, gb356, gb373, gb383, gb384] HB ⟨GE355, GE356, GE373, GE383, GE384, ⟨⟩⟩ hg; have n12_ := gl_ [gb355, gb356, gb373, gb383, gb384] HB ⟨GE355, GE356, GE373, GE383, GE384, ⟨⟩⟩ hg; have n13_ := gn_ BK355 hg; have n14_ := Aside0.mk ((by rw [hg]; exact Nat.ne_of_gt (blk_lt (g := gb355) (o := .cells #[.int .i64 a0_0, .int .i64 a0_1, .int .i64 a0_2, .bool a0_3, .slice A0_4 l0_4.length c0_4] 24 (0, 0)) (gb_ BK355)) : gb395 ≠ gb355)); have n15_ := gn_ BK356 hg; have n16_ := Aside0.mk ((by rw [hg]; exact Nat.ne_of_gt (blk_lt (g := gb356) (o := .cells #[.int .i64 a1_0, .int .i64 a1_1, .int .i64 a1_2, .bool a1_3, .slice A1_4 l1_4.length c1_4] 24 (0, 0)) (gb_ BK356)) : gb395 ≠ gb356)); have n17_ := gn_ BK373 hg; have n18_ := Aside0.mk ((by rw [hg]; exact Nat.ne_of_gt (blk_lt (g := gb373) (o := .cells #[.int .i64 t364, .int .i64 t365, .int .i64 t366, .bool t367, .slice Ao47 t368.length co47] 24 (0, 0)) (gb_ BK373)) : gb395 ≠ gb373)); have n19_ := gn_ BK383 hg; have n20_ := Aside0.mk ((by rw [hg]; exact Nat.ne_of_gt (blk_lt (g := gb383) (o := .cells #[.int .i64 t374, .int .i64 t375, .int .i64 t376, .bool t377, .slice Ao54 t378.length co54] 24 (0, 0)) (gb_ BK383)) : gb395 ≠ gb383)); have n21_ := gn_ BK384 hg; have n22_ := Aside0.mk ((by rw [hg]; exact Nat.ne_of_gt (blk_lt (g := gb384) (o := .cells #[.int .i64 a0_0, .int .i64 a0_1, .int .i64 a0_2, .bool a0_3, .slice Ao64 y385.length co64] 24 (0, 0)) (gb_ BK384)) : gb395 ≠ gb384)); clear HO370; clear HO380; clear HO387; clear HO394; clear BK355; clear BK356; clear BK373; clear BK383; clear BK384; clear HB; have HO370 := n0_; have HO380 := n1_; have HO387 := n2_; have HO394 := n3_; have BK355 := n4_; have BK356 := n5_; have BK373 := n6_; have BK383 := n7_; have BK384 := n8_; have HB := n9_; have BK395 := n10_; have GW395 := n11_; have GE395 := n12_; have NB355_395 := n13_; have NB395_355 := n14_; have NB356_395 := n15_; have NB395_356 := n16_; have NB373_395 := n17_; have NB395_373 := n18_; have NB383_395 := n19_; have NB395_383 := n20_; have NB384_395 := n21_; have NB395_384 := n22_; clear n0_ n1_ n2_ n3_ n4_ n5_ n6_ n7_ n8_ n9_ n10_ n11_ n12_ n13_ n14_ n15_ n16_ n17_ n18_ n19_ n20_ n21_ n22_; clear hb hbox hg; have hnb68 := NB395_355.out; have hnc68 := NB355_395.out; have hnb69 := NB395_356.out; have hnc69 := NB356_395.out; have hnb70 := NB395_373.out; have hnc70 := NB373_395.out; have hnb71 := NB395_383.out; have hnc71 := NB383_395.out; have hnb72 := NB395_384.out; have hnc72 := NB384_395.out; have hcz73_0 := bc0 BK395; have hcz73_1 := bc1 BK395; have hcz73_2 := bc2 BK395; have hcz73_3 := bc3 BK395; have hcz73_4 := bc4 BK395; have hfz73_0 := bf_ BK395 0; have hfz73_1 := bf_ BK395 1; have hfz73_2 := bf_ BK395 2; have hfz73_3 := bf_ BK395 3; have hfz73_4 := bf_ BK395 4; obtain ⟨Ao74, co74, eo74⟩ := Kd.R_slice HO394.out; subst eo74; have hcz75_0 := bc0 BK355; have hcz75_1 := bc1 BK355; have hcz75_2 := bc2 BK355; have hcz75_3 := bc3 BK355; have hcz75_4 := bc4 BK355; have hfz75_0 := bf_ BK355 0; have hfz75_1 := bf_ BK355 1; have hfz75_2 := bf_ BK355 2; have hfz75_3 := bf_ BK355 3; have hfz75_4 := bf_ BK355 4) | ((with_reducible refine gate_callee (f := 14) rfl ?_); refine goesL_ (some 65) rfl rfl Try.func14 (by kernel_rfl) rfl #[.agg #[.int .i64 t388, .int .i64 t389, .int .i64 t390, .bool t391, .slice Ao74 t392.length co74], .agg #[.int .i64 a0_0, .int .i64 a0_1, .int .i64 a0_2, .bool a0_3, .slice A0_4 l0_4.length c0_4]] rfl (by (try simp only [maps_]); first | done | rfl) ?_; (with_reducible refine (ravelinref18_Same.calls kj5 t388 t389 t390 t391 _ _ t392 a0_0 a0_1 a0_2 a0_3 _ _ l0_4 true _ ?side1 ?side2 ?side3 ?side4 A34.out).mono ?_); (case side1 => refine (Kd.R_reads' (e := 39) (base := w.heap.size) (ok := fun k_ => (((True ∧ some k_ ≠ (.slice Ao47 t368.length co47 : Value).ownBlock) ∧ some k_ ≠ (.slice Ao54 t378.length co54 : Value).ownBlock) ∧ some k_ ≠ (.slice Ao64 y385.length co64 : Value).ownBlock)) (n := t392.length) (c := co74) ?_).2.2; exact (by (with_reducible repeat (first | apply Kd.R_alloc | apply Kd.R_drewN | apply Kd.R_drew)); exact (Kd.R_mono (Kd.R_far (p := ⟨gb395, 4, none⟩) (Kd.R_far (p := ⟨gb395, 3, none⟩) (Kd.R_far (p := ⟨gb395, 2, none⟩) (Kd.R_far (p := ⟨gb395, 1, none⟩) (Kd.R_far (p := ⟨gb395, 0, none⟩) (Kd.R_types HO394.out BK395.out (by decide)) (fun _ hk => hk.2) (.int .i64 t388)) (fun _ hk => hk.2) (.int .i64 t389)) (fun _ hk => hk.2) (.int .i64 t390)) (fun _ hk => hk.2) (.bool t391)) (fun _ hk => hk.2) (.slice Ao74 t392.length co74)) (fun _ h_ => h_.1)))); (case side2 => exact (Kd.R_reads' HO394.out).2.1); (case side3 => exact Kd.C_below HR0_4.out (gwl_ [gb355, gb356, gb373, gb383, gb384, gb395] HB ⟨GE355, GE356, GE373, GE383, GE384, GE395, ⟨⟩⟩)); (case side4 => exact HC0_4.out); rintro e w76 ⟨rfl, hb⟩; refine ⟨_, rfl, ?_⟩; have n0_ := Aside0.mk (Kd.R_below (by (with_reducible repeat (first | apply Kd.R_alloc | apply Kd.R_drewN | apply Kd.R_drew)); exact (Kd.R_mono (Kd.R_far (p := ⟨gb395, 4, none⟩) (Kd.R_far (p := ⟨gb395, 3, none⟩) (Kd.R_far (p := ⟨gb395, 2, none⟩) (Kd.R_far (p := ⟨gb395, 1, none⟩) (Kd.R_far (p := ⟨gb395, 0, none⟩) (Kd.R_types HO370.out BK395.out (by decide)) (fun _ hk => hk.2) (.int .i64 t388)) (fun _ hk => hk.2) (.int .i64 t389)) (fun _ hk => hk.2) (.int .i64 t390)) (fun _ hk => hk.2) (.bool t391)) (fun _ hk => hk.2) (.slice Ao74 t392.length co74)) (fun _ h_ => h_.1))) hb); have n1_ := Aside0.mk (Kd.R_below (by (with_reducible repeat (first | apply Kd.R_alloc | apply Kd.R_drewN | apply Kd.R_drew)); exact (Kd.R_mono (Kd.R_far (p := ⟨gb395, 4, none⟩) (Kd.R_far (p := ⟨gb395, 3, none⟩) (Kd.R_far (p := ⟨gb395, 2, none⟩) (Kd.R_far (p := ⟨gb395, 1, none⟩) (Kd.R_far (p := ⟨gb395, 0, none⟩) (Kd.R_types HO380.out BK395.out (by decide)) (fun _ hk => hk.2) (.int .i64 t388)) (fun _ hk => hk.2) (.int .i64 t389)) (fun _ hk => hk.2) (.int .i64 t390)) (fun _ hk => hk.2) (.bool t391)) (fun _ hk => hk.2) (.slice Ao74 t392.length co74)) (fun _ h_ => h_.1))) hb); have n2_ := Aside0.mk (Kd.R_below (by (with_reducible repeat (first | apply Kd.R_alloc | apply Kd.R_drewN | apply Kd.R_drew)); exact (Kd.R_mono (Kd.R_far (p := ⟨gb395, 4, none⟩) (Kd.R_far (p := ⟨gb395, 3, none⟩) (Kd.R_far (p := ⟨gb395, 2, none⟩) (Kd.R_far (p := ⟨gb395, 1, none⟩) (Kd.R_far (p := ⟨gb395, 0, none⟩) (Kd.R_types HO387.out BK395.out (by decide)) (fun _ hk => hk.2) (.int .i64 t388)) (fun _ hk => hk.2) (.int .i64 t389)) (fun _ hk => hk.2) (.int .i64 t390)) (fun _ hk => hk.2) (.bool t391)) (fun _ hk => hk.2) (.slice Ao74 t392.length co74)) (fun _ h_ => h_.1))) hb); have n3_ := Aside0.mk (Kd.R_below (by (with_reducible repeat (first | apply Kd.R_alloc | apply Kd.R_drewN | apply Kd.R_drew)); exact (Kd.R_mono (Kd.R_far (p := ⟨gb395, 4, none⟩) (Kd.R_far (p := ⟨gb395, 3, none⟩) (Kd.R_far (p := ⟨gb395, 2, none⟩) (Kd.R_far (p := ⟨gb395, 1, none⟩) (Kd.R_far (p := ⟨gb395, 0, none⟩) (Kd.R_types HO394.out BK395.out (by decide)) (fun _ hk => hk.2) (.int .i64 t388)) (fun _ hk => hk.2) (.int .i64 t389)) (fun _ hk => hk.2) (.int .i64 t390)) (fun _ hk => hk.2) (.bool t391)) (fun _ hk => hk.2) (.slice Ao74 t392.length co74)) (fun _ h_ => h_.1))) hb); have n4_ := Aside0.mk (blk_below (g := gb355) (o := .cells #[.int .i64 a0_0, .int .i64 a0_1, .int .i64 a0_2, .bool a0_3, .slice A0_4 l0_4.length c0_4] 24 (0, 0)) (by (with_reducible repeat (first | refine blk_drewN ?_ _ | refine blk_drew ?_ | refine blk_alloc ?_ _)); refine blk_far ?_ NB355_395.out _; refine blk_far ?_ NB355_395.out _; refine blk_far ?_ NB355_395.out _; refine blk_far ?_ NB355_395.out _; refine blk_far ?_ NB355_395.out _; exact gb_ BK355) hb); have n5_ := Aside0.mk (blk_below (g := gb356) (o := .cells #[.int .i64 a1_0, .int .i64 a1_1, .int .i64 a1_2, .bool a1_3, .slice A1_4 l1_4.length c1_4] 24 (0, 0)) (by (with_reducible repeat (first | refine blk_drewN ?_ _ | refine blk_drew ?_ | refine blk_alloc ?_ _)); refine blk_far ?_ NB356_395.out _; refine blk_far ?_ NB356_395.out _; refine blk_far ?_ NB356_395.out _; refine blk_far ?_ NB356_395.out _; refine blk_far ?_ NB356_395.out _; exact gb_ BK356) hb); have n6_ := Aside0.mk (blk_below (g := gb373) (o := .cells #[.int .i64 t364, .int .i64 t365, .int .i64 t366, .bool t367, .slice Ao47 t368.length co47] 24 (0, 0)) (by (with_reducible repeat (first | refine blk_drewN ?_ _ | refine blk_drew ?_ | refine blk_alloc ?_ _)); refine blk_far ?_ NB373_395.out _; refine blk_far ?_ NB373_395.out _; refine blk_far ?_ NB373_395.out _; refine blk_far ?_ NB373_395.out _; refine blk_far ?_ NB373_395.out _; exact gb_ BK373) hb); have n7_ := Aside0.mk (blk_below (g := gb383) (o := .cells #[.int .i64 t374, .int .i64 t375, .int .i64 t376, .bool t377, .slice Ao54 t378.length co54] 24 (0, 0)) (by (with_reducible repeat (first | refine blk_drewN ?_ _ | refine blk_drew ?_ | refine blk_alloc ?_ _)); refine blk_far ?_ NB383_395.out _; refine blk_far ?_ NB383_395.out _; refine blk_far ?_ NB383_395.out _; refine blk_far ?_ NB383_395.out _; refine blk_far ?_ NB383_395.out _; exact gb_ BK383) hb); have n8_ := Aside0.mk (blk_below (g := gb384) (o := .cells #[.int .i64 a0_0, .int .i64 a0_1, .int .i64 a0_2, .bool a0_3, .slice Ao64 y385.length co64] 24 (0, 0)) (by (with_reducible repeat (first | refine blk_drewN ?_ _ | refine blk_drew ?_ | refine blk_alloc ?_ _)); refine blk_far ?_ NB384_395.out _; refine blk_far ?_ NB384_395.out _; refine blk_far ?_ NB384_395.out _; refine blk_far ?_ NB384_395.out _; refine blk_far ?_ NB384_395.out _; exact gb_ BK384) hb); have n9_ := Aside0.mk (blk_below (g := gb395) (o := .cells #[.int .i64 t388, .int .i64 t389, .int .i64 t390, .bool t391, .slice Ao74 t392.length co74] 24 (0, 0)) (by (with_reducible repeat (first | refine blk_drewN ?_ _ | refine blk_drew ?_ | refine blk_alloc ?_ _)); refine blk_put (cs := #[.int .i64 t388, .int .i64 t389, .int .i64 t390, .bool t391, .slice none 0 0]) ?_ 4 _ rfl; refine blk_put (cs := #[.int .i64 t388, .int .i64 t389, .int .i64 t390, .bool false, .slice none 0 0]) ?_ 3 _ rfl; refine blk_put (cs := #[.int .i64 t388, .int .i64 t389, .int .i64 0, .bool false, .slice none 0 0]) ?_ 2 _ rfl; refine blk_put (cs := #[.int .i64 t388, .int .i64 0, .int .i64 0, .bool false, .slice none 0 0]) ?_ 1 _ rfl; refine blk_put (cs := #[.int .i64 0, .int .i64 0, .int .i64 0, .bool false, .slice none 0 0]) ?_ 0 _ rfl; exact gb_ BK395) hb); have n10_ := bl_ [gb355, gb356, gb373, gb383, gb384, gb395] HB ⟨GE355, GE356, GE373, GE383, GE384, GE395, ⟨⟩⟩ hb; clear HO370; clear HO380; clear HO387; clear HO394; clear BK355; clear BK356; clear BK373; clear BK383; clear BK384; clear BK395; clear HB; have HO370 := n0_; have HO380 := n1_; have HO387 := n2_; have HO394 := n3_; have BK355 := n4_; have BK356 := n5_; have BK373 := n6_; have BK383 := n7_; have BK384 := n8_; have BK395 := n9_; have HB := n10_; clear n0_ n1_ n2_ n3_ n4_ n5_ n6_ n7_ n8_ n9_ n10_; (try clear hb); (try clear hb2); (try clear hk); (try clear hi); have hcz77_0 := bc0 BK395; have hcz77_1 := bc1 BK395; have hcz77_2 := bc2 BK395; have hcz77_3 := bc3 BK395; have hcz77_4 := bc4 BK395; have hfz77_0 := bf_ BK395 0; have hfz77_1 := bf_ BK395 1; have hfz77_2 := bf_ BK395 2; have hfz77_3 := bf_ BK395 3; have hfz77_4 := bf_ BK395 4))
  (try simp only [Act.put, lists_])
  go_cut [] (fun wc => ∃ (kq : Nat) (x374004_35 : List (S39)) (x384004_35 : List (S39)) (x385004_35 : List (S39)) (x396004_35 : List (S39)) (u374004 : Value) (u384004 : Value) (u385004 : Value) (u396004 : Value), Aside0 (ravelinlaw18_ItemTells.j1 kq t360 t361 t362 t363 t371 t372 t381 t382 a0_0 a0_1 a0_2 a0_3 l0_4 a1_0 a1_1 a1_2 a1_3 l1_4 t364 t365 t366 t367 x374004_35 t374 t375 t376 t377 x384004_35 a0_0 a0_1 a0_2 a0_3 x385004_35 = some r) ∧ Aside0 (kq ≤ kj5) ∧ Aside0 (Kd.R k39 39 wc w.heap.size (fun k_ => some k_ ≠ (u384004 : Value).ownBlock ∧ some k_ ≠ (u385004 : Value).ownBlock ∧ some k_ ≠ (u396004 : Value).ownBlock) u374004 x374004_35) ∧ Aside0 (Kd.R k39 39 wc w.heap.size (fun k_ => some k_ ≠ (u374004 : Value).ownBlock ∧ some k_ ≠ (u385004 : Value).ownBlock ∧ some k_ ≠ (u396004 : Value).ownBlock) u384004 x384004_35) ∧ Aside0 (Kd.R k39 39 wc w.heap.size (fun k_ => some k_ ≠ (u374004 : Value).ownBlock ∧ some k_ ≠ (u384004 : Value).ownBlock ∧ some k_ ≠ (u396004 : Value).ownBlock) u385004 x385004_35) ∧ Aside0 (Kd.R k39 39 wc w.heap.size (fun k_ => some k_ ≠ (u374004 : Value).ownBlock ∧ some k_ ≠ (u384004 : Value).ownBlock ∧ some k_ ≠ (u385004 : Value).ownBlock) u396004 x396004_35) ∧ Aside0 (wc.heap[gb355]? = some (.cells #[.int .i64 a0_0, .int .i64 a0_1, .int .i64 a0_2, .bool a0_3, (.slice A0_4 l0_4.length c0_4)] 24 (0, 0))) ∧ Aside0 (wc.heap[gb356]? = some (.cells #[.int .i64 a1_0, .int .i64 a1_1, .int .i64 a1_2, .bool a1_3, (.slice A1_4 l1_4.length c1_4)] 24 (0, 0))) ∧ Aside0 (wc.heap[gb373]? = some (.cells #[.int .i64 t364, .int .i64 t365, .int .i64 t366, .bool t367, u374004] 24 (0, 0))) ∧ Aside0 (wc.heap[gb383]? = some (.cells #[.int .i64 t374, .int .i64 t375, .int .i64 t376, .bool t377, u384004] 24 (0, 0))) ∧ Aside0 (wc.heap[gb384]? = some (.cells #[.int .i64 a0_0, .int .i64 a0_1, .int .i64 a0_2, .bool a0_3, u385004] 24 (0, 0))) ∧ Aside0 (wc.heap[gb395]? = some (.cells #[.int .i64 t388, .int .i64 t389, .int .i64 t390, .bool t391, u396004] 24 (0, 0))) ∧ Aside0 (Below w.heap.size w wc))
  case first =>
    have H := HC36.out
    clear HC36
    by_cases c78 : (t392.length : Int) > 0
    rotate_left
    · rw [if_neg c78] at H
      have c78b0 : decide (0 < (t392.length : Int)) = false := decide_eq_false c78
      have c78b1 : decide (0 < t392.length) = false := decide_eq_false (by omega)
      clear c78
      (first | rw [c78b0] | rw [c78b1] | (simp only [i64_w, i32_w]; rw [c78b0]) | skip)
      have H' := Aside0.mk H
      clear H
      go_wp2
      go_meet
      case rel => exact ⟨_, (t368), (t378), (y385), (t392), (.slice Ao47 t368.length co47), (.slice Ao54 t378.length co54), (.slice Ao64 y385.length co64), (.slice Ao74 t392.length co74), H', ⟨by have := HJ5.out; first | omega | exact Nat.le_refl _⟩, ⟨by (with_reducible repeat (first | apply Kd.R_alloc | apply Kd.R_drewN | apply Kd.R_drew)); exact Kd.R_mono HO370.out (fun _ hk => ⟨hk.1.1.2, ⟨hk.1.2, hk.2⟩⟩)⟩, ⟨by (with_reducible repeat (first | apply Kd.R_alloc | apply Kd.R_drewN | apply Kd.R_drew)); exact Kd.R_mono HO380.out (fun _ hk => ⟨hk.1.1.2, ⟨hk.1.2, hk.2⟩⟩)⟩, ⟨by (with_reducible repeat (first | apply Kd.R_alloc | apply Kd.R_drewN | apply Kd.R_drew)); exact Kd.R_mono HO387.out (fun _ hk => ⟨hk.1.1, ⟨hk.1.2, hk.2⟩⟩)⟩, ⟨by (with_reducible repeat (first | apply Kd.R_alloc | apply Kd.R_drewN | apply Kd.R_drew)); exact Kd.R_mono HO394.out (fun _ hk => ⟨hk.1.1.2, ⟨hk.1.2, hk.2⟩⟩)⟩, ⟨gb_ BK355⟩, ⟨gb_ BK356⟩, ⟨gb_ BK373⟩, ⟨gb_ BK383⟩, ⟨gb_ BK384⟩, ⟨gb_ BK395⟩, ⟨gwl_ [gb355, gb356, gb373, gb383, gb384, gb395] HB ⟨GE355, GE356, GE373, GE383, GE384, GE395, ⟨⟩⟩⟩⟩
    rw [if_pos c78] at H
    have c78b0 : decide (0 < (t392.length : Int)) = true := decide_eq_true c78
    have c78b1 : decide (0 < t392.length) = true := decide_eq_true (by omega)
    clear c78
    (first | rw [c78b0] | rw [c78b1] | (simp only [i64_w, i32_w]; rw [c78b0]) | skip)
    by_cases c79 : 0 < (t392.length : Int)
    rotate_left
    · rw [if_neg c79] at H
      exact absurd H (by simp)
    rw [if_pos c79] at H
    have c79b0 : decide (0 < (t392.length : Int)) = true := decide_eq_true c79
    have c79b1 : decide (0 < t392.length) = true := decide_eq_true (by omega)
    clear c79
    obtain ⟨y397, hy397⟩ : ∃ y_ : List (S39), y_ = (t392.set (0 : Int).toNat (⟨(⟨#[111, 116, 104, 101, 114]⟩ : ByteArray), (rd_T39 t392 0).f1, (rd_T39 t392 0).f2⟩ : S39)) := ⟨_, rfl⟩
    replace H : (ravelinlaw18_ItemTells.j1 kj5 t360 t361 t362 t363 t371 t372 t381 t382 a0_0 a0_1 a0_2 a0_3 l0_4 a1_0 a1_1 a1_2 a1_3 l1_4 t364 t365 t366 t367 t368 t374 t375 t376 t377 t378 a0_0 a0_1 a0_2 a0_3 y385) = some r := by first | (rw [hy397]; with_reducible exact H) | (have H2_ := (Option.bind_some _ _).symm.trans H; rw [hy397]; with_reducible exact H2_) | (have H2_ := (Option.bind_some _ _).symm.trans H; with_reducible exact H2_) | with_reducible exact H | (rw [hy397]; exact H) | exact H
    have Ny397 := Aside0.mk hy397
    clear hy397
    have H' := Aside0.mk H
    clear H
    have hnb81 := NB395_355.out
    have hnc81 := NB355_395.out
    have hnb82 := NB395_356.out
    have hnc82 := NB356_395.out
    have hnb83 := NB395_373.out
    have hnc83 := NB373_395.out
    have hnb84 := NB395_383.out
    have hnc84 := NB383_395.out
    have hnb85 := NB395_384.out
    have hnc85 := NB384_395.out
    have hcz86_0 := bc0 BK395
    have hcz86_1 := bc1 BK395
    have hcz86_2 := bc2 BK395
    have hcz86_3 := bc3 BK395
    have hcz86_4 := bc4 BK395
    have hfz86_0 := bf_ BK395 0
    have hfz86_1 := bf_ BK395 1
    have hfz86_2 := bf_ BK395 2
    have hfz86_3 := bf_ BK395 3
    have hfz86_4 := bf_ BK395 4
    have p80 : 0 ≤ (0 : Int) := (by omega)
    have q80 : (0 : Int) < ((t392.length : Int) : Int) := of_decide_eq_true (by assumption)
    have qi80 : (0 < t392.length) = True := eq_true (by omega)
    obtain ⟨go80, co80, eo80, gb80, gl80, cl80, HG80⟩ := Kd.R_form HO394.out (by omega)
    (first | cases eo80 | (injection eo80 with ea_ en_ ec_; (first | subst ea_ | (injection ea_ with ea_; subst ea_)); subst ec_; clear en_))
    have GB80 := Aside0.mk gb80
    have GG80 := Aside0.mk HG80
    clear gb80 gl80 HG80
    obtain ⟨ce80, hcl80, hM80, hcc80, hfr80⟩ := Kd.R_elem HO394.out z39 (0 : Int) p80 q80
    obtain rfl := k39_openM hM80
    have hx80_0 : w76.cell? ⟨go80, (0 : Int).toNat * 3, none⟩ = some (.string ((rd_T39 t392 0).f0)) := hcc80 0 _ rfl
    have hx80_1 : w76.cell? ⟨go80, (0 : Int).toNat * 3 + 1, none⟩ = some (.bool ((rd_T39 t392 0).f1)) := hcc80 1 _ rfl
    have hx80_2 : w76.cell? ⟨go80, (0 : Int).toNat * 3 + 2, none⟩ = some (.string ((rd_T39 t392 0).f2)) := hcc80 2 _ rfl
    have hf80_0 : w76.frozen? ⟨go80, (0 : Int).toNat * 3, none⟩ = false := hfr80 0
    have hf80_1 : w76.frozen? ⟨go80, (0 : Int).toNat * 3 + 1, none⟩ = false := hfr80 1
    have hf80_2 : w76.frozen? ⟨go80, (0 : Int).toNat * 3 + 2, none⟩ = false := hfr80 2
    clear hcl80 hcc80 hfr80 hM80
    (try rw [show ((0 : Int)).toNat = 0 from rfl] at hx80_0)
    (try simp only [Nat.reduceMul, Nat.zero_mul, Nat.zero_add, Nat.reduceAdd] at hx80_0)
    (try rw [show ((0 : Int)).toNat = 0 from rfl] at hf80_0)
    (try simp only [Nat.reduceMul, Nat.zero_mul, Nat.zero_add, Nat.reduceAdd] at hf80_0)
    (try rw [show ((0 : Int)).toNat = 0 from rfl] at hx80_1)
    (try simp only [Nat.reduceMul, Nat.zero_mul, Nat.zero_add, Nat.reduceAdd] at hx80_1)
    (try rw [show ((0 : Int)).toNat = 0 from rfl] at hf80_1)
    (try simp only [Nat.reduceMul, Nat.zero_mul, Nat.zero_add, Nat.reduceAdd] at hf80_1)
    (try rw [show ((0 : Int)).toNat = 0 from rfl] at hx80_2)
    (try simp only [Nat.reduceMul, Nat.zero_mul, Nat.zero_add, Nat.reduceAdd] at hx80_2)
    (try rw [show ((0 : Int)).toNat = 0 from rfl] at hf80_2)
    (try simp only [Nat.reduceMul, Nat.zero_mul, Nat.zero_add, Nat.reduceAdd] at hf80_2)
    replace p80 := eq_true p80
    replace q80 := eq_true q80
    have n_ := Aside0.mk (Kd.R_mono (ok' := (fun k_ => some k_ ≠ (.slice Ao47 t368.length co47 : Value).ownBlock ∧ some k_ ≠ (.slice Ao54 t378.length co54 : Value).ownBlock ∧ some k_ ≠ (.slice Ao64 y385.length co64 : Value).ownBlock)) HO394.out (fun k_ hk => ⟨hk.1.1.2, ⟨hk.1.2, hk.2⟩⟩))
    clear HO394
    have HO394 := n_
    clear n_
    have HX87 := Aside0.mk (show Kd.R k39 39 w76 w.heap.size (fun k_ => some k_ ≠ (.slice Ao47 t368.length co47 : Value).ownBlock ∧ some k_ ≠ (.slice Ao54 t378.length co54 : Value).ownBlock ∧ some k_ ≠ (.slice Ao64 y385.length co64 : Value).ownBlock) (.slice (some ⟨go80, 0, none⟩) t392.length co74) t392 from (by (with_reducible repeat (first | apply Kd.R_alloc | apply Kd.R_drewN | apply Kd.R_drew)); exact HO394.out))
    obtain ⟨ce87, hcl87, hM87, hcc87, hfr87⟩ := Kd.R_elem HX87.out z39 (0 : Int) (by omega) (by have h_ : (0 : Int) < ((t392.length : Int) : Int) := of_decide_eq_true (by assumption); first | exact h_ | (have e_ := (Kd.R_reads' HO394.out).1; omega) | simpa using h_)
    obtain rfl := k39_openM hM87
    have HP87 := Kd.R_seg HX87.out (0 : Int) (by omega) (by have h_ : (0 : Int) < ((t392.length : Int) : Int) := of_decide_eq_true (by assumption); first | exact h_ | (have e_ := (Kd.R_reads' HO394.out).1; omega) | simpa using h_) (seg := [.string (⟨#[111, 116, 104, 101, 114]⟩ : ByteArray)]) (j := 0) hcl87 hcc87 (show 1 ≤ 3 from by decide) (x' := (⟨(⟨#[111, 116, 104, 101, 114]⟩ : ByteArray), (rd_T39 t392 0).f1, (rd_T39 t392 0).f2⟩ : S39)) (k39_mkM _ _ _ (⟨(⟨#[111, 116, 104, 101, 114]⟩ : ByteArray), (rd_T39 t392 0).f1, (rd_T39 t392 0).f2⟩ : S39) ) (fun _ hk => hk)
    have hx87_0 := hcc87 0 _ rfl
    (try simp only [show (k39).sz = 3 from rfl, Nat.mul_one, Nat.add_zero] at hx87_0)
    (try rw [show ((0 : Int)).toNat = 0 from rfl] at hx87_0)
    (try simp only [Nat.reduceMul, Nat.zero_mul, Nat.zero_add, Nat.reduceAdd] at hx87_0)
    have hf87_0 := hfr87 0
    (try simp only [show (k39).sz = 3 from rfl, Nat.mul_one, Nat.add_zero] at hf87_0)
    (try rw [show ((0 : Int)).toNat = 0 from rfl] at hf87_0)
    (try simp only [Nat.reduceMul, Nat.zero_mul, Nat.zero_add, Nat.reduceAdd] at hf87_0)
    clear hcl87 hcc87 hfr87 hM87
    go_wp2_with (first | ((with_reducible refine gate_store (t := 9) (p := 74) rfl ?_); refine store_event (t := 9) (p := 74) (v := ?vo_w88) (w1 := (w76.setCell ⟨go80, 0, none⟩ (.string (⟨#[111, 116, 104, 101, 114]⟩ : ByteArray)))) ?hg ?ho ?hn ?hr ?_; (case ho => rfl); (case hg => rfl); (case hn => rfl); (case hr => first | (go_simp; done) | (go_simp; rfl)); intro w88 hw; have hg : w76.grownBy w88 (some go80) := (by rw [hw]; exact HP87.2); have hp_ : Kd.R k39 39 w88 w.heap.size (fun k_ => some k_ ≠ (.slice Ao47 t368.length co47 : Value).ownBlock ∧ some k_ ≠ (.slice Ao54 t378.length co54 : Value).ownBlock ∧ some k_ ≠ (.slice Ao64 y385.length co64 : Value).ownBlock) (.slice (some ⟨go80, 0, none⟩) t392.length co74) y397 := (by rw [hw, Ny397.out]; exact HP87.1); clear HP87; have n0_ := Aside0.mk (blk_grown (g := gb355) (o := .cells #[.int .i64 a0_0, .int .i64 a0_1, .int .i64 a0_2, .bool a0_3, .slice A0_4 l0_4.length c0_4] 24 (0, 0)) (gb_ BK355) hg (Kd.R_ne HO394.out BK355.out (by decide))); have n1_ := Aside0.mk (blk_grown (g := gb356) (o := .cells #[.int .i64 a1_0, .int .i64 a1_1, .int .i64 a1_2, .bool a1_3, .slice A1_4 l1_4.length c1_4] 24 (0, 0)) (gb_ BK356) hg (Kd.R_ne HO394.out BK356.out (by decide))); have n2_ := Aside0.mk (Kd.R_after (v := (.slice (some ⟨go80, 0, none⟩) t392.length co74)) (v1 := (.slice (some ⟨go80, 0, none⟩) t392.length co74)) (ok := (fun k_ => some k_ ≠ (.slice Ao54 t378.length co54 : Value).ownBlock ∧ some k_ ≠ (.slice Ao64 y385.length co64 : Value).ownBlock)) (by (with_reducible repeat (first | apply Kd.R_alloc | apply Kd.R_drewN | apply Kd.R_drew)); exact Kd.R_mono HO370.out (fun _ hk => ⟨⟨hk.1.1.2, hk.1.2⟩, hk.2⟩)) hg (.inl rfl)); have n3_ := Aside0.mk (blk_grown (g := gb373) (o := .cells #[.int .i64 t364, .int .i64 t365, .int .i64 t366, .bool t367, .slice Ao47 t368.length co47] 24 (0, 0)) (gb_ BK373) hg (Kd.R_ne HO394.out BK373.out (by decide))); have n4_ := Aside0.mk (Kd.R_after (v := (.slice (some ⟨go80, 0, none⟩) t392.length co74)) (v1 := (.slice (some ⟨go80, 0, none⟩) t392.length co74)) (ok := (fun k_ => some k_ ≠ (.slice Ao47 t368.length co47 : Value).ownBlock ∧ some k_ ≠ (.slice Ao64 y385.length co64 : Value).ownBlock)) (by (with_reducible repeat (first | apply Kd.R_alloc | apply Kd.R_drewN | apply Kd.R_drew)); exact Kd.R_mono HO380.out (fun _ hk => ⟨⟨hk.1.1.2, hk.1.2⟩, hk.2⟩)) hg (.inl rfl)); have n5_ := Aside0.mk (blk_grown (g := gb383) (o := .cells #[.int .i64 t374, .int .i64 t375, .int .i64 t376, .bool t377, .slice Ao54 t378.length co54] 24 (0, 0)) (gb_ BK383) hg (Kd.R_ne HO394.out BK383.out (by decide))); have n6_ := Aside0.mk (blk_grown (g := gb384) (o := .cells #[.int .i64 a0_0, .int .i64 a0_1, .int .i64 a0_2, .bool a0_3, .slice Ao64 y385.length co64] 24 (0, 0)) (gb_ BK384) hg (Kd.R_ne HO394.out BK384.out (by decide))); have n7_ := Aside0.mk (Kd.R_after (v := (.slice (some ⟨go80, 0, none⟩) t392.length co74)) (v1 := (.slice (some ⟨go80, 0, none⟩) t392.length co74)) (ok := (fun k_ => some k_ ≠ (.slice Ao47 t368.length co47 : Value).ownBlock ∧ some k_ ≠ (.slice Ao54 t378.length co54 : Value).ownBlock)) (by (with_reducible repeat (first | apply Kd.R_alloc | apply Kd.R_drewN | apply Kd.R_drew)); exact HO387.out) hg (.inl rfl)); have n8_ := Aside0.mk (hp_); have n9_ := Aside0.mk (blk_grown (g := gb395) (o := .cells #[.int .i64 t388, .int .i64 t389, .int .i64 t390, .bool t391, .slice (some ⟨go80, 0, none⟩) t392.length co74] 24 (0, 0)) (gb_ BK395) hg (Kd.R_ne HO394.out BK395.out (by decide))); have n10_ := Aside0.mk ((by rw [hw]; exact below_set (HB.out) GB80.out : Below w.heap.size w w88)); clear BK355; clear BK356; clear HO370; clear BK373; clear HO380; clear BK383; clear BK384; clear HO387; clear HO394; clear BK395; clear HB; have BK355 := n0_; have BK356 := n1_; have HO370 := n2_; have BK373 := n3_; have HO380 := n4_; have BK383 := n5_; have BK384 := n6_; have HO387 := n7_; have HO394 := n8_; have BK395 := n9_; have HB := n10_; clear n0_ n1_ n2_ n3_ n4_ n5_ n6_ n7_ n8_ n9_ n10_; clear hg hw hp_))
    go_meet
    case rel => exact ⟨_, (t368), (t378), (y385), (y397), (.slice Ao47 t368.length co47), (.slice Ao54 t378.length co54), (.slice Ao64 y385.length co64), (.slice (some ⟨go80, 0, none⟩) t392.length co74), H', ⟨by have := HJ5.out; first | omega | exact Nat.le_refl _⟩, ⟨by (with_reducible repeat (first | apply Kd.R_alloc | apply Kd.R_drewN | apply Kd.R_drew)); exact Kd.R_mono HO370.out (fun _ hk => ⟨hk.1.1, ⟨hk.1.2, hk.2⟩⟩)⟩, ⟨by (with_reducible repeat (first | apply Kd.R_alloc | apply Kd.R_drewN | apply Kd.R_drew)); exact Kd.R_mono HO380.out (fun _ hk => ⟨hk.1.1, ⟨hk.1.2, hk.2⟩⟩)⟩, ⟨by (with_reducible repeat (first | apply Kd.R_alloc | apply Kd.R_drewN | apply Kd.R_drew)); exact Kd.R_mono HO387.out (fun _ hk => ⟨hk.1.1, ⟨hk.1.2, hk.2⟩⟩)⟩, ⟨by (with_reducible repeat (first | apply Kd.R_alloc | apply Kd.R_drewN | apply Kd.R_drew)); exact HO394.out⟩, ⟨gb_ BK355⟩, ⟨gb_ BK356⟩, ⟨gb_ BK373⟩, ⟨gb_ BK383⟩, ⟨gb_ BK384⟩, ⟨gb_ BK395⟩, ⟨gwl_ [gb355, gb356, gb373, gb383, gb384, gb395] HB ⟨GE355, GE356, GE373, GE383, GE384, GE395, ⟨⟩⟩⟩⟩
  clear HC36
  try clear c1
  try clear c2
  try clear p2
  try clear c3
  try clear c4
  try clear c5
  try clear c6
  try clear c7
  try clear c8
  try clear p8
  try clear q8
  try clear hx8
  try clear qi8
  try clear hf8
  try clear c9
  try clear c10
  try clear c11
  try clear c12
  try clear c13
  try clear c14
  try clear c19
  try clear c24
  try clear c27
  try clear c32
  try clear c35
  try clear c37
  try clear c44
  try clear c45
  try clear c50
  try clear c51
  try clear c52
  try clear c57
  try clear c58
  try clear c59
  try clear c60
  try clear c68
  try clear c69
  try clear c70
  try clear c71
  try clear c72
  try clear c78
  try clear c78b0
  try clear c78b1
  try clear c79
  try clear c79b0
  try clear c79b1
  try clear c80
  try clear p80
  try clear q80
  try clear hx80
  try clear qi80
  try clear hf80
  try clear c81
  try clear c82
  try clear c83
  try clear c84
  try clear c85
  try clear c87
  try clear hx87
  try clear hf87
  try clear hcz15_0
  try clear hcz15_1
  try clear hcz15_2
  try clear hcz15_3
  try clear hcz15_4
  try clear hcz17_0
  try clear hcz17_1
  try clear hcz17_2
  try clear hcz17_3
  try clear hcz17_4
  try clear hcz20_0
  try clear hcz20_1
  try clear hcz20_2
  try clear hcz20_3
  try clear hcz20_4
  try clear hcz22_0
  try clear hcz22_1
  try clear hcz22_2
  try clear hcz22_3
  try clear hcz22_4
  try clear hcz25_0
  try clear hcz25_1
  try clear hcz25_2
  try clear hcz25_3
  try clear hcz25_4
  try clear hcz38_0
  try clear hcz38_1
  try clear hcz38_2
  try clear hcz38_3
  try clear hcz38_4
  try clear hcz40_0
  try clear hcz40_1
  try clear hcz40_2
  try clear hcz40_3
  try clear hcz40_4
  try clear hcz46_0
  try clear hcz46_1
  try clear hcz46_2
  try clear hcz46_3
  try clear hcz46_4
  try clear hcz53_0
  try clear hcz53_1
  try clear hcz53_2
  try clear hcz53_3
  try clear hcz53_4
  try clear hcz55_0
  try clear hcz55_1
  try clear hcz55_2
  try clear hcz55_3
  try clear hcz55_4
  try clear hcz61_0
  try clear hcz61_1
  try clear hcz61_2
  try clear hcz61_3
  try clear hcz61_4
  try clear hcz62_0
  try clear hcz62_1
  try clear hcz62_2
  try clear hcz62_3
  try clear hcz62_4
  try clear hcz65_0
  try clear hcz65_1
  try clear hcz65_2
  try clear hcz65_3
  try clear hcz65_4
  try clear hcz73_0
  try clear hcz73_1
  try clear hcz73_2
  try clear hcz73_3
  try clear hcz73_4
  try clear hcz75_0
  try clear hcz75_1
  try clear hcz75_2
  try clear hcz75_3
  try clear hcz75_4
  try clear hcz77_0
  try clear hcz77_1
  try clear hcz77_2
  try clear hcz77_3
  try clear hcz77_4
  try clear hcz86_0
  try clear hcz86_1
  try clear hcz86_2
  try clear hcz86_3
  try clear hcz86_4
  try clear hfz15_0
  try clear hfz15_1
  try clear hfz15_2
  try clear hfz15_3
  try clear hfz15_4
  try clear hfz17_0
  try clear hfz17_1
  try clear hfz17_2
  try clear hfz17_3
  try clear hfz17_4
  try clear hfz20_0
  try clear hfz20_1
  try clear hfz20_2
  try clear hfz20_3
  try clear hfz20_4
  try clear hfz22_0
  try clear hfz22_1
  try clear hfz22_2
  try clear hfz22_3
  try clear hfz22_4
  try clear hfz25_0
  try clear hfz25_1
  try clear hfz25_2
  try clear hfz25_3
  try clear hfz25_4
  try clear hfz38_0
  try clear hfz38_1
  try clear hfz38_2
  try clear hfz38_3
  try clear hfz38_4
  try clear hfz40_0
  try clear hfz40_1
  try clear hfz40_2
  try clear hfz40_3
  try clear hfz40_4
  try clear hfz46_0
  try clear hfz46_1
  try clear hfz46_2
  try clear hfz46_3
  try clear hfz46_4
  try clear hfz53_0
  try clear hfz53_1
  try clear hfz53_2
  try clear hfz53_3
  try clear hfz53_4
  try clear hfz55_0
  try clear hfz55_1
  try clear hfz55_2
  try clear hfz55_3
  try clear hfz55_4
  try clear hfz61_0
  try clear hfz61_1
  try clear hfz61_2
  try clear hfz61_3
  try clear hfz61_4
  try clear hfz62_0
  try clear hfz62_1
  try clear hfz62_2
  try clear hfz62_3
  try clear hfz62_4
  try clear hfz65_0
  try clear hfz65_1
  try clear hfz65_2
  try clear hfz65_3
  try clear hfz65_4
  try clear hfz73_0
  try clear hfz73_1
  try clear hfz73_2
  try clear hfz73_3
  try clear hfz73_4
  try clear hfz75_0
  try clear hfz75_1
  try clear hfz75_2
  try clear hfz75_3
  try clear hfz75_4
  try clear hfz77_0
  try clear hfz77_1
  try clear hfz77_2
  try clear hfz77_3
  try clear hfz77_4
  try clear hfz86_0
  try clear hfz86_1
  try clear hfz86_2
  try clear hfz86_3
  try clear hfz86_4
  try clear hx80_0
  try clear hx80_1
  try clear hx80_2
  try clear hx87_0
  try clear p2
  try clear p80
  try clear q80
  obtain ⟨kq, x374004_35, x384004_35, x385004_35, x396004_35, u374004, u384004, u385004, u396004, HA, HJ35, HO_374004, HO_384004, HO_385004, HO_396004, BK355, BK356, BK373, BK383, BK384, BK395, HB⟩ := hcut
  cases kq with
  | zero => exact absurd HA.out (by simp [ravelinlaw18_ItemTells.j1])
  | succ kj35 => ?_
  have H := HA.out
  clear HA
  simp only [ravelinlaw18_ItemTells.j1] at H
  replace H := Option.bind_eq_some_iff.mp H
  obtain ⟨t398, A890, H⟩ := H
  try dsimp only at H
  have A89 := Aside0.mk A890
  clear A890
  replace H := Option.bind_eq_some_iff.mp H
  obtain ⟨t399, A900, H⟩ := H
  try dsimp only at H
  have A90 := Aside0.mk A900
  clear A900
  by_cases c91 : (t398 == t399) = true
  rotate_left
  · rw [if_neg c91] at H
    have c91b0 : (t398 == t399) = false := by simpa using c91
    (try (have c91b1 : decide (t398 = t399) = false := by simpa using c91))
    (try (have c91b2 : (t398 == t399) = false := by simpa using c91))
    (try (have c91b3 : ¬ (t398 = t399) := by simpa using c91))
    (try (have c91b4 : (t399) = !t398 := by have h_ := c91; revert h_; generalize t398 = u_; generalize t399 = v_; cases u_ <;> cases v_ <;> simp))
    clear c91
    exact absurd ((Option.some.inj H).trans HR_.out) (by decide)
  rw [if_pos c91] at H
  have c91b0 : (t398 == t399) = true := c91
  (try (have c91b1 : decide (t398 = t399) = true := by simpa using c91))
  (try (have c91b2 : (t398 == t399) = true := by simpa using c91))
  (try (have c91b3 : (t399) = t398 := by have h_ := c91; revert h_; generalize t398 = u_; generalize t399 = v_; cases u_ <;> cases v_ <;> simp))
  clear c91
  replace H := Option.bind_eq_some_iff.mp H
  obtain ⟨t400, A920, H⟩ := H
  try dsimp only at H
  have A92 := Aside0.mk A920
  clear A920
  replace H := Option.bind_eq_some_iff.mp H
  obtain ⟨t401, A930, H⟩ := H
  try dsimp only at H
  have A93 := Aside0.mk A930
  clear A930
  by_cases c94 : (t400 == t401) = true
  rotate_left
  · rw [if_neg c94] at H
    have c94b0 : (t400 == t401) = false := by simpa using c94
    (try (have c94b1 : decide (t400 = t401) = false := by simpa using c94))
    (try (have c94b2 : (t400 == t401) = false := by simpa using c94))
    (try (have c94b3 : ¬ (t400 = t401) := by simpa using c94))
    (try (have c94b4 : (t401) = !t400 := by have h_ := c94; revert h_; generalize t400 = u_; generalize t401 = v_; cases u_ <;> cases v_ <;> simp))
    clear c94
    exact absurd ((Option.some.inj H).trans HR_.out) (by decide)
  rw [if_pos c94] at H
  have c94b0 : (t400 == t401) = true := c94
  (try (have c94b1 : decide (t400 = t401) = true := by simpa using c94))
  (try (have c94b2 : (t400 == t401) = true := by simpa using c94))
  (try (have c94b3 : (t401) = t400 := by have h_ := c94; revert h_; generalize t400 = u_; generalize t401 = v_; cases u_ <;> cases v_ <;> simp))
  clear c94
  by_cases c95 : t360.toList = t362.toList
  rotate_left
  · rw [if_neg c95] at H
    have c95b0 : (t360.toList == t362.toList) = false := beq_eq_false_iff_ne.mpr c95
    have c95b1 : (t360.toList != t362.toList) = true := bne_iff_ne.mpr c95
    exact absurd ((Option.some.inj H).trans HR_.out) (by decide)
  rw [if_pos c95] at H
  have c95b0 : (t360.toList == t362.toList) = true := beq_iff_eq.mpr c95
  have c95b1 : (t360.toList != t362.toList) = false := bne_eq_false_iff_eq.mpr c95
  clear c95
  by_cases c96 : ((t361 == 0) == t363) = true
  rotate_left
  · rw [if_neg c96] at H
    have c96b0 : ((t361 == 0) == t363) = false := by simpa using c96
    (try (have c96b1 : decide ((t361 == 0) = t363) = false := by simpa using c96))
    (try (have c96b2 : ((t361 == 0) == t363) = false := by simpa using c96))
    (try (have c96b3 : ¬ ((t361 == 0) = t363) := by simpa using c96))
    (try (have c96b4 : (t363) = !(t361 == 0) := by have h_ := c96; revert h_; generalize (t361 == 0) = u_; generalize t363 = v_; cases u_ <;> cases v_ <;> simp))
    clear c96
    exact absurd ((Option.some.inj H).trans HR_.out) (by decide)
  rw [if_pos c96] at H
  have c96b0 : ((t361 == 0) == t363) = true := c96
  (try (have c96b1 : decide ((t361 == 0) = t363) = true := by simpa using c96))
  (try (have c96b2 : ((t361 == 0) == t363) = true := by simpa using c96))
  (try (have c96b3 : (t363) = (t361 == 0) := by have h_ := c96; revert h_; generalize (t361 == 0) = u_; generalize t363 = v_; cases u_ <;> cases v_ <;> simp))
  clear c96
  by_cases c97 : t361 = 0
  · rw [if_pos c97] at H
    have c97b0 : (t361 == 0) = true := beq_iff_eq.mpr c97
    have c97b1 : (t361 != 0) = false := bne_eq_false_iff_eq.mpr c97
    clear c97
    replace H := Option.bind_eq_some_iff.mp H
    obtain ⟨t402, A980, H⟩ := H
    try dsimp only at H
    have A98 := Aside0.mk A980
    clear A980
    by_cases c99 : t402 = true
    rotate_left
    · replace c99 := Bool.eq_false_iff.mpr c99
      subst c99
      have H1 : (some false) = some r := by rw [if_neg (show ¬ (false = true) by decide)] at H; exact H
      clear H
      have H := H1
      clear H1
      exact absurd ((Option.some.inj H).trans HR_.out) (by decide)
    subst c99
    have H1 : (if t371 = t381 then (if t372 = t382 then ((ravelinref18_Same.f kj35 a0_0 a0_1 a0_2 a0_3 x385004_35 a0_0 a0_1 a0_2 a0_3 l0_4).bind fun t403 => (some t403)) else (some false)) else (some false)) = some r := by rw [if_pos rfl] at H; exact H
    clear H
    have H := H1
    clear H1
    by_cases c100 : t371 = t381
    rotate_left
    · rw [if_neg c100] at H
      have c100b0 : (t371 == t381) = false := beq_eq_false_iff_ne.mpr c100
      have c100b1 : (t371 != t381) = true := bne_iff_ne.mpr c100
      exact absurd ((Option.some.inj H).trans HR_.out) (by decide)
    rw [if_pos c100] at H
    have c100b0 : (t371 == t381) = true := beq_iff_eq.mpr c100
    have c100b1 : (t371 != t381) = false := bne_eq_false_iff_eq.mpr c100
    clear c100
    by_cases c101 : t372 = t382
    rotate_left
    · rw [if_neg c101] at H
      have c101b0 : (t372 == t382) = false := beq_eq_false_iff_ne.mpr c101
      have c101b1 : (t372 != t382) = true := bne_iff_ne.mpr c101
      exact absurd ((Option.some.inj H).trans HR_.out) (by decide)
    rw [if_pos c101] at H
    have c101b0 : (t372 == t382) = true := beq_iff_eq.mpr c101
    have c101b1 : (t372 != t382) = false := bne_eq_false_iff_eq.mpr c101
    clear c101
    replace H := Option.bind_eq_some_iff.mp H
    obtain ⟨t403, A1020, H⟩ := H
    try dsimp only at H
    have A102 := Aside0.mk A1020
    clear A1020
    obtain rfl := Option.some.inj H
    try go_wp2
    have n0_ := Aside0.mk (Kd.R_drew HO_374004.out)
    have n1_ := Aside0.mk (Kd.R_drew HO_384004.out)
    have n2_ := Aside0.mk (Kd.R_drew HO_385004.out)
    have n3_ := Aside0.mk (Kd.R_drew HO_396004.out)
    have n4_ := Aside0.mk (blk_drew BK355.out)
    have n5_ := Aside0.mk (blk_drew BK356.out)
    have n6_ := Aside0.mk (blk_drew BK373.out)
    have n7_ := Aside0.mk (blk_drew BK383.out)
    have n8_ := Aside0.mk (blk_drew BK384.out)
    have n9_ := Aside0.mk (blk_drew BK395.out)
    have n10_ := Aside0.mk (below_drew1 HB.out)
    clear HO_374004
    clear HO_384004
    clear HO_385004
    clear HO_396004
    clear BK355
    clear BK356
    clear BK373
    clear BK383
    clear BK384
    clear BK395
    clear HB
    have HO_374004 := n0_
    have HO_384004 := n1_
    have HO_385004 := n2_
    have HO_396004 := n3_
    have BK355 := n4_
    have BK356 := n5_
    have BK373 := n6_
    have BK383 := n7_
    have BK384 := n8_
    have BK395 := n9_
    have HB := n10_
    clear n0_ n1_ n2_ n3_ n4_ n5_ n6_ n7_ n8_ n9_ n10_
    refine start_ (n := 54) (S := fun w' => w'.cell? ⟨gb355, 0, none⟩ = some (.int .i64 a0_0) ∧ w'.cell? ⟨gb355, 1, none⟩ = some (.int .i64 a0_1) ∧ w'.cell? ⟨gb355, 2, none⟩ = some (.int .i64 a0_2) ∧ w'.cell? ⟨gb355, 3, none⟩ = some (.bool a0_3) ∧ w'.cell? ⟨gb355, 4, none⟩ = some (.slice A0_4 l0_4.length c0_4) ∧ w'.cell? ⟨gb356, 0, none⟩ = some (.int .i64 a1_0) ∧ w'.cell? ⟨gb356, 1, none⟩ = some (.int .i64 a1_1) ∧ w'.cell? ⟨gb356, 2, none⟩ = some (.int .i64 a1_2) ∧ w'.cell? ⟨gb356, 3, none⟩ = some (.bool a1_3) ∧ w'.cell? ⟨gb356, 4, none⟩ = some (.slice A1_4 l1_4.length c1_4) ∧ w'.cell? ⟨gb373, 0, none⟩ = some (.int .i64 t364) ∧ w'.cell? ⟨gb373, 1, none⟩ = some (.int .i64 t365) ∧ w'.cell? ⟨gb373, 2, none⟩ = some (.int .i64 t366) ∧ w'.cell? ⟨gb373, 3, none⟩ = some (.bool t367) ∧ w'.cell? ⟨gb373, 4, none⟩ = some (u374004) ∧ w'.cell? ⟨gb383, 0, none⟩ = some (.int .i64 t374) ∧ w'.cell? ⟨gb383, 1, none⟩ = some (.int .i64 t375) ∧ w'.cell? ⟨gb383, 2, none⟩ = some (.int .i64 t376) ∧ w'.cell? ⟨gb383, 3, none⟩ = some (.bool t377) ∧ w'.cell? ⟨gb383, 4, none⟩ = some (u384004) ∧ w'.cell? ⟨gb384, 0, none⟩ = some (.int .i64 a0_0) ∧ w'.cell? ⟨gb384, 1, none⟩ = some (.int .i64 a0_1) ∧ w'.cell? ⟨gb384, 2, none⟩ = some (.int .i64 a0_2) ∧ w'.cell? ⟨gb384, 3, none⟩ = some (.bool a0_3) ∧ w'.cell? ⟨gb384, 4, none⟩ = some (u385004)) (ds := []) mkPx18_0 (by kernel_rfl) rfl rfl ⟨bc0 BK355, bc1 BK355, bc2 BK355, bc3 BK355, bc4 BK355, bc0 BK356, bc1 BK356, bc2 BK356, bc3 BK356, bc4 BK356, bc0 BK373, bc1 BK373, bc2 BK373, bc3 BK373, bc4 BK373, bc0 BK383, bc1 BK383, bc2 BK383, bc3 BK383, bc4 BK383, bc0 BK384, bc1 BK384, bc2 BK384, bc3 BK384, bc4 BK384⟩ (fun hHeld => ?_); refine with_tabW ravelinlaw18_ItemTells.tab16 ravelinlaw18_ItemTells.bits16 (fun HT_ HW_ => ?_)
    generalize wc.drew = w103 at HO_374004 HO_384004 HO_385004 HO_396004 BK355 BK356 BK373 BK383 BK384 BK395 HB hHeld ⊢
    refine take_ (i := 0) (N := some 75) (v := ?_) (a' := ?_) mkPx18_1 rfl rfl (take_ofW HT_.out HW_.out (by kernel_rfl)) (fun _ _ _ h => h) (Or.inl ⟨by rfl, ?_⟩) hHeld ?_ ?_
    rotate_left
    · rintro w' ⟨s0, s1, s2, s3, s4, s5, s6, s7, s8, s9, s10, s11, s12, s13, s14, s15, s16, s17, s18, s19, s20, s21, s22, s23, s24⟩
      go_simp
      with_reducible rfl
    rotate_left
    · simp only [Act.put, lists_, i64_w, i32_w]
      rfl
    refine take_ (i := 2) (N := some 77) (v := ?_) (a' := ?_) mkPx18_2 rfl rfl (take_ofW HT_.out HW_.out (by kernel_rfl)) (fun _ _ _ h => h) (Or.inl ⟨by rfl, ?_⟩) hHeld ?_ ?_
    rotate_left
    · rintro w' ⟨s0, s1, s2, s3, s4, s5, s6, s7, s8, s9, s10, s11, s12, s13, s14, s15, s16, s17, s18, s19, s20, s21, s22, s23, s24⟩
      go_simp
      with_reducible rfl
    rotate_left
    · simp only [Act.put, lists_, i64_w, i32_w]
      rfl
    refine one_ (i := 1) (N := some 76) mkPx18_3 rfl rfl (one_of HT_.out (by kernel_rfl)) (by decide) (fun K hK => ?_)
    refine goes_ Try.func15 (by kernel_rfl) rfl #[.agg #[.int .i64 a0_0, .int .i64 a0_1, .int .i64 a0_2, .bool a0_3, .slice A0_4 l0_4.length c0_4]] (by rfl) rfl rfl (by (try simp only [maps_]); first | done | rfl) ?_
    with_reducible refine (item_Is.calls kj35 a0_0 a0_1 a0_2 a0_3 _ _ l0_4 t398 _ ?side1 ?side2 A89.out).mono ?_
    (case side1 => exact cb_ HR0_4 HB)
    (case side2 => exact HC0_4.out)
    rintro e w104 ⟨rfl, hb⟩
    refine ⟨_, rfl, ?_⟩
    have n0_ := rb_ HO_374004 hb
    have n1_ := rb_ HO_384004 hb
    have n2_ := rb_ HO_385004 hb
    have n3_ := rb_ HO_396004 hb
    have n4_ := bb_ BK355 hb
    have n5_ := bb_ BK356 hb
    have n6_ := bb_ BK373 hb
    have n7_ := bb_ BK383 hb
    have n8_ := bb_ BK384 hb
    have n9_ := bb_ BK395 hb
    have n10_ := bl_ [gb355, gb356, gb373, gb383, gb384, gb395] HB ⟨GE355, GE356, GE373, GE383, GE384, GE395, ⟨⟩⟩ hb
    clear HO_374004
    clear HO_384004
    clear HO_385004
    clear HO_396004
    clear BK355
    clear BK356
    clear BK373
    clear BK383
    clear BK384
    clear BK395
    clear HB
    have HO_374004 := n0_
    have HO_384004 := n1_
    have HO_385004 := n2_
    have HO_396004 := n3_
    have BK355 := n4_
    have BK356 := n5_
    have BK373 := n6_
    have BK383 := n7_
    have BK384 := n8_
    have BK395 := n9_
    have HB := n10_
    clear n0_ n1_ n2_ n3_ n4_ n5_ n6_ n7_ n8_ n9_ n10_
    (try clear hb)
    (try clear hb2)
    (try clear hk)
    (try clear hi)
    refine hK.out _ _ ⟨bc0 BK355, bc1 BK355, bc2 BK355, bc3 BK355, bc4 BK355, bc0 BK356, bc1 BK356, bc2 BK356, bc3 BK356, bc4 BK356, bc0 BK373, bc1 BK373, bc2 BK373, bc3 BK373, bc4 BK373, bc0 BK383, bc1 BK383, bc2 BK383, bc3 BK383, bc4 BK383, bc0 BK384, bc1 BK384, bc2 BK384, bc3 BK384, bc4 BK384⟩ (fun hHeld => ?_)
    clear hK K
    refine norm_ (a' := ?_) ?_ ?_
    rotate_left
    · show Act.put _ (some 76) _ = _
      simp only [Act.put, lists_, i64_w, i32_w]
      rfl
    refine one_ (i := 3) (N := some 78) mkPx18_4 rfl rfl (one_of HT_.out (by kernel_rfl)) (by decide) (fun K hK => ?_)
    refine goes_ Try.func16 (by kernel_rfl) rfl #[.agg #[.int .i64 a0_0, .int .i64 a0_1, .int .i64 a0_2, .bool a0_3, .slice A0_4 l0_4.length c0_4]] (by rfl) rfl rfl (by (try simp only [maps_]); first | done | rfl) ?_
    with_reducible refine (ravelinref18_Is.calls kj35 a0_0 a0_1 a0_2 a0_3 _ _ l0_4 t399 _ ?side1 ?side2 A90.out).mono ?_
    (case side1 => exact cb_ HR0_4 HB)
    (case side2 => exact HC0_4.out)
    rintro e w105 ⟨rfl, hb⟩
    refine ⟨_, rfl, ?_⟩
    have n0_ := rb_ HO_374004 hb
    have n1_ := rb_ HO_384004 hb
    have n2_ := rb_ HO_385004 hb
    have n3_ := rb_ HO_396004 hb
    have n4_ := bb_ BK355 hb
    have n5_ := bb_ BK356 hb
    have n6_ := bb_ BK373 hb
    have n7_ := bb_ BK383 hb
    have n8_ := bb_ BK384 hb
    have n9_ := bb_ BK395 hb
    have n10_ := bl_ [gb355, gb356, gb373, gb383, gb384, gb395] HB ⟨GE355, GE356, GE373, GE383, GE384, GE395, ⟨⟩⟩ hb
    clear HO_374004
    clear HO_384004
    clear HO_385004
    clear HO_396004
    clear BK355
    clear BK356
    clear BK373
    clear BK383
    clear BK384
    clear BK395
    clear HB
    have HO_374004 := n0_
    have HO_384004 := n1_
    have HO_385004 := n2_
    have HO_396004 := n3_
    have BK355 := n4_
    have BK356 := n5_
    have BK373 := n6_
    have BK383 := n7_
    have BK384 := n8_
    have BK395 := n9_
    have HB := n10_
    clear n0_ n1_ n2_ n3_ n4_ n5_ n6_ n7_ n8_ n9_ n10_
    (try clear hb)
    (try clear hb2)
    (try clear hk)
    (try clear hi)
    refine hK.out _ _ ⟨bc0 BK355, bc1 BK355, bc2 BK355, bc3 BK355, bc4 BK355, bc0 BK356, bc1 BK356, bc2 BK356, bc3 BK356, bc4 BK356, bc0 BK373, bc1 BK373, bc2 BK373, bc3 BK373, bc4 BK373, bc0 BK383, bc1 BK383, bc2 BK383, bc3 BK383, bc4 BK383, bc0 BK384, bc1 BK384, bc2 BK384, bc3 BK384, bc4 BK384⟩ (fun hHeld => ?_)
    clear hK K
    refine norm_ (a' := ?_) ?_ ?_
    rotate_left
    · show Act.put _ (some 78) _ = _
      simp only [Act.put, lists_, i64_w, i32_w]
      rfl
    refine pu_ 4 (some 79) mkPx18_5 HT_ ?_ rfl rfl (by kernel_rfl) (fun _ _ _ h => h) (Or.inl ⟨by rfl, ?_⟩) ?_ ?_ ?_
    rotate_left
    · intro w'
      go_simp
      with_reducible rfl
    rotate_left
    · simp only [Act.put, lists_, i64_w, i32_w]
      rfl
    refine pu_ 5 (some 80) mkPx18_6 HT_ ?_ rfl rfl (by kernel_rfl) (fun _ _ _ h => h) (Or.inl ⟨by rfl, ?_⟩) ?_ ?_ ?_
    rotate_left
    · intro w'
      go_simp
      with_reducible rfl
    rotate_left
    · simp only [Act.put, lists_, i64_w, i32_w]
      rfl
    refine take_ (i := 6) (N := some 81) (v := ?_) (a' := ?_) mkPx18_7 rfl rfl (take_ofW HT_.out HW_.out (by kernel_rfl)) (fun _ _ _ h => h) (Or.inl ⟨by rfl, ?_⟩) hHeld ?_ ?_
    rotate_left
    · rintro w' ⟨s0, s1, s2, s3, s4, s5, s6, s7, s8, s9, s10, s11, s12, s13, s14, s15, s16, s17, s18, s19, s20, s21, s22, s23, s24⟩
      go_simp
      with_reducible rfl
    rotate_left
    · simp only [Act.put, lists_, i64_w, i32_w]
      rfl
    refine take_ (i := 7) (N := some 82) (v := ?_) (a' := ?_) mkPx18_8 rfl rfl (take_ofW HT_.out HW_.out (by kernel_rfl)) (fun _ _ _ h => h) (Or.inl ⟨by rfl, ?_⟩) hHeld ?_ ?_
    rotate_left
    · rintro w' ⟨s0, s1, s2, s3, s4, s5, s6, s7, s8, s9, s10, s11, s12, s13, s14, s15, s16, s17, s18, s19, s20, s21, s22, s23, s24⟩
      go_simp
      with_reducible rfl
    rotate_left
    · simp only [Act.put, lists_, i64_w, i32_w]
      rfl
    refine take_ (i := 9) (N := some 84) (v := ?_) (a' := ?_) mkPx18_9 rfl rfl (take_ofW HT_.out HW_.out (by kernel_rfl)) (fun _ _ _ h => h) (Or.inl ⟨by rfl, ?_⟩) hHeld ?_ ?_
    rotate_left
    · rintro w' ⟨s0, s1, s2, s3, s4, s5, s6, s7, s8, s9, s10, s11, s12, s13, s14, s15, s16, s17, s18, s19, s20, s21, s22, s23, s24⟩
      go_simp
      with_reducible rfl
    rotate_left
    · simp only [Act.put, lists_, i64_w, i32_w]
      rfl
    refine take_ (i := 10) (N := some 85) (v := ?_) (a' := ?_) mkPx18_10 rfl rfl (take_ofW HT_.out HW_.out (by kernel_rfl)) (fun _ _ _ h => h) (Or.inl ⟨by rfl, ?_⟩) hHeld ?_ ?_
    rotate_left
    · rintro w' ⟨s0, s1, s2, s3, s4, s5, s6, s7, s8, s9, s10, s11, s12, s13, s14, s15, s16, s17, s18, s19, s20, s21, s22, s23, s24⟩
      go_simp
      with_reducible rfl
    rotate_left
    · simp only [Act.put, lists_, i64_w, i32_w]
      rfl
    refine one_ (i := 8) (N := some 83) mkPx18_11 rfl rfl (one_of HT_.out (by kernel_rfl)) (by decide) (fun K hK => ?_)
    refine goes_ Try.func17 (by kernel_rfl) rfl #[.agg #[.int .i64 a0_0, .int .i64 a0_1, .int .i64 a0_2, .bool a0_3, .slice A0_4 l0_4.length c0_4], .agg #[.int .i64 a1_0, .int .i64 a1_1, .int .i64 a1_2, .bool a1_3, .slice A1_4 l1_4.length c1_4]] (by rfl) rfl rfl (by (try simp only [maps_]); first | done | rfl) ?_
    with_reducible refine (item_Same.calls kj35 a0_0 a0_1 a0_2 a0_3 _ _ l0_4 a1_0 a1_1 a1_2 a1_3 _ _ l1_4 t400 _ ?side1 ?side2 ?side3 ?side4 A92.out).mono ?_
    (case side1 => exact cb_ HR0_4 HB)
    (case side2 => exact HC0_4.out)
    (case side3 => exact cb_ HR1_4 HB)
    (case side4 => exact HC1_4.out)
    rintro e w106 ⟨rfl, hb⟩
    refine ⟨_, rfl, ?_⟩
    have n0_ := rb_ HO_374004 hb
    have n1_ := rb_ HO_384004 hb
    have n2_ := rb_ HO_385004 hb
    have n3_ := rb_ HO_396004 hb
    have n4_ := bb_ BK355 hb
    have n5_ := bb_ BK356 hb
    have n6_ := bb_ BK373 hb
    have n7_ := bb_ BK383 hb
    have n8_ := bb_ BK384 hb
    have n9_ := bb_ BK395 hb
    have n10_ := bl_ [gb355, gb356, gb373, gb383, gb384, gb395] HB ⟨GE355, GE356, GE373, GE383, GE384, GE395, ⟨⟩⟩ hb
    clear HO_374004
    clear HO_384004
    clear HO_385004
    clear HO_396004
    clear BK355
    clear BK356
    clear BK373
    clear BK383
    clear BK384
    clear BK395
    clear HB
    have HO_374004 := n0_
    have HO_384004 := n1_
    have HO_385004 := n2_
    have HO_396004 := n3_
    have BK355 := n4_
    have BK356 := n5_
    have BK373 := n6_
    have BK383 := n7_
    have BK384 := n8_
    have BK395 := n9_
    have HB := n10_
    clear n0_ n1_ n2_ n3_ n4_ n5_ n6_ n7_ n8_ n9_ n10_
    (try clear hb)
    (try clear hb2)
    (try clear hk)
    (try clear hi)
    refine hK.out _ _ ⟨bc0 BK355, bc1 BK355, bc2 BK355, bc3 BK355, bc4 BK355, bc0 BK356, bc1 BK356, bc2 BK356, bc3 BK356, bc4 BK356, bc0 BK373, bc1 BK373, bc2 BK373, bc3 BK373, bc4 BK373, bc0 BK383, bc1 BK383, bc2 BK383, bc3 BK383, bc4 BK383, bc0 BK384, bc1 BK384, bc2 BK384, bc3 BK384, bc4 BK384⟩ (fun hHeld => ?_)
    clear hK K
    refine norm_ (a' := ?_) ?_ ?_
    rotate_left
    · show Act.put _ (some 83) _ = _
      simp only [Act.put, lists_, i64_w, i32_w]
      rfl
    refine one_ (i := 11) (N := some 86) mkPx18_12 rfl rfl (one_of HT_.out (by kernel_rfl)) (by decide) (fun K hK => ?_)
    refine goes_ Try.func14 (by kernel_rfl) rfl #[.agg #[.int .i64 a0_0, .int .i64 a0_1, .int .i64 a0_2, .bool a0_3, .slice A0_4 l0_4.length c0_4], .agg #[.int .i64 a1_0, .int .i64 a1_1, .int .i64 a1_2, .bool a1_3, .slice A1_4 l1_4.length c1_4]] (by rfl) rfl rfl (by (try simp only [maps_]); first | done | rfl) ?_
    with_reducible refine (ravelinref18_Same.calls kj35 a0_0 a0_1 a0_2 a0_3 _ _ l0_4 a1_0 a1_1 a1_2 a1_3 _ _ l1_4 t401 _ ?side1 ?side2 ?side3 ?side4 A93.out).mono ?_
    (case side1 => exact cb_ HR0_4 HB)
    (case side2 => exact HC0_4.out)
    (case side3 => exact cb_ HR1_4 HB)
    (case side4 => exact HC1_4.out)
    rintro e w107 ⟨rfl, hb⟩
    refine ⟨_, rfl, ?_⟩
    have n0_ := rb_ HO_374004 hb
    have n1_ := rb_ HO_384004 hb
    have n2_ := rb_ HO_385004 hb
    have n3_ := rb_ HO_396004 hb
    have n4_ := bb_ BK355 hb
    have n5_ := bb_ BK356 hb
    have n6_ := bb_ BK373 hb
    have n7_ := bb_ BK383 hb
    have n8_ := bb_ BK384 hb
    have n9_ := bb_ BK395 hb
    have n10_ := bl_ [gb355, gb356, gb373, gb383, gb384, gb395] HB ⟨GE355, GE356, GE373, GE383, GE384, GE395, ⟨⟩⟩ hb
    clear HO_374004
    clear HO_384004
    clear HO_385004
    clear HO_396004
    clear BK355
    clear BK356
    clear BK373
    clear BK383
    clear BK384
    clear BK395
    clear HB
    have HO_374004 := n0_
    have HO_384004 := n1_
    have HO_385004 := n2_
    have HO_396004 := n3_
    have BK355 := n4_
    have BK356 := n5_
    have BK373 := n6_
    have BK383 := n7_
    have BK384 := n8_
    have BK395 := n9_
    have HB := n10_
    clear n0_ n1_ n2_ n3_ n4_ n5_ n6_ n7_ n8_ n9_ n10_
    (try clear hb)
    (try clear hb2)
    (try clear hk)
    (try clear hi)
    obtain ⟨Ao108, co108, eo108⟩ := Kd.R_slice HO_374004.out
    (first | subst eo108 | (injection eo108 with f1_ f2_ f3_; have f4_ := f1_.symm; have f5_ := f3_.symm; clear f1_ f2_ f3_; subst f4_; subst f5_))
    obtain ⟨Ao109, co109, eo109⟩ := Kd.R_slice HO_384004.out
    (first | subst eo109 | (injection eo109 with f1_ f2_ f3_; have f4_ := f1_.symm; have f5_ := f3_.symm; clear f1_ f2_ f3_; subst f4_; subst f5_))
    refine hK.out _ _ ⟨bc0 BK355, bc1 BK355, bc2 BK355, bc3 BK355, bc4 BK355, bc0 BK356, bc1 BK356, bc2 BK356, bc3 BK356, bc4 BK356, bc0 BK373, bc1 BK373, bc2 BK373, bc3 BK373, bc4 BK373, bc0 BK383, bc1 BK383, bc2 BK383, bc3 BK383, bc4 BK383, bc0 BK384, bc1 BK384, bc2 BK384, bc3 BK384, bc4 BK384⟩ (fun hHeld => ?_)
    clear hK K
    refine norm_ (a' := ?_) ?_ ?_
    rotate_left
    · show Act.put _ (some 86) _ = _
      simp only [Act.put, lists_, i64_w, i32_w]
      rfl
    refine pu_ 12 (some 87) mkPx18_13 HT_ ?_ rfl rfl (by kernel_rfl) (fun _ _ _ h => h) (Or.inl ⟨by rfl, ?_⟩) ?_ ?_ ?_
    rotate_left
    · intro w'
      go_simp
      with_reducible rfl
    rotate_left
    · simp only [Act.put, lists_, i64_w, i32_w]
      rfl
    refine pu_ 13 (some 88) mkPx18_14 HT_ ?_ rfl rfl (by kernel_rfl) (fun _ _ _ h => h) (Or.inl ⟨by rfl, ?_⟩) ?_ ?_ ?_
    rotate_left
    · intro w'
      go_simp
      with_reducible rfl
    rotate_left
    · simp only [Act.put, lists_, i64_w, i32_w]
      rfl
    refine pu_ 14 (some 89) mkPx18_15 HT_ ?_ rfl rfl (by kernel_rfl) (fun _ _ _ h => h) (Or.inl ⟨by rfl, ?_⟩) ?_ ?_ ?_
    rotate_left
    · intro w'
      go_simp
      with_reducible rfl
    rotate_left
    · simp only [Act.put, lists_, i64_w, i32_w]
      rfl
    refine pu_ 15 (some 90) mkPx18_16 HT_ ?_ rfl rfl (by kernel_rfl) (fun _ _ _ h => h) (Or.inl ⟨by rfl, ?_⟩) ?_ ?_ ?_
    rotate_left
    · intro w'
      go_simp
      with_reducible rfl
    rotate_left
    · simp only [Act.put, lists_, i64_w, i32_w]
      rfl
    refine pu_ 16 (some 91) mkPx18_17 HT_ ?_ rfl rfl (by kernel_rfl) (fun _ _ _ h => h) (Or.inl ⟨by rfl, ?_⟩) ?_ ?_ ?_
    rotate_left
    · intro w'
      go_simp
      with_reducible rfl
    rotate_left
    · simp only [Act.put, lists_, i64_w, i32_w]
      rfl
    refine pu_ 17 (some 92) mkPx18_18 HT_ ?_ rfl rfl (by kernel_rfl) (fun _ _ _ h => h) (Or.inl ⟨by rfl, ?_⟩) ?_ ?_ ?_
    rotate_left
    · intro w'
      go_simp
      with_reducible rfl
    rotate_left
    · simp only [Act.put, lists_, i64_w, i32_w]
      rfl
    refine pu_ 18 (some 93) mkPx18_19 HT_ ?_ rfl rfl (by kernel_rfl) (fun _ _ _ h => h) (Or.inl ⟨by rfl, ?_⟩) ?_ ?_ ?_
    rotate_left
    · intro w'
      go_simp
      with_reducible rfl
    rotate_left
    · simp only [Act.put, lists_, i64_w, i32_w]
      rfl
    refine pu_ 19 (some 94) mkPx18_20 HT_ ?_ rfl rfl (by kernel_rfl) (fun _ _ _ h => h) (Or.inl ⟨by rfl, ?_⟩) ?_ ?_ ?_
    rotate_left
    · intro w'
      go_simp
      with_reducible rfl
    rotate_left
    · simp only [Act.put, lists_, i64_w, i32_w]
      rfl
    refine pu_ 20 (some 95) mkPx18_21 HT_ ?_ rfl rfl (by kernel_rfl) (fun _ _ _ h => h) (Or.inl ⟨by rfl, ?_⟩) ?_ ?_ ?_
    rotate_left
    · intro w'
      go_simp
      with_reducible rfl
    rotate_left
    · simp only [Act.put, lists_, i64_w, i32_w]
      rfl
    refine pu_ 21 (some 96) mkPx18_22 HT_ ?_ rfl rfl (by kernel_rfl) (fun _ _ _ h => h) (Or.inl ⟨by rfl, ?_⟩) ?_ ?_ ?_
    rotate_left
    · intro w'
      go_simp
      with_reducible rfl
    rotate_left
    · simp only [Act.put, lists_, i64_w, i32_w]
      rfl
    refine pu_ 22 (some 97) mkPx18_23 HT_ ?_ rfl rfl (by kernel_rfl) (fun _ _ _ h => h) (Or.inl ⟨by rfl, ?_⟩) ?_ ?_ ?_
    rotate_left
    · intro w'
      go_simp
      with_reducible rfl
    rotate_left
    · simp only [Act.put, lists_, i64_w, i32_w]
      rfl
    refine pu_ 23 (some 98) mkPx18_24 HT_ ?_ rfl rfl (by kernel_rfl) (fun _ _ _ h => h) (Or.inl ⟨by rfl, ?_⟩) ?_ ?_ ?_
    rotate_left
    · intro w'
      go_simp
      with_reducible rfl
    rotate_left
    · simp only [Act.put, lists_, i64_w, i32_w]
      rfl
    refine pu_ 24 (some 99) mkPx18_25 HT_ ?_ rfl rfl (by kernel_rfl) (fun _ _ _ h => h) (Or.inl ⟨by rfl, ?_⟩) ?_ ?_ ?_
    rotate_left
    · intro w'
      go_simp
      with_reducible rfl
    rotate_left
    · simp only [Act.put, lists_, i64_w, i32_w]
      rfl
    refine pu_ 25 (some 100) mkPx18_26 HT_ ?_ rfl rfl (by kernel_rfl) (fun _ _ _ h => h) (Or.inl ⟨by rfl, ?_⟩) ?_ ?_ ?_
    rotate_left
    · intro w'
      go_simp
      with_reducible rfl
    rotate_left
    · simp only [Act.put, lists_, i64_w, i32_w]
      rfl
    refine pu_ 26 (some 101) mkPx18_27 HT_ ?_ rfl rfl (by kernel_rfl) (fun _ _ _ h => h) (Or.inl ⟨by rfl, ?_⟩) ?_ ?_ ?_
    rotate_left
    · intro w'
      go_simp
      with_reducible rfl
    rotate_left
    · simp only [Act.put, lists_, i64_w, i32_w]
      rfl
    refine pu_ 27 (some 102) mkPx18_28 HT_ ?_ rfl rfl (by kernel_rfl) (fun _ _ _ h => h) (Or.inl ⟨by rfl, ?_⟩) ?_ ?_ ?_
    rotate_left
    · intro w'
      go_simp
      with_reducible rfl
    rotate_left
    · simp only [Act.put, lists_, i64_w, i32_w]
      rfl
    refine pu_ 28 (some 103) mkPx18_29 HT_ ?_ rfl rfl (by kernel_rfl) (fun _ _ _ h => h) (Or.inl ⟨by rfl, ?_⟩) ?_ ?_ ?_
    rotate_left
    · intro w'
      go_simp
      with_reducible rfl
    rotate_left
    · simp only [Act.put, lists_, i64_w, i32_w]
      rfl
    refine pu_ 29 (some 104) mkPx18_30 HT_ undef rfl rfl (by kernel_rfl) (fun _ _ _ h => h) (Or.inr ⟨by rfl, rfl⟩) ?_ ?_ ?_
    rotate_left
    · simp only [Act.put, lists_, i64_w, i32_w]
      rfl
    refine pu_ 30 (some 105) mkPx18_31 HT_ undef rfl rfl (by kernel_rfl) (fun _ _ _ h => h) (Or.inr ⟨by rfl, rfl⟩) ?_ ?_ ?_
    rotate_left
    · simp only [Act.put, lists_, i64_w, i32_w]
      rfl
    refine pu_ 31 (some 106) mkPx18_32 HT_ ?_ rfl rfl (by kernel_rfl) (fun _ _ _ h => h) (Or.inl ⟨by rfl, ?_⟩) ?_ ?_ ?_
    rotate_left
    · intro w'
      go_simp
      with_reducible rfl
    rotate_left
    · simp only [Act.put, lists_, i64_w, i32_w]
      rfl
    refine pu_ 32 (some 107) mkPx18_33 HT_ ?_ rfl rfl (by kernel_rfl) (fun _ _ _ h => h) (Or.inl ⟨by rfl, ?_⟩) ?_ ?_ ?_
    rotate_left
    · intro w'
      go_simp
      with_reducible rfl
    rotate_left
    · simp only [Act.put, lists_, i64_w, i32_w]
      rfl
    refine pu_ 33 (some 108) mkPx18_34 HT_ ?_ rfl rfl (by kernel_rfl) (fun _ _ _ h => h) (Or.inl ⟨by rfl, ?_⟩) ?_ ?_ ?_
    rotate_left
    · intro w'
      go_simp
      with_reducible rfl
    rotate_left
    · simp only [Act.put, lists_, i64_w, i32_w]
      rfl
    refine take_ (i := 34) (N := some 109) (v := ?_) (a' := ?_) mkPx18_35 rfl rfl (take_ofW HT_.out HW_.out (by kernel_rfl)) (fun _ _ _ h => h) (Or.inl ⟨by rfl, ?_⟩) hHeld ?_ ?_
    rotate_left
    · rintro w' ⟨s0, s1, s2, s3, s4, s5, s6, s7, s8, s9, s10, s11, s12, s13, s14, s15, s16, s17, s18, s19, s20, s21, s22, s23, s24⟩
      go_simp
      with_reducible rfl
    rotate_left
    · simp only [Act.put, lists_, i64_w, i32_w]
      rfl
    refine take_ (i := 35) (N := some 110) (v := ?_) (a' := ?_) mkPx18_36 rfl rfl (take_ofW HT_.out HW_.out (by kernel_rfl)) (fun _ _ _ h => h) (Or.inl ⟨by rfl, ?_⟩) hHeld ?_ ?_
    rotate_left
    · rintro w' ⟨s0, s1, s2, s3, s4, s5, s6, s7, s8, s9, s10, s11, s12, s13, s14, s15, s16, s17, s18, s19, s20, s21, s22, s23, s24⟩
      go_simp
      with_reducible rfl
    rotate_left
    · simp only [Act.put, lists_, i64_w, i32_w]
      rfl
    refine one_ (i := 36) (N := some 111) mkPx18_37 rfl rfl (one_of HT_.out (by kernel_rfl)) (by decide) (fun K hK => ?_)
    refine goes_ Try.func14 (by kernel_rfl) rfl #[.agg #[.int .i64 t364, .int .i64 t365, .int .i64 t366, .bool t367, .slice Ao108 x374004_35.length co108], .agg #[.int .i64 t374, .int .i64 t375, .int .i64 t376, .bool t377, .slice Ao109 x384004_35.length co109]] (by rfl) rfl rfl (by (try simp only [maps_]); first | done | rfl) ?_
    with_reducible refine (ravelinref18_Same.calls kj35 t364 t365 t366 t367 _ _ x374004_35 t374 t375 t376 t377 _ _ x384004_35 true _ ?side1 ?side2 ?side3 ?side4 A98.out).mono ?_
    (case side1 => repeat (first | exact (Kd.R_reads' HO_374004.out).2.2 | (with_reducible refine Kd.C_alloc ?_ _) | (with_reducible refine Kd.C_drewN ?_ _) | (with_reducible refine Kd.C_drew ?_)))
    (case side2 => exact (Kd.R_reads' HO_374004.out).2.1)
    (case side3 => repeat (first | exact (Kd.R_reads' HO_384004.out).2.2 | (with_reducible refine Kd.C_alloc ?_ _) | (with_reducible refine Kd.C_drewN ?_ _) | (with_reducible refine Kd.C_drew ?_)))
    (case side4 => exact (Kd.R_reads' HO_384004.out).2.1)
    rintro e w110 ⟨rfl, hb⟩
    refine ⟨_, rfl, ?_⟩
    have n0_ := rb_ HO_374004 hb
    have n1_ := rb_ HO_384004 hb
    have n2_ := rb_ HO_385004 hb
    have n3_ := rb_ HO_396004 hb
    have n4_ := bb_ BK355 hb
    have n5_ := bb_ BK356 hb
    have n6_ := bb_ BK373 hb
    have n7_ := bb_ BK383 hb
    have n8_ := bb_ BK384 hb
    have n9_ := bb_ BK395 hb
    have n10_ := bl_ [gb355, gb356, gb373, gb383, gb384, gb395] HB ⟨GE355, GE356, GE373, GE383, GE384, GE395, ⟨⟩⟩ hb
    clear HO_374004
    clear HO_384004
    clear HO_385004
    clear HO_396004
    clear BK355
    clear BK356
    clear BK373
    clear BK383
    clear BK384
    clear BK395
    clear HB
    have HO_374004 := n0_
    have HO_384004 := n1_
    have HO_385004 := n2_
    have HO_396004 := n3_
    have BK355 := n4_
    have BK356 := n5_
    have BK373 := n6_
    have BK383 := n7_
    have BK384 := n8_
    have BK395 := n9_
    have HB := n10_
    clear n0_ n1_ n2_ n3_ n4_ n5_ n6_ n7_ n8_ n9_ n10_
    (try clear hb)
    (try clear hb2)
    (try clear hk)
    (try clear hi)
    obtain ⟨Ao111, co111, eo111⟩ := Kd.R_slice HO_385004.out
    (first | subst eo111 | (injection eo111 with f1_ f2_ f3_; have f4_ := f1_.symm; have f5_ := f3_.symm; clear f1_ f2_ f3_; subst f4_; subst f5_))
    refine hK.out _ _ ⟨bc0 BK355, bc1 BK355, bc2 BK355, bc3 BK355, bc4 BK355, bc0 BK356, bc1 BK356, bc2 BK356, bc3 BK356, bc4 BK356, bc0 BK373, bc1 BK373, bc2 BK373, bc3 BK373, bc4 BK373, bc0 BK383, bc1 BK383, bc2 BK383, bc3 BK383, bc4 BK383, bc0 BK384, bc1 BK384, bc2 BK384, bc3 BK384, bc4 BK384⟩ (fun hHeld => ?_)
    clear hK K
    refine norm_ (a' := ?_) ?_ ?_
    rotate_left
    · show Act.put _ (some 111) _ = _
      simp only [Act.put, lists_, i64_w, i32_w]
      rfl
    refine pu_ 37 (some 112) mkPx18_38 HT_ ?_ rfl rfl (by kernel_rfl) (fun _ _ _ h => h) (Or.inl ⟨by rfl, ?_⟩) ?_ ?_ ?_
    rotate_left
    · intro w'
      go_simp
      with_reducible rfl
    rotate_left
    · simp only [Act.put, lists_, i64_w, i32_w]
      rfl
    refine pu_ 38 (some 113) mkPx18_39 HT_ ?_ rfl rfl (by kernel_rfl) (fun _ _ _ h => h) (Or.inl ⟨by rfl, ?_⟩) ?_ ?_ ?_
    rotate_left
    · intro w'
      go_simp
      with_reducible rfl
    rotate_left
    · simp only [Act.put, lists_, i64_w, i32_w]
      rfl
    refine pu_ 39 (some 114) mkPx18_40 HT_ ?_ rfl rfl (by kernel_rfl) (fun _ _ _ h => h) (Or.inl ⟨by rfl, ?_⟩) ?_ ?_ ?_
    rotate_left
    · intro w'
      go_simp
      with_reducible rfl
    rotate_left
    · simp only [Act.put, lists_, i64_w, i32_w]
      rfl
    refine pu_ 40 (some 115) mkPx18_41 HT_ ?_ rfl rfl (by kernel_rfl) (fun _ _ _ h => h) (Or.inl ⟨by rfl, ?_⟩) ?_ ?_ ?_
    rotate_left
    · intro w'
      go_simp
      with_reducible rfl
    rotate_left
    · simp only [Act.put, lists_, i64_w, i32_w]
      rfl
    refine pu_ 41 (some 116) mkPx18_42 HT_ ?_ rfl rfl (by kernel_rfl) (fun _ _ _ h => h) (Or.inl ⟨by rfl, ?_⟩) ?_ ?_ ?_
    rotate_left
    · intro w'
      go_simp
      with_reducible rfl
    rotate_left
    · simp only [Act.put, lists_, i64_w, i32_w]
      rfl
    refine pu_ 42 (some 117) mkPx18_43 HT_ ?_ rfl rfl (by kernel_rfl) (fun _ _ _ h => h) (Or.inl ⟨by rfl, ?_⟩) ?_ ?_ ?_
    rotate_left
    · intro w'
      go_simp
      with_reducible rfl
    rotate_left
    · simp only [Act.put, lists_, i64_w, i32_w]
      rfl
    refine pu_ 43 (some 118) mkPx18_44 HT_ ?_ rfl rfl (by kernel_rfl) (fun _ _ _ h => h) (Or.inl ⟨by rfl, ?_⟩) ?_ ?_ ?_
    rotate_left
    · intro w'
      go_simp
      with_reducible rfl
    rotate_left
    · simp only [Act.put, lists_, i64_w, i32_w]
      rfl
    refine pu_ 44 (some 119) mkPx18_45 HT_ ?_ rfl rfl (by kernel_rfl) (fun _ _ _ h => h) (Or.inl ⟨by rfl, ?_⟩) ?_ ?_ ?_
    rotate_left
    · intro w'
      go_simp
      with_reducible rfl
    rotate_left
    · simp only [Act.put, lists_, i64_w, i32_w]
      rfl
    refine pu_ 45 (some 120) mkPx18_46 HT_ ?_ rfl rfl (by kernel_rfl) (fun _ _ _ h => h) (Or.inl ⟨by rfl, ?_⟩) ?_ ?_ ?_
    rotate_left
    · intro w'
      go_simp
      with_reducible rfl
    rotate_left
    · simp only [Act.put, lists_, i64_w, i32_w]
      rfl
    refine pu_ 46 (some 121) mkPx18_47 HT_ ?_ rfl rfl (by kernel_rfl) (fun _ _ _ h => h) (Or.inl ⟨by rfl, ?_⟩) ?_ ?_ ?_
    rotate_left
    · intro w'
      go_simp
      with_reducible rfl
    rotate_left
    · simp only [Act.put, lists_, i64_w, i32_w]
      rfl
    refine pu_ 47 (some 122) mkPx18_48 HT_ ?_ rfl rfl (by kernel_rfl) (fun _ _ _ h => h) (Or.inl ⟨by rfl, ?_⟩) ?_ ?_ ?_
    rotate_left
    · intro w'
      go_simp
      with_reducible rfl
    rotate_left
    · simp only [Act.put, lists_, i64_w, i32_w]
      rfl
    refine pu_ 48 (some 123) mkPx18_49 HT_ ?_ rfl rfl (by kernel_rfl) (fun _ _ _ h => h) (Or.inl ⟨by rfl, ?_⟩) ?_ ?_ ?_
    rotate_left
    · intro w'
      go_simp
      with_reducible rfl
    rotate_left
    · simp only [Act.put, lists_, i64_w, i32_w]
      rfl
    refine take_ (i := 49) (N := some 124) (v := ?_) (a' := ?_) mkPx18_50 rfl rfl (take_ofW HT_.out HW_.out (by kernel_rfl)) (fun _ _ _ h => h) (Or.inl ⟨by rfl, ?_⟩) hHeld ?_ ?_
    rotate_left
    · rintro w' ⟨s0, s1, s2, s3, s4, s5, s6, s7, s8, s9, s10, s11, s12, s13, s14, s15, s16, s17, s18, s19, s20, s21, s22, s23, s24⟩
      go_simp
      with_reducible rfl
    rotate_left
    · simp only [Act.put, lists_, i64_w, i32_w]
      rfl
    refine take_ (i := 50) (N := some 125) (v := ?_) (a' := ?_) mkPx18_51 rfl rfl (take_ofW HT_.out HW_.out (by kernel_rfl)) (fun _ _ _ h => h) (Or.inl ⟨by rfl, ?_⟩) hHeld ?_ ?_
    rotate_left
    · rintro w' ⟨s0, s1, s2, s3, s4, s5, s6, s7, s8, s9, s10, s11, s12, s13, s14, s15, s16, s17, s18, s19, s20, s21, s22, s23, s24⟩
      go_simp
      with_reducible rfl
    rotate_left
    · simp only [Act.put, lists_, i64_w, i32_w]
      rfl
    refine one_ (i := 51) (N := some 126) mkPx18_52 rfl rfl (one_of HT_.out (by kernel_rfl)) (by decide) (fun K hK => ?_)
    refine goes_ Try.func14 (by kernel_rfl) rfl #[.agg #[.int .i64 a0_0, .int .i64 a0_1, .int .i64 a0_2, .bool a0_3, .slice Ao111 x385004_35.length co111], .agg #[.int .i64 a0_0, .int .i64 a0_1, .int .i64 a0_2, .bool a0_3, .slice A0_4 l0_4.length c0_4]] (by rfl) rfl rfl (by (try simp only [maps_]); first | done | rfl) ?_
    with_reducible refine (ravelinref18_Same.calls kj35 a0_0 a0_1 a0_2 a0_3 _ _ x385004_35 a0_0 a0_1 a0_2 a0_3 _ _ l0_4 t403 _ ?side1 ?side2 ?side3 ?side4 A102.out).mono ?_
    (case side1 => repeat (first | exact (Kd.R_reads' HO_385004.out).2.2 | (with_reducible refine Kd.C_alloc ?_ _) | (with_reducible refine Kd.C_drewN ?_ _) | (with_reducible refine Kd.C_drew ?_)))
    (case side2 => exact (Kd.R_reads' HO_385004.out).2.1)
    (case side3 => exact cb_ HR0_4 HB)
    (case side4 => exact HC0_4.out)
    rintro e w112 ⟨rfl, hb⟩
    refine ⟨_, rfl, ?_⟩
    have n0_ := rb_ HO_374004 hb
    have n1_ := rb_ HO_384004 hb
    have n2_ := rb_ HO_385004 hb
    have n3_ := rb_ HO_396004 hb
    have n4_ := bb_ BK355 hb
    have n5_ := bb_ BK356 hb
    have n6_ := bb_ BK373 hb
    have n7_ := bb_ BK383 hb
    have n8_ := bb_ BK384 hb
    have n9_ := bb_ BK395 hb
    have n10_ := bl_ [gb355, gb356, gb373, gb383, gb384, gb395] HB ⟨GE355, GE356, GE373, GE383, GE384, GE395, ⟨⟩⟩ hb
    clear HO_374004
    clear HO_384004
    clear HO_385004
    clear HO_396004
    clear BK355
    clear BK356
    clear BK373
    clear BK383
    clear BK384
    clear BK395
    clear HB
    have HO_374004 := n0_
    have HO_384004 := n1_
    have HO_385004 := n2_
    have HO_396004 := n3_
    have BK355 := n4_
    have BK356 := n5_
    have BK373 := n6_
    have BK383 := n7_
    have BK384 := n8_
    have BK395 := n9_
    have HB := n10_
    clear n0_ n1_ n2_ n3_ n4_ n5_ n6_ n7_ n8_ n9_ n10_
    (try clear hb)
    (try clear hb2)
    (try clear hk)
    (try clear hi)
    refine hK.out _ _ ⟨bc0 BK355, bc1 BK355, bc2 BK355, bc3 BK355, bc4 BK355, bc0 BK356, bc1 BK356, bc2 BK356, bc3 BK356, bc4 BK356, bc0 BK373, bc1 BK373, bc2 BK373, bc3 BK373, bc4 BK373, bc0 BK383, bc1 BK383, bc2 BK383, bc3 BK383, bc4 BK383, bc0 BK384, bc1 BK384, bc2 BK384, bc3 BK384, bc4 BK384⟩ (fun hHeld => ?_)
    clear hK K
    refine norm_ (a' := ?_) ?_ ?_
    rotate_left
    · show Act.put _ (some 126) _ = _
      simp only [Act.put, lists_, i64_w, i32_w]
      rfl
    refine pu_ 52 (some 127) mkPx18_53 HT_ ?_ rfl rfl (by kernel_rfl) (fun _ _ _ h => h) (Or.inl ⟨by rfl, ?_⟩) ?_ ?_ ?_
    rotate_left
    · intro w'
      go_simp
      with_reducible rfl
    rotate_left
    · simp only [Act.put, lists_, i64_w, i32_w]
      rfl
    refine pu_ 53 (some 6) mkPx18_54 HT_ ?_ rfl rfl (by kernel_rfl) (fun _ _ _ h => h) (Or.inl ⟨by rfl, ?_⟩) ?_ ?_ ?_
    rotate_left
    · intro w'
      go_simp
      with_reducible rfl
    rotate_left
    · simp only [Act.put, lists_, i64_w, i32_w]
      rfl
    refine done_ (done_of HT_.out (by kernel_rfl)) ?_
    try go_wp2
    go_ret
    exact ⟨by first | rfl | (simp [*, errW_none, errW_some] <;> rfl), gwl_ [gb355, gb356, gb373, gb383, gb384, gb395] HB ⟨GE355, GE356, GE373, GE383, GE384, GE395, ⟨⟩⟩⟩
  rw [if_neg c97] at H
  have c97b0 : (t361 == 0) = false := beq_eq_false_iff_ne.mpr c97
  have c97b1 : (t361 != 0) = true := bne_iff_ne.mpr c97
  by_cases c113 : t361 = 10
  rotate_left
  · rw [if_neg c113] at H
    have c113b0 : (t361 == 10) = false := beq_eq_false_iff_ne.mpr c113
    have c113b1 : (t361 != 10) = true := bne_iff_ne.mpr c113
    exact absurd ((Option.some.inj H).trans HR_.out) (by decide)
  rw [if_pos c113] at H
  have c113b0 : (t361 == 10) = true := beq_iff_eq.mpr c113
  have c113b1 : (t361 != 10) = false := bne_eq_false_iff_eq.mpr c113
  clear c113
  replace H := Option.bind_eq_some_iff.mp H
  obtain ⟨t404, A1140, H⟩ := H
  try dsimp only at H
  have A114 := Aside0.mk A1140
  clear A1140
  by_cases c115 : t404 = true
  rotate_left
  · replace c115 := Bool.eq_false_iff.mpr c115
    subst c115
    have H1 : (some false) = some r := by rw [if_neg (show ¬ (false = true) by decide)] at H; exact H
    clear H
    have H := H1
    clear H1
    exact absurd ((Option.some.inj H).trans HR_.out) (by decide)
  subst c115
  have H1 : (if t371 = t381 then (if t372 = t382 then ((ravelinref18_Same.f kj35 a0_0 a0_1 a0_2 a0_3 x385004_35 a0_0 a0_1 a0_2 a0_3 l0_4).bind fun t405 => (some t405)) else (some false)) else (some false)) = some r := by rw [if_pos rfl] at H; exact H
  clear H
  have H := H1
  clear H1
  by_cases c116 : t371 = t381
  rotate_left
  · rw [if_neg c116] at H
    have c116b0 : (t371 == t381) = false := beq_eq_false_iff_ne.mpr c116
    have c116b1 : (t371 != t381) = true := bne_iff_ne.mpr c116
    exact absurd ((Option.some.inj H).trans HR_.out) (by decide)
  rw [if_pos c116] at H
  have c116b0 : (t371 == t381) = true := beq_iff_eq.mpr c116
  have c116b1 : (t371 != t381) = false := bne_eq_false_iff_eq.mpr c116
  clear c116
  by_cases c117 : t372 = t382
  rotate_left
  · rw [if_neg c117] at H
    have c117b0 : (t372 == t382) = false := beq_eq_false_iff_ne.mpr c117
    have c117b1 : (t372 != t382) = true := bne_iff_ne.mpr c117
    exact absurd ((Option.some.inj H).trans HR_.out) (by decide)
  rw [if_pos c117] at H
  have c117b0 : (t372 == t382) = true := beq_iff_eq.mpr c117
  have c117b1 : (t372 != t382) = false := bne_eq_false_iff_eq.mpr c117
  clear c117
  replace H := Option.bind_eq_some_iff.mp H
  obtain ⟨t405, A1180, H⟩ := H
  try dsimp only at H
  have A118 := Aside0.mk A1180
  clear A1180
  obtain rfl := Option.some.inj H
  try go_wp2
  have n0_ := Aside0.mk (Kd.R_drew HO_374004.out)
  have n1_ := Aside0.mk (Kd.R_drew HO_384004.out)
  have n2_ := Aside0.mk (Kd.R_drew HO_385004.out)
  have n3_ := Aside0.mk (Kd.R_drew HO_396004.out)
  have n4_ := Aside0.mk (blk_drew BK355.out)
  have n5_ := Aside0.mk (blk_drew BK356.out)
  have n6_ := Aside0.mk (blk_drew BK373.out)
  have n7_ := Aside0.mk (blk_drew BK383.out)
  have n8_ := Aside0.mk (blk_drew BK384.out)
  have n9_ := Aside0.mk (blk_drew BK395.out)
  have n10_ := Aside0.mk (below_drew1 HB.out)
  clear HO_374004
  clear HO_384004
  clear HO_385004
  clear HO_396004
  clear BK355
  clear BK356
  clear BK373
  clear BK383
  clear BK384
  clear BK395
  clear HB
  have HO_374004 := n0_
  have HO_384004 := n1_
  have HO_385004 := n2_
  have HO_396004 := n3_
  have BK355 := n4_
  have BK356 := n5_
  have BK373 := n6_
  have BK383 := n7_
  have BK384 := n8_
  have BK395 := n9_
  have HB := n10_
  clear n0_ n1_ n2_ n3_ n4_ n5_ n6_ n7_ n8_ n9_ n10_
  refine start_ (n := 54) (S := fun w' => w'.cell? ⟨gb355, 0, none⟩ = some (.int .i64 a0_0) ∧ w'.cell? ⟨gb355, 1, none⟩ = some (.int .i64 a0_1) ∧ w'.cell? ⟨gb355, 2, none⟩ = some (.int .i64 a0_2) ∧ w'.cell? ⟨gb355, 3, none⟩ = some (.bool a0_3) ∧ w'.cell? ⟨gb355, 4, none⟩ = some (.slice A0_4 l0_4.length c0_4) ∧ w'.cell? ⟨gb356, 0, none⟩ = some (.int .i64 a1_0) ∧ w'.cell? ⟨gb356, 1, none⟩ = some (.int .i64 a1_1) ∧ w'.cell? ⟨gb356, 2, none⟩ = some (.int .i64 a1_2) ∧ w'.cell? ⟨gb356, 3, none⟩ = some (.bool a1_3) ∧ w'.cell? ⟨gb356, 4, none⟩ = some (.slice A1_4 l1_4.length c1_4) ∧ w'.cell? ⟨gb373, 0, none⟩ = some (.int .i64 t364) ∧ w'.cell? ⟨gb373, 1, none⟩ = some (.int .i64 t365) ∧ w'.cell? ⟨gb373, 2, none⟩ = some (.int .i64 t366) ∧ w'.cell? ⟨gb373, 3, none⟩ = some (.bool t367) ∧ w'.cell? ⟨gb373, 4, none⟩ = some (u374004) ∧ w'.cell? ⟨gb383, 0, none⟩ = some (.int .i64 t374) ∧ w'.cell? ⟨gb383, 1, none⟩ = some (.int .i64 t375) ∧ w'.cell? ⟨gb383, 2, none⟩ = some (.int .i64 t376) ∧ w'.cell? ⟨gb383, 3, none⟩ = some (.bool t377) ∧ w'.cell? ⟨gb383, 4, none⟩ = some (u384004) ∧ w'.cell? ⟨gb384, 0, none⟩ = some (.int .i64 a0_0) ∧ w'.cell? ⟨gb384, 1, none⟩ = some (.int .i64 a0_1) ∧ w'.cell? ⟨gb384, 2, none⟩ = some (.int .i64 a0_2) ∧ w'.cell? ⟨gb384, 3, none⟩ = some (.bool a0_3) ∧ w'.cell? ⟨gb384, 4, none⟩ = some (u385004)) (ds := []) mkPx18_0 (by kernel_rfl) rfl rfl ⟨bc0 BK355, bc1 BK355, bc2 BK355, bc3 BK355, bc4 BK355, bc0 BK356, bc1 BK356, bc2 BK356, bc3 BK356, bc4 BK356, bc0 BK373, bc1 BK373, bc2 BK373, bc3 BK373, bc4 BK373, bc0 BK383, bc1 BK383, bc2 BK383, bc3 BK383, bc4 BK383, bc0 BK384, bc1 BK384, bc2 BK384, bc3 BK384, bc4 BK384⟩ (fun hHeld => ?_); refine with_tabW ravelinlaw18_ItemTells.tab16 ravelinlaw18_ItemTells.bits16 (fun HT_ HW_ => ?_)
  generalize wc.drew = w119 at HO_374004 HO_384004 HO_385004 HO_396004 BK355 BK356 BK373 BK383 BK384 BK395 HB hHeld ⊢
  refine take_ (i := 0) (N := some 75) (v := ?_) (a' := ?_) mkPx18_1 rfl rfl (take_ofW HT_.out HW_.out (by kernel_rfl)) (fun _ _ _ h => h) (Or.inl ⟨by rfl, ?_⟩) hHeld ?_ ?_
  rotate_left
  · rintro w' ⟨s0, s1, s2, s3, s4, s5, s6, s7, s8, s9, s10, s11, s12, s13, s14, s15, s16, s17, s18, s19, s20, s21, s22, s23, s24⟩
    go_simp
    with_reducible rfl
  rotate_left
  · simp only [Act.put, lists_, i64_w, i32_w]
    rfl
  refine take_ (i := 2) (N := some 77) (v := ?_) (a' := ?_) mkPx18_2 rfl rfl (take_ofW HT_.out HW_.out (by kernel_rfl)) (fun _ _ _ h => h) (Or.inl ⟨by rfl, ?_⟩) hHeld ?_ ?_
  rotate_left
  · rintro w' ⟨s0, s1, s2, s3, s4, s5, s6, s7, s8, s9, s10, s11, s12, s13, s14, s15, s16, s17, s18, s19, s20, s21, s22, s23, s24⟩
    go_simp
    with_reducible rfl
  rotate_left
  · simp only [Act.put, lists_, i64_w, i32_w]
    rfl
  refine one_ (i := 1) (N := some 76) mkPx18_3 rfl rfl (one_of HT_.out (by kernel_rfl)) (by decide) (fun K hK => ?_)
  refine goes_ Try.func15 (by kernel_rfl) rfl #[.agg #[.int .i64 a0_0, .int .i64 a0_1, .int .i64 a0_2, .bool a0_3, .slice A0_4 l0_4.length c0_4]] (by rfl) rfl rfl (by (try simp only [maps_]); first | done | rfl) ?_
  with_reducible refine (item_Is.calls kj35 a0_0 a0_1 a0_2 a0_3 _ _ l0_4 t398 _ ?side1 ?side2 A89.out).mono ?_
  (case side1 => exact cb_ HR0_4 HB)
  (case side2 => exact HC0_4.out)
  rintro e w120 ⟨rfl, hb⟩
  refine ⟨_, rfl, ?_⟩
  have n0_ := rb_ HO_374004 hb
  have n1_ := rb_ HO_384004 hb
  have n2_ := rb_ HO_385004 hb
  have n3_ := rb_ HO_396004 hb
  have n4_ := bb_ BK355 hb
  have n5_ := bb_ BK356 hb
  have n6_ := bb_ BK373 hb
  have n7_ := bb_ BK383 hb
  have n8_ := bb_ BK384 hb
  have n9_ := bb_ BK395 hb
  have n10_ := bl_ [gb355, gb356, gb373, gb383, gb384, gb395] HB ⟨GE355, GE356, GE373, GE383, GE384, GE395, ⟨⟩⟩ hb
  clear HO_374004
  clear HO_384004
  clear HO_385004
  clear HO_396004
  clear BK355
  clear BK356
  clear BK373
  clear BK383
  clear BK384
  clear BK395
  clear HB
  have HO_374004 := n0_
  have HO_384004 := n1_
  have HO_385004 := n2_
  have HO_396004 := n3_
  have BK355 := n4_
  have BK356 := n5_
  have BK373 := n6_
  have BK383 := n7_
  have BK384 := n8_
  have BK395 := n9_
  have HB := n10_
  clear n0_ n1_ n2_ n3_ n4_ n5_ n6_ n7_ n8_ n9_ n10_
  (try clear hb)
  (try clear hb2)
  (try clear hk)
  (try clear hi)
  refine hK.out _ _ ⟨bc0 BK355, bc1 BK355, bc2 BK355, bc3 BK355, bc4 BK355, bc0 BK356, bc1 BK356, bc2 BK356, bc3 BK356, bc4 BK356, bc0 BK373, bc1 BK373, bc2 BK373, bc3 BK373, bc4 BK373, bc0 BK383, bc1 BK383, bc2 BK383, bc3 BK383, bc4 BK383, bc0 BK384, bc1 BK384, bc2 BK384, bc3 BK384, bc4 BK384⟩ (fun hHeld => ?_)
  clear hK K
  refine norm_ (a' := ?_) ?_ ?_
  rotate_left
  · show Act.put _ (some 76) _ = _
    simp only [Act.put, lists_, i64_w, i32_w]
    rfl
  refine one_ (i := 3) (N := some 78) mkPx18_4 rfl rfl (one_of HT_.out (by kernel_rfl)) (by decide) (fun K hK => ?_)
  refine goes_ Try.func16 (by kernel_rfl) rfl #[.agg #[.int .i64 a0_0, .int .i64 a0_1, .int .i64 a0_2, .bool a0_3, .slice A0_4 l0_4.length c0_4]] (by rfl) rfl rfl (by (try simp only [maps_]); first | done | rfl) ?_
  with_reducible refine (ravelinref18_Is.calls kj35 a0_0 a0_1 a0_2 a0_3 _ _ l0_4 t399 _ ?side1 ?side2 A90.out).mono ?_
  (case side1 => exact cb_ HR0_4 HB)
  (case side2 => exact HC0_4.out)
  rintro e w121 ⟨rfl, hb⟩
  refine ⟨_, rfl, ?_⟩
  have n0_ := rb_ HO_374004 hb
  have n1_ := rb_ HO_384004 hb
  have n2_ := rb_ HO_385004 hb
  have n3_ := rb_ HO_396004 hb
  have n4_ := bb_ BK355 hb
  have n5_ := bb_ BK356 hb
  have n6_ := bb_ BK373 hb
  have n7_ := bb_ BK383 hb
  have n8_ := bb_ BK384 hb
  have n9_ := bb_ BK395 hb
  have n10_ := bl_ [gb355, gb356, gb373, gb383, gb384, gb395] HB ⟨GE355, GE356, GE373, GE383, GE384, GE395, ⟨⟩⟩ hb
  clear HO_374004
  clear HO_384004
  clear HO_385004
  clear HO_396004
  clear BK355
  clear BK356
  clear BK373
  clear BK383
  clear BK384
  clear BK395
  clear HB
  have HO_374004 := n0_
  have HO_384004 := n1_
  have HO_385004 := n2_
  have HO_396004 := n3_
  have BK355 := n4_
  have BK356 := n5_
  have BK373 := n6_
  have BK383 := n7_
  have BK384 := n8_
  have BK395 := n9_
  have HB := n10_
  clear n0_ n1_ n2_ n3_ n4_ n5_ n6_ n7_ n8_ n9_ n10_
  (try clear hb)
  (try clear hb2)
  (try clear hk)
  (try clear hi)
  refine hK.out _ _ ⟨bc0 BK355, bc1 BK355, bc2 BK355, bc3 BK355, bc4 BK355, bc0 BK356, bc1 BK356, bc2 BK356, bc3 BK356, bc4 BK356, bc0 BK373, bc1 BK373, bc2 BK373, bc3 BK373, bc4 BK373, bc0 BK383, bc1 BK383, bc2 BK383, bc3 BK383, bc4 BK383, bc0 BK384, bc1 BK384, bc2 BK384, bc3 BK384, bc4 BK384⟩ (fun hHeld => ?_)
  clear hK K
  refine norm_ (a' := ?_) ?_ ?_
  rotate_left
  · show Act.put _ (some 78) _ = _
    simp only [Act.put, lists_, i64_w, i32_w]
    rfl
  refine pu_ 4 (some 79) mkPx18_5 HT_ ?_ rfl rfl (by kernel_rfl) (fun _ _ _ h => h) (Or.inl ⟨by rfl, ?_⟩) ?_ ?_ ?_
  rotate_left
  · intro w'
    go_simp
    with_reducible rfl
  rotate_left
  · simp only [Act.put, lists_, i64_w, i32_w]
    rfl
  refine pu_ 5 (some 80) mkPx18_6 HT_ ?_ rfl rfl (by kernel_rfl) (fun _ _ _ h => h) (Or.inl ⟨by rfl, ?_⟩) ?_ ?_ ?_
  rotate_left
  · intro w'
    go_simp
    with_reducible rfl
  rotate_left
  · simp only [Act.put, lists_, i64_w, i32_w]
    rfl
  refine take_ (i := 6) (N := some 81) (v := ?_) (a' := ?_) mkPx18_7 rfl rfl (take_ofW HT_.out HW_.out (by kernel_rfl)) (fun _ _ _ h => h) (Or.inl ⟨by rfl, ?_⟩) hHeld ?_ ?_
  rotate_left
  · rintro w' ⟨s0, s1, s2, s3, s4, s5, s6, s7, s8, s9, s10, s11, s12, s13, s14, s15, s16, s17, s18, s19, s20, s21, s22, s23, s24⟩
    go_simp
    with_reducible rfl
  rotate_left
  · simp only [Act.put, lists_, i64_w, i32_w]
    rfl
  refine take_ (i := 7) (N := some 82) (v := ?_) (a' := ?_) mkPx18_8 rfl rfl (take_ofW HT_.out HW_.out (by kernel_rfl)) (fun _ _ _ h => h) (Or.inl ⟨by rfl, ?_⟩) hHeld ?_ ?_
  rotate_left
  · rintro w' ⟨s0, s1, s2, s3, s4, s5, s6, s7, s8, s9, s10, s11, s12, s13, s14, s15, s16, s17, s18, s19, s20, s21, s22, s23, s24⟩
    go_simp
    with_reducible rfl
  rotate_left
  · simp only [Act.put, lists_, i64_w, i32_w]
    rfl
  refine take_ (i := 9) (N := some 84) (v := ?_) (a' := ?_) mkPx18_9 rfl rfl (take_ofW HT_.out HW_.out (by kernel_rfl)) (fun _ _ _ h => h) (Or.inl ⟨by rfl, ?_⟩) hHeld ?_ ?_
  rotate_left
  · rintro w' ⟨s0, s1, s2, s3, s4, s5, s6, s7, s8, s9, s10, s11, s12, s13, s14, s15, s16, s17, s18, s19, s20, s21, s22, s23, s24⟩
    go_simp
    with_reducible rfl
  rotate_left
  · simp only [Act.put, lists_, i64_w, i32_w]
    rfl
  refine take_ (i := 10) (N := some 85) (v := ?_) (a' := ?_) mkPx18_10 rfl rfl (take_ofW HT_.out HW_.out (by kernel_rfl)) (fun _ _ _ h => h) (Or.inl ⟨by rfl, ?_⟩) hHeld ?_ ?_
  rotate_left
  · rintro w' ⟨s0, s1, s2, s3, s4, s5, s6, s7, s8, s9, s10, s11, s12, s13, s14, s15, s16, s17, s18, s19, s20, s21, s22, s23, s24⟩
    go_simp
    with_reducible rfl
  rotate_left
  · simp only [Act.put, lists_, i64_w, i32_w]
    rfl
  refine one_ (i := 8) (N := some 83) mkPx18_11 rfl rfl (one_of HT_.out (by kernel_rfl)) (by decide) (fun K hK => ?_)
  refine goes_ Try.func17 (by kernel_rfl) rfl #[.agg #[.int .i64 a0_0, .int .i64 a0_1, .int .i64 a0_2, .bool a0_3, .slice A0_4 l0_4.length c0_4], .agg #[.int .i64 a1_0, .int .i64 a1_1, .int .i64 a1_2, .bool a1_3, .slice A1_4 l1_4.length c1_4]] (by rfl) rfl rfl (by (try simp only [maps_]); first | done | rfl) ?_
  with_reducible refine (item_Same.calls kj35 a0_0 a0_1 a0_2 a0_3 _ _ l0_4 a1_0 a1_1 a1_2 a1_3 _ _ l1_4 t400 _ ?side1 ?side2 ?side3 ?side4 A92.out).mono ?_
  (case side1 => exact cb_ HR0_4 HB)
  (case side2 => exact HC0_4.out)
  (case side3 => exact cb_ HR1_4 HB)
  (case side4 => exact HC1_4.out)
  rintro e w122 ⟨rfl, hb⟩
  refine ⟨_, rfl, ?_⟩
  have n0_ := rb_ HO_374004 hb
  have n1_ := rb_ HO_384004 hb
  have n2_ := rb_ HO_385004 hb
  have n3_ := rb_ HO_396004 hb
  have n4_ := bb_ BK355 hb
  have n5_ := bb_ BK356 hb
  have n6_ := bb_ BK373 hb
  have n7_ := bb_ BK383 hb
  have n8_ := bb_ BK384 hb
  have n9_ := bb_ BK395 hb
  have n10_ := bl_ [gb355, gb356, gb373, gb383, gb384, gb395] HB ⟨GE355, GE356, GE373, GE383, GE384, GE395, ⟨⟩⟩ hb
  clear HO_374004
  clear HO_384004
  clear HO_385004
  clear HO_396004
  clear BK355
  clear BK356
  clear BK373
  clear BK383
  clear BK384
  clear BK395
  clear HB
  have HO_374004 := n0_
  have HO_384004 := n1_
  have HO_385004 := n2_
  have HO_396004 := n3_
  have BK355 := n4_
  have BK356 := n5_
  have BK373 := n6_
  have BK383 := n7_
  have BK384 := n8_
  have BK395 := n9_
  have HB := n10_
  clear n0_ n1_ n2_ n3_ n4_ n5_ n6_ n7_ n8_ n9_ n10_
  (try clear hb)
  (try clear hb2)
  (try clear hk)
  (try clear hi)
  refine hK.out _ _ ⟨bc0 BK355, bc1 BK355, bc2 BK355, bc3 BK355, bc4 BK355, bc0 BK356, bc1 BK356, bc2 BK356, bc3 BK356, bc4 BK356, bc0 BK373, bc1 BK373, bc2 BK373, bc3 BK373, bc4 BK373, bc0 BK383, bc1 BK383, bc2 BK383, bc3 BK383, bc4 BK383, bc0 BK384, bc1 BK384, bc2 BK384, bc3 BK384, bc4 BK384⟩ (fun hHeld => ?_)
  clear hK K
  refine norm_ (a' := ?_) ?_ ?_
  rotate_left
  · show Act.put _ (some 83) _ = _
    simp only [Act.put, lists_, i64_w, i32_w]
    rfl
  refine one_ (i := 11) (N := some 86) mkPx18_12 rfl rfl (one_of HT_.out (by kernel_rfl)) (by decide) (fun K hK => ?_)
  refine goes_ Try.func14 (by kernel_rfl) rfl #[.agg #[.int .i64 a0_0, .int .i64 a0_1, .int .i64 a0_2, .bool a0_3, .slice A0_4 l0_4.length c0_4], .agg #[.int .i64 a1_0, .int .i64 a1_1, .int .i64 a1_2, .bool a1_3, .slice A1_4 l1_4.length c1_4]] (by rfl) rfl rfl (by (try simp only [maps_]); first | done | rfl) ?_
  with_reducible refine (ravelinref18_Same.calls kj35 a0_0 a0_1 a0_2 a0_3 _ _ l0_4 a1_0 a1_1 a1_2 a1_3 _ _ l1_4 t401 _ ?side1 ?side2 ?side3 ?side4 A93.out).mono ?_
  (case side1 => exact cb_ HR0_4 HB)
  (case side2 => exact HC0_4.out)
  (case side3 => exact cb_ HR1_4 HB)
  (case side4 => exact HC1_4.out)
  rintro e w123 ⟨rfl, hb⟩
  refine ⟨_, rfl, ?_⟩
  have n0_ := rb_ HO_374004 hb
  have n1_ := rb_ HO_384004 hb
  have n2_ := rb_ HO_385004 hb
  have n3_ := rb_ HO_396004 hb
  have n4_ := bb_ BK355 hb
  have n5_ := bb_ BK356 hb
  have n6_ := bb_ BK373 hb
  have n7_ := bb_ BK383 hb
  have n8_ := bb_ BK384 hb
  have n9_ := bb_ BK395 hb
  have n10_ := bl_ [gb355, gb356, gb373, gb383, gb384, gb395] HB ⟨GE355, GE356, GE373, GE383, GE384, GE395, ⟨⟩⟩ hb
  clear HO_374004
  clear HO_384004
  clear HO_385004
  clear HO_396004
  clear BK355
  clear BK356
  clear BK373
  clear BK383
  clear BK384
  clear BK395
  clear HB
  have HO_374004 := n0_
  have HO_384004 := n1_
  have HO_385004 := n2_
  have HO_396004 := n3_
  have BK355 := n4_
  have BK356 := n5_
  have BK373 := n6_
  have BK383 := n7_
  have BK384 := n8_
  have BK395 := n9_
  have HB := n10_
  clear n0_ n1_ n2_ n3_ n4_ n5_ n6_ n7_ n8_ n9_ n10_
  (try clear hb)
  (try clear hb2)
  (try clear hk)
  (try clear hi)
  obtain ⟨Ao124, co124, eo124⟩ := Kd.R_slice HO_374004.out
  (first | subst eo124 | (injection eo124 with f1_ f2_ f3_; have f4_ := f1_.symm; have f5_ := f3_.symm; clear f1_ f2_ f3_; subst f4_; subst f5_))
  obtain ⟨Ao125, co125, eo125⟩ := Kd.R_slice HO_384004.out
  (first | subst eo125 | (injection eo125 with f1_ f2_ f3_; have f4_ := f1_.symm; have f5_ := f3_.symm; clear f1_ f2_ f3_; subst f4_; subst f5_))
  refine hK.out _ _ ⟨bc0 BK355, bc1 BK355, bc2 BK355, bc3 BK355, bc4 BK355, bc0 BK356, bc1 BK356, bc2 BK356, bc3 BK356, bc4 BK356, bc0 BK373, bc1 BK373, bc2 BK373, bc3 BK373, bc4 BK373, bc0 BK383, bc1 BK383, bc2 BK383, bc3 BK383, bc4 BK383, bc0 BK384, bc1 BK384, bc2 BK384, bc3 BK384, bc4 BK384⟩ (fun hHeld => ?_)
  clear hK K
  refine norm_ (a' := ?_) ?_ ?_
  rotate_left
  · show Act.put _ (some 86) _ = _
    simp only [Act.put, lists_, i64_w, i32_w]
    rfl
  refine pu_ 12 (some 87) mkPx18_13 HT_ ?_ rfl rfl (by kernel_rfl) (fun _ _ _ h => h) (Or.inl ⟨by rfl, ?_⟩) ?_ ?_ ?_
  rotate_left
  · intro w'
    go_simp
    with_reducible rfl
  rotate_left
  · simp only [Act.put, lists_, i64_w, i32_w]
    rfl
  refine pu_ 13 (some 88) mkPx18_14 HT_ ?_ rfl rfl (by kernel_rfl) (fun _ _ _ h => h) (Or.inl ⟨by rfl, ?_⟩) ?_ ?_ ?_
  rotate_left
  · intro w'
    go_simp
    with_reducible rfl
  rotate_left
  · simp only [Act.put, lists_, i64_w, i32_w]
    rfl
  refine pu_ 14 (some 89) mkPx18_15 HT_ ?_ rfl rfl (by kernel_rfl) (fun _ _ _ h => h) (Or.inl ⟨by rfl, ?_⟩) ?_ ?_ ?_
  rotate_left
  · intro w'
    go_simp
    with_reducible rfl
  rotate_left
  · simp only [Act.put, lists_, i64_w, i32_w]
    rfl
  refine pu_ 15 (some 90) mkPx18_16 HT_ ?_ rfl rfl (by kernel_rfl) (fun _ _ _ h => h) (Or.inl ⟨by rfl, ?_⟩) ?_ ?_ ?_
  rotate_left
  · intro w'
    go_simp
    with_reducible rfl
  rotate_left
  · simp only [Act.put, lists_, i64_w, i32_w]
    rfl
  refine pu_ 16 (some 91) mkPx18_17 HT_ ?_ rfl rfl (by kernel_rfl) (fun _ _ _ h => h) (Or.inl ⟨by rfl, ?_⟩) ?_ ?_ ?_
  rotate_left
  · intro w'
    go_simp
    with_reducible rfl
  rotate_left
  · simp only [Act.put, lists_, i64_w, i32_w]
    rfl
  refine pu_ 17 (some 92) mkPx18_18 HT_ ?_ rfl rfl (by kernel_rfl) (fun _ _ _ h => h) (Or.inl ⟨by rfl, ?_⟩) ?_ ?_ ?_
  rotate_left
  · intro w'
    go_simp
    with_reducible rfl
  rotate_left
  · simp only [Act.put, lists_, i64_w, i32_w]
    rfl
  refine pu_ 18 (some 93) mkPx18_19 HT_ ?_ rfl rfl (by kernel_rfl) (fun _ _ _ h => h) (Or.inl ⟨by rfl, ?_⟩) ?_ ?_ ?_
  rotate_left
  · intro w'
    go_simp
    with_reducible rfl
  rotate_left
  · simp only [Act.put, lists_, i64_w, i32_w]
    rfl
  refine pu_ 19 (some 94) mkPx18_20 HT_ ?_ rfl rfl (by kernel_rfl) (fun _ _ _ h => h) (Or.inl ⟨by rfl, ?_⟩) ?_ ?_ ?_
  rotate_left
  · intro w'
    go_simp
    with_reducible rfl
  rotate_left
  · simp only [Act.put, lists_, i64_w, i32_w]
    rfl
  refine pu_ 20 (some 95) mkPx18_21 HT_ ?_ rfl rfl (by kernel_rfl) (fun _ _ _ h => h) (Or.inl ⟨by rfl, ?_⟩) ?_ ?_ ?_
  rotate_left
  · intro w'
    go_simp
    with_reducible rfl
  rotate_left
  · simp only [Act.put, lists_, i64_w, i32_w]
    rfl
  refine pu_ 21 (some 96) mkPx18_22 HT_ ?_ rfl rfl (by kernel_rfl) (fun _ _ _ h => h) (Or.inl ⟨by rfl, ?_⟩) ?_ ?_ ?_
  rotate_left
  · intro w'
    go_simp
    with_reducible rfl
  rotate_left
  · simp only [Act.put, lists_, i64_w, i32_w]
    rfl
  refine pu_ 22 (some 97) mkPx18_23 HT_ ?_ rfl rfl (by kernel_rfl) (fun _ _ _ h => h) (Or.inl ⟨by rfl, ?_⟩) ?_ ?_ ?_
  rotate_left
  · intro w'
    go_simp
    with_reducible rfl
  rotate_left
  · simp only [Act.put, lists_, i64_w, i32_w]
    rfl
  refine pu_ 23 (some 98) mkPx18_24 HT_ ?_ rfl rfl (by kernel_rfl) (fun _ _ _ h => h) (Or.inl ⟨by rfl, ?_⟩) ?_ ?_ ?_
  rotate_left
  · intro w'
    go_simp
    with_reducible rfl
  rotate_left
  · simp only [Act.put, lists_, i64_w, i32_w]
    rfl
  refine pu_ 24 (some 99) mkPx18_25 HT_ ?_ rfl rfl (by kernel_rfl) (fun _ _ _ h => h) (Or.inl ⟨by rfl, ?_⟩) ?_ ?_ ?_
  rotate_left
  · intro w'
    go_simp
    with_reducible rfl
  rotate_left
  · simp only [Act.put, lists_, i64_w, i32_w]
    rfl
  refine pu_ 25 (some 100) mkPx18_26 HT_ ?_ rfl rfl (by kernel_rfl) (fun _ _ _ h => h) (Or.inl ⟨by rfl, ?_⟩) ?_ ?_ ?_
  rotate_left
  · intro w'
    go_simp
    with_reducible rfl
  rotate_left
  · simp only [Act.put, lists_, i64_w, i32_w]
    rfl
  refine pu_ 26 (some 101) mkPx18_27 HT_ ?_ rfl rfl (by kernel_rfl) (fun _ _ _ h => h) (Or.inl ⟨by rfl, ?_⟩) ?_ ?_ ?_
  rotate_left
  · intro w'
    go_simp
    with_reducible rfl
  rotate_left
  · simp only [Act.put, lists_, i64_w, i32_w]
    rfl
  refine pu_ 27 (some 102) mkPx18_28 HT_ ?_ rfl rfl (by kernel_rfl) (fun _ _ _ h => h) (Or.inl ⟨by rfl, ?_⟩) ?_ ?_ ?_
  rotate_left
  · intro w'
    go_simp
    with_reducible rfl
  rotate_left
  · simp only [Act.put, lists_, i64_w, i32_w]
    rfl
  refine pu_ 28 (some 103) mkPx18_29 HT_ ?_ rfl rfl (by kernel_rfl) (fun _ _ _ h => h) (Or.inl ⟨by rfl, ?_⟩) ?_ ?_ ?_
  rotate_left
  · intro w'
    go_simp
    with_reducible rfl
  rotate_left
  · simp only [Act.put, lists_, i64_w, i32_w]
    rfl
  refine pu_ 29 (some 104) mkPx18_30 HT_ ?_ rfl rfl (by kernel_rfl) (fun _ _ _ h => h) (Or.inl ⟨by rfl, ?_⟩) ?_ ?_ ?_
  rotate_left
  · intro w'
    go_simp
    with_reducible rfl
  rotate_left
  · simp only [Act.put, lists_, i64_w, i32_w]
    rfl
  refine pu_ 30 (some 105) mkPx18_31 HT_ ?_ rfl rfl (by kernel_rfl) (fun _ _ _ h => h) (Or.inl ⟨by rfl, ?_⟩) ?_ ?_ ?_
  rotate_left
  · intro w'
    go_simp
    with_reducible rfl
  rotate_left
  · simp only [Act.put, lists_, i64_w, i32_w]
    rfl
  refine pu_ 31 (some 106) mkPx18_32 HT_ ?_ rfl rfl (by kernel_rfl) (fun _ _ _ h => h) (Or.inl ⟨by rfl, ?_⟩) ?_ ?_ ?_
  rotate_left
  · intro w'
    go_simp
    with_reducible rfl
  rotate_left
  · simp only [Act.put, lists_, i64_w, i32_w]
    rfl
  refine pu_ 32 (some 107) mkPx18_33 HT_ ?_ rfl rfl (by kernel_rfl) (fun _ _ _ h => h) (Or.inl ⟨by rfl, ?_⟩) ?_ ?_ ?_
  rotate_left
  · intro w'
    go_simp
    with_reducible rfl
  rotate_left
  · simp only [Act.put, lists_, i64_w, i32_w]
    rfl
  refine pu_ 33 (some 108) mkPx18_34 HT_ ?_ rfl rfl (by kernel_rfl) (fun _ _ _ h => h) (Or.inl ⟨by rfl, ?_⟩) ?_ ?_ ?_
  rotate_left
  · intro w'
    go_simp
    with_reducible rfl
  rotate_left
  · simp only [Act.put, lists_, i64_w, i32_w]
    rfl
  refine take_ (i := 34) (N := some 109) (v := ?_) (a' := ?_) mkPx18_35 rfl rfl (take_ofW HT_.out HW_.out (by kernel_rfl)) (fun _ _ _ h => h) (Or.inl ⟨by rfl, ?_⟩) hHeld ?_ ?_
  rotate_left
  · rintro w' ⟨s0, s1, s2, s3, s4, s5, s6, s7, s8, s9, s10, s11, s12, s13, s14, s15, s16, s17, s18, s19, s20, s21, s22, s23, s24⟩
    go_simp
    with_reducible rfl
  rotate_left
  · simp only [Act.put, lists_, i64_w, i32_w]
    rfl
  refine take_ (i := 35) (N := some 110) (v := ?_) (a' := ?_) mkPx18_36 rfl rfl (take_ofW HT_.out HW_.out (by kernel_rfl)) (fun _ _ _ h => h) (Or.inl ⟨by rfl, ?_⟩) hHeld ?_ ?_
  rotate_left
  · rintro w' ⟨s0, s1, s2, s3, s4, s5, s6, s7, s8, s9, s10, s11, s12, s13, s14, s15, s16, s17, s18, s19, s20, s21, s22, s23, s24⟩
    go_simp
    with_reducible rfl
  rotate_left
  · simp only [Act.put, lists_, i64_w, i32_w]
    rfl
  refine one_ (i := 36) (N := some 111) mkPx18_37 rfl rfl (one_of HT_.out (by kernel_rfl)) (by decide) (fun K hK => ?_)
  refine goes_ Try.func14 (by kernel_rfl) rfl #[.agg #[.int .i64 t364, .int .i64 t365, .int .i64 t366, .bool t367, .slice Ao124 x374004_35.length co124], .agg #[.int .i64 t374, .int .i64 t375, .int .i64 t376, .bool t377, .slice Ao125 x384004_35.length co125]] (by rfl) rfl rfl (by (try simp only [maps_]); first | done | rfl) ?_
  with_reducible refine (ravelinref18_Same.calls kj35 t364 t365 t366 t367 _ _ x374004_35 t374 t375 t376 t377 _ _ x384004_35 true _ ?side1 ?side2 ?side3 ?side4 A114.out).mono ?_
  (case side1 => repeat (first | exact (Kd.R_reads' HO_374004.out).2.2 | (with_reducible refine Kd.C_alloc ?_ _) | (with_reducible refine Kd.C_drewN ?_ _) | (with_reducible refine Kd.C_drew ?_)))
  (case side2 => exact (Kd.R_reads' HO_374004.out).2.1)
  (case side3 => repeat (first | exact (Kd.R_reads' HO_384004.out).2.2 | (with_reducible refine Kd.C_alloc ?_ _) | (with_reducible refine Kd.C_drewN ?_ _) | (with_reducible refine Kd.C_drew ?_)))
  (case side4 => exact (Kd.R_reads' HO_384004.out).2.1)
  rintro e w126 ⟨rfl, hb⟩
  refine ⟨_, rfl, ?_⟩
  have n0_ := rb_ HO_374004 hb
  have n1_ := rb_ HO_384004 hb
  have n2_ := rb_ HO_385004 hb
  have n3_ := rb_ HO_396004 hb
  have n4_ := bb_ BK355 hb
  have n5_ := bb_ BK356 hb
  have n6_ := bb_ BK373 hb
  have n7_ := bb_ BK383 hb
  have n8_ := bb_ BK384 hb
  have n9_ := bb_ BK395 hb
  have n10_ := bl_ [gb355, gb356, gb373, gb383, gb384, gb395] HB ⟨GE355, GE356, GE373, GE383, GE384, GE395, ⟨⟩⟩ hb
  clear HO_374004
  clear HO_384004
  clear HO_385004
  clear HO_396004
  clear BK355
  clear BK356
  clear BK373
  clear BK383
  clear BK384
  clear BK395
  clear HB
  have HO_374004 := n0_
  have HO_384004 := n1_
  have HO_385004 := n2_
  have HO_396004 := n3_
  have BK355 := n4_
  have BK356 := n5_
  have BK373 := n6_
  have BK383 := n7_
  have BK384 := n8_
  have BK395 := n9_
  have HB := n10_
  clear n0_ n1_ n2_ n3_ n4_ n5_ n6_ n7_ n8_ n9_ n10_
  (try clear hb)
  (try clear hb2)
  (try clear hk)
  (try clear hi)
  obtain ⟨Ao127, co127, eo127⟩ := Kd.R_slice HO_385004.out
  (first | subst eo127 | (injection eo127 with f1_ f2_ f3_; have f4_ := f1_.symm; have f5_ := f3_.symm; clear f1_ f2_ f3_; subst f4_; subst f5_))
  refine hK.out _ _ ⟨bc0 BK355, bc1 BK355, bc2 BK355, bc3 BK355, bc4 BK355, bc0 BK356, bc1 BK356, bc2 BK356, bc3 BK356, bc4 BK356, bc0 BK373, bc1 BK373, bc2 BK373, bc3 BK373, bc4 BK373, bc0 BK383, bc1 BK383, bc2 BK383, bc3 BK383, bc4 BK383, bc0 BK384, bc1 BK384, bc2 BK384, bc3 BK384, bc4 BK384⟩ (fun hHeld => ?_)
  clear hK K
  refine norm_ (a' := ?_) ?_ ?_
  rotate_left
  · show Act.put _ (some 111) _ = _
    simp only [Act.put, lists_, i64_w, i32_w]
    rfl
  refine pu_ 37 (some 112) mkPx18_38 HT_ ?_ rfl rfl (by kernel_rfl) (fun _ _ _ h => h) (Or.inl ⟨by rfl, ?_⟩) ?_ ?_ ?_
  rotate_left
  · intro w'
    go_simp
    with_reducible rfl
  rotate_left
  · simp only [Act.put, lists_, i64_w, i32_w]
    rfl
  refine pu_ 38 (some 113) mkPx18_39 HT_ ?_ rfl rfl (by kernel_rfl) (fun _ _ _ h => h) (Or.inl ⟨by rfl, ?_⟩) ?_ ?_ ?_
  rotate_left
  · intro w'
    go_simp
    with_reducible rfl
  rotate_left
  · simp only [Act.put, lists_, i64_w, i32_w]
    rfl
  refine pu_ 39 (some 114) mkPx18_40 HT_ ?_ rfl rfl (by kernel_rfl) (fun _ _ _ h => h) (Or.inl ⟨by rfl, ?_⟩) ?_ ?_ ?_
  rotate_left
  · intro w'
    go_simp
    with_reducible rfl
  rotate_left
  · simp only [Act.put, lists_, i64_w, i32_w]
    rfl
  refine pu_ 40 (some 115) mkPx18_41 HT_ ?_ rfl rfl (by kernel_rfl) (fun _ _ _ h => h) (Or.inl ⟨by rfl, ?_⟩) ?_ ?_ ?_
  rotate_left
  · intro w'
    go_simp
    with_reducible rfl
  rotate_left
  · simp only [Act.put, lists_, i64_w, i32_w]
    rfl
  refine pu_ 41 (some 116) mkPx18_42 HT_ ?_ rfl rfl (by kernel_rfl) (fun _ _ _ h => h) (Or.inl ⟨by rfl, ?_⟩) ?_ ?_ ?_
  rotate_left
  · intro w'
    go_simp
    with_reducible rfl
  rotate_left
  · simp only [Act.put, lists_, i64_w, i32_w]
    rfl
  refine pu_ 42 (some 117) mkPx18_43 HT_ ?_ rfl rfl (by kernel_rfl) (fun _ _ _ h => h) (Or.inl ⟨by rfl, ?_⟩) ?_ ?_ ?_
  rotate_left
  · intro w'
    go_simp
    with_reducible rfl
  rotate_left
  · simp only [Act.put, lists_, i64_w, i32_w]
    rfl
  refine pu_ 43 (some 118) mkPx18_44 HT_ ?_ rfl rfl (by kernel_rfl) (fun _ _ _ h => h) (Or.inl ⟨by rfl, ?_⟩) ?_ ?_ ?_
  rotate_left
  · intro w'
    go_simp
    with_reducible rfl
  rotate_left
  · simp only [Act.put, lists_, i64_w, i32_w]
    rfl
  refine pu_ 44 (some 119) mkPx18_45 HT_ ?_ rfl rfl (by kernel_rfl) (fun _ _ _ h => h) (Or.inl ⟨by rfl, ?_⟩) ?_ ?_ ?_
  rotate_left
  · intro w'
    go_simp
    with_reducible rfl
  rotate_left
  · simp only [Act.put, lists_, i64_w, i32_w]
    rfl
  refine pu_ 45 (some 120) mkPx18_46 HT_ ?_ rfl rfl (by kernel_rfl) (fun _ _ _ h => h) (Or.inl ⟨by rfl, ?_⟩) ?_ ?_ ?_
  rotate_left
  · intro w'
    go_simp
    with_reducible rfl
  rotate_left
  · simp only [Act.put, lists_, i64_w, i32_w]
    rfl
  refine pu_ 46 (some 121) mkPx18_47 HT_ ?_ rfl rfl (by kernel_rfl) (fun _ _ _ h => h) (Or.inl ⟨by rfl, ?_⟩) ?_ ?_ ?_
  rotate_left
  · intro w'
    go_simp
    with_reducible rfl
  rotate_left
  · simp only [Act.put, lists_, i64_w, i32_w]
    rfl
  refine pu_ 47 (some 122) mkPx18_48 HT_ ?_ rfl rfl (by kernel_rfl) (fun _ _ _ h => h) (Or.inl ⟨by rfl, ?_⟩) ?_ ?_ ?_
  rotate_left
  · intro w'
    go_simp
    with_reducible rfl
  rotate_left
  · simp only [Act.put, lists_, i64_w, i32_w]
    rfl
  refine pu_ 48 (some 123) mkPx18_49 HT_ ?_ rfl rfl (by kernel_rfl) (fun _ _ _ h => h) (Or.inl ⟨by rfl, ?_⟩) ?_ ?_ ?_
  rotate_left
  · intro w'
    go_simp
    with_reducible rfl
  rotate_left
  · simp only [Act.put, lists_, i64_w, i32_w]
    rfl
  refine take_ (i := 49) (N := some 124) (v := ?_) (a' := ?_) mkPx18_50 rfl rfl (take_ofW HT_.out HW_.out (by kernel_rfl)) (fun _ _ _ h => h) (Or.inl ⟨by rfl, ?_⟩) hHeld ?_ ?_
  rotate_left
  · rintro w' ⟨s0, s1, s2, s3, s4, s5, s6, s7, s8, s9, s10, s11, s12, s13, s14, s15, s16, s17, s18, s19, s20, s21, s22, s23, s24⟩
    go_simp
    with_reducible rfl
  rotate_left
  · simp only [Act.put, lists_, i64_w, i32_w]
    rfl
  refine take_ (i := 50) (N := some 125) (v := ?_) (a' := ?_) mkPx18_51 rfl rfl (take_ofW HT_.out HW_.out (by kernel_rfl)) (fun _ _ _ h => h) (Or.inl ⟨by rfl, ?_⟩) hHeld ?_ ?_
  rotate_left
  · rintro w' ⟨s0, s1, s2, s3, s4, s5, s6, s7, s8, s9, s10, s11, s12, s13, s14, s15, s16, s17, s18, s19, s20, s21, s22, s23, s24⟩
    go_simp
    with_reducible rfl
  rotate_left
  · simp only [Act.put, lists_, i64_w, i32_w]
    rfl
  refine one_ (i := 51) (N := some 126) mkPx18_52 rfl rfl (one_of HT_.out (by kernel_rfl)) (by decide) (fun K hK => ?_)
  refine goes_ Try.func14 (by kernel_rfl) rfl #[.agg #[.int .i64 a0_0, .int .i64 a0_1, .int .i64 a0_2, .bool a0_3, .slice Ao127 x385004_35.length co127], .agg #[.int .i64 a0_0, .int .i64 a0_1, .int .i64 a0_2, .bool a0_3, .slice A0_4 l0_4.length c0_4]] (by rfl) rfl rfl (by (try simp only [maps_]); first | done | rfl) ?_
  with_reducible refine (ravelinref18_Same.calls kj35 a0_0 a0_1 a0_2 a0_3 _ _ x385004_35 a0_0 a0_1 a0_2 a0_3 _ _ l0_4 t405 _ ?side1 ?side2 ?side3 ?side4 A118.out).mono ?_
  (case side1 => repeat (first | exact (Kd.R_reads' HO_385004.out).2.2 | (with_reducible refine Kd.C_alloc ?_ _) | (with_reducible refine Kd.C_drewN ?_ _) | (with_reducible refine Kd.C_drew ?_)))
  (case side2 => exact (Kd.R_reads' HO_385004.out).2.1)
  (case side3 => exact cb_ HR0_4 HB)
  (case side4 => exact HC0_4.out)
  rintro e w128 ⟨rfl, hb⟩
  refine ⟨_, rfl, ?_⟩
  have n0_ := rb_ HO_374004 hb
  have n1_ := rb_ HO_384004 hb
  have n2_ := rb_ HO_385004 hb
  have n3_ := rb_ HO_396004 hb
  have n4_ := bb_ BK355 hb
  have n5_ := bb_ BK356 hb
  have n6_ := bb_ BK373 hb
  have n7_ := bb_ BK383 hb
  have n8_ := bb_ BK384 hb
  have n9_ := bb_ BK395 hb
  have n10_ := bl_ [gb355, gb356, gb373, gb383, gb384, gb395] HB ⟨GE355, GE356, GE373, GE383, GE384, GE395, ⟨⟩⟩ hb
  clear HO_374004
  clear HO_384004
  clear HO_385004
  clear HO_396004
  clear BK355
  clear BK356
  clear BK373
  clear BK383
  clear BK384
  clear BK395
  clear HB
  have HO_374004 := n0_
  have HO_384004 := n1_
  have HO_385004 := n2_
  have HO_396004 := n3_
  have BK355 := n4_
  have BK356 := n5_
  have BK373 := n6_
  have BK383 := n7_
  have BK384 := n8_
  have BK395 := n9_
  have HB := n10_
  clear n0_ n1_ n2_ n3_ n4_ n5_ n6_ n7_ n8_ n9_ n10_
  (try clear hb)
  (try clear hb2)
  (try clear hk)
  (try clear hi)
  refine hK.out _ _ ⟨bc0 BK355, bc1 BK355, bc2 BK355, bc3 BK355, bc4 BK355, bc0 BK356, bc1 BK356, bc2 BK356, bc3 BK356, bc4 BK356, bc0 BK373, bc1 BK373, bc2 BK373, bc3 BK373, bc4 BK373, bc0 BK383, bc1 BK383, bc2 BK383, bc3 BK383, bc4 BK383, bc0 BK384, bc1 BK384, bc2 BK384, bc3 BK384, bc4 BK384⟩ (fun hHeld => ?_)
  clear hK K
  refine norm_ (a' := ?_) ?_ ?_
  rotate_left
  · show Act.put _ (some 126) _ = _
    simp only [Act.put, lists_, i64_w, i32_w]
    rfl
  refine pu_ 52 (some 127) mkPx18_53 HT_ ?_ rfl rfl (by kernel_rfl) (fun _ _ _ h => h) (Or.inl ⟨by rfl, ?_⟩) ?_ ?_ ?_
  rotate_left
  · intro w'
    go_simp
    with_reducible rfl
  rotate_left
  · simp only [Act.put, lists_, i64_w, i32_w]
    rfl
  refine pu_ 53 (some 6) mkPx18_54 HT_ ?_ rfl rfl (by kernel_rfl) (fun _ _ _ h => h) (Or.inl ⟨by rfl, ?_⟩) ?_ ?_ ?_
  rotate_left
  · intro w'
    go_simp
    with_reducible rfl
  rotate_left
  · simp only [Act.put, lists_, i64_w, i32_w]
    rfl
  refine done_ (done_of HT_.out (by kernel_rfl)) ?_
  try go_wp2
  go_ret
  exact ⟨by first | rfl | (simp [*, errW_none, errW_some] <;> rfl), gwl_ [gb355, gb356, gb373, gb383, gb384, gb395] HB ⟨GE355, GE356, GE373, GE383, GE384, GE395, ⟨⟩⟩⟩
def ravelinlaw18_ItemTells.Pure : Prop := ∀ (a0_0 : Int) (a0_1 : Int) (a0_2 : Int) (a0_3 : Bool) (l0_4 : List (S39)) (a1_0 : Int) (a1_1 : Int) (a1_2 : Int) (a1_3 : Bool) (l1_4 : List (S39)) (a2 : ByteArray), (Lit.int .i64 a0_0).wf = true → (Lit.int .i64 a0_1).wf = true → (Lit.int .i64 a0_2).wf = true → l0_4.length ≤ 9223372036854775807 → (∀ y_ ∈ l0_4, (y_.f0.size ≤ 9223372036854775807 ∧ True ∧ y_.f2.size ≤ 9223372036854775807)) → (Lit.int .i64 a1_0).wf = true → (Lit.int .i64 a1_1).wf = true → (Lit.int .i64 a1_2).wf = true → l1_4.length ≤ 9223372036854775807 → (∀ y_ ∈ l1_4, (y_.f0.size ≤ 9223372036854775807 ∧ True ∧ y_.f2.size ≤ 9223372036854775807)) → a2.size ≤ 140737488351232 → ∃ k, ravelinlaw18_ItemTells.f k a0_0 a0_1 a0_2 a0_3 l0_4 a1_0 a1_1 a1_2 a1_3 l1_4 a2 = some true

end Go.Proofs.Ytkmbgihfdfgmgaa.P
