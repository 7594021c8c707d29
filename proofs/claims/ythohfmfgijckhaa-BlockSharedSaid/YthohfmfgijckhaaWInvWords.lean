-- Cut by wip/tools/pack.py from words of the kit's print
import Derived.Test.YthohfmfgijckhaaWInv
import Derived.Test.YthohfmfgijckhaaWFootNe
namespace Go.Proofs.YthohfmfgijckhaaW.PrintWords
open Go.RowKit
end Go.Proofs.YthohfmfgijckhaaW.PrintWords
namespace Go.Proofs.YthohfmfgijckhaaW.PrintLast
section
variable {ops : Array Oper} {a : Act} {o og : Oper} {g : Nat} {t : Tmp} {u : Bool}
end
end Go.Proofs.YthohfmfgijckhaaW.PrintLast
