-- Cut by wip/tools/pack.py from words of the kit's print
import Derived.Test.YtggmgenofmfdpaaWInv
import Derived.Test.YtggmgenofmfdpaaWFootNe
namespace Go.Proofs.YtggmgenofmfdpaaW.PrintWords
open Go.RowKit
end Go.Proofs.YtggmgenofmfdpaaW.PrintWords
namespace Go.Proofs.YtggmgenofmfdpaaW.PrintLast
section
variable {ops : Array Oper} {a : Act} {o og : Oper} {g : Nat} {t : Tmp} {u : Bool}
end
end Go.Proofs.YtggmgenofmfdpaaW.PrintLast
