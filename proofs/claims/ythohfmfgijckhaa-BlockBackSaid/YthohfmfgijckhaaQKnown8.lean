import Derived.Test.YthohfmfgijckhaaQBlockRef
import Derived.Test.YthohfmfgijckhaaM6
namespace Go.Proofs.Ythohfmfgijckhaa.P
end Go.Proofs.Ythohfmfgijckhaa.P
namespace Go.Proofs.Ythohfmfgijckhaa.Q
end Go.Proofs.Ythohfmfgijckhaa.Q
namespace Go.Proofs.Ythohfmfgijckhaa.Q
open Go.RowKit Go.Proofs.Ythohfmfgijckhaa.P Go.Proofs.YthohfmfgijckhaaW.PrintWords Go.Proofs.YthohfmfgijckhaaW.PrintLast Go.Proofs.YthohfmfgijckhaaW.PrintMore
set_option linter.unusedVariables false
set_option linter.unusedSimpArgs false
theorem known8 : Ev (fun k => ravelinlaw8_known.f k) true := Ev.of (fun k => ravelinlaw8_known.mono k) (k := 80) (by decide +kernel)
end Go.Proofs.Ythohfmfgijckhaa.Q
