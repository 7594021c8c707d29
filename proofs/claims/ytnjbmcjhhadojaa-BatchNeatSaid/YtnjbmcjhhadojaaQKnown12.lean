import Derived.Test.YtnjbmcjhhadojaaQBatchImpl
import Derived.Test.YtnjbmcjhhadojaaM6
namespace Go.Proofs.Ytnjbmcjhhadojaa.P
end Go.Proofs.Ytnjbmcjhhadojaa.P
namespace Go.Proofs.Ytnjbmcjhhadojaa.Q
end Go.Proofs.Ytnjbmcjhhadojaa.Q
namespace Go.Proofs.Ytnjbmcjhhadojaa.Q
open Go.RowKit Go.Proofs.Ytnjbmcjhhadojaa.P Go.Proofs.YtnjbmcjhhadojaaW.PrintWords Go.Proofs.YtnjbmcjhhadojaaW.PrintLast Go.Proofs.YtnjbmcjhhadojaaW.PrintMore
set_option linter.unusedVariables false
set_option linter.unusedSimpArgs false
theorem known12 : Ev (fun k => ravelinlaw12_known.f k) true := Ev.of (fun k => ravelinlaw12_known.mono k) (k := 150) (by decide +kernel)
end Go.Proofs.Ytnjbmcjhhadojaa.Q
