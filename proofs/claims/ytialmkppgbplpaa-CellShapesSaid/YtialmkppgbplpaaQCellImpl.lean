import Derived.Test.YtialmkppgbplpaaQCellTakeText
import Derived.Test.YtialmkppgbplpaaQCellText
namespace Go.Proofs.Ytialmkppgbplpaa.P
end Go.Proofs.Ytialmkppgbplpaa.P
namespace Go.Proofs.Ytialmkppgbplpaa.Q
end Go.Proofs.Ytialmkppgbplpaa.Q
namespace Go.Proofs.Ytialmkppgbplpaa.Q
open Go.RowKit Go.Proofs.Ytialmkppgbplpaa.P Go.Proofs.YtialmkppgbplpaaW.PrintWords Go.Proofs.YtialmkppgbplpaaW.PrintLast Go.Proofs.YtialmkppgbplpaaW.PrintMore
set_option linter.unusedVariables false
set_option linter.unusedSimpArgs false
end Go.Proofs.Ytialmkppgbplpaa.Q
