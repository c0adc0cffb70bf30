-- Written by this session's own programs; what the law does not lean on is left out. Lean checks it.
import Derived.Test.YtalhpnfapagamaaQS
import Derived.Test.YtalhpnfapagamaaQN
import Derived.Test.YtalhpnfapagamaaQSx10
namespace Go.Proofs.Ytalhpnfapagamaa.S
open Go.RowKit Go.Proofs.YtalhpnfapagamaaW.PrintWords Go.Proofs.YtalhpnfapagamaaW.PrintLast Go.Proofs.YtalhpnfapagamaaW.PrintMore
set_option linter.unusedVariables false
set_option linter.unusedSimpArgs false

end Go.Proofs.Ytalhpnfapagamaa.S
