-- Written by this session's own programs; what the law does not lean on is left out. Lean checks it.
import Derived.Test.YtalhpnfapagamaaQWInv
import Derived.Test.YtalhpnfapagamaaQWFootNe
namespace Go.Proofs.YtalhpnfapagamaaW.PrintWords
end Go.Proofs.YtalhpnfapagamaaW.PrintWords
namespace Go.Proofs.YtalhpnfapagamaaW.PrintLast
end Go.Proofs.YtalhpnfapagamaaW.PrintLast
