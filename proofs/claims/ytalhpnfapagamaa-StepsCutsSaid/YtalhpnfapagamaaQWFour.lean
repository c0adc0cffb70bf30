-- Written by this session's own programs; what the law does not lean on is left out. Lean checks it.
import Derived.Test.YtalhpnfapagamaaQWTab
namespace Go.Proofs.YtalhpnfapagamaaW.PrintLast
end Go.Proofs.YtalhpnfapagamaaW.PrintLast
