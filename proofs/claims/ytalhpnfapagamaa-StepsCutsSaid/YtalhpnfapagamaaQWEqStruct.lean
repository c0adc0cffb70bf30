-- Written by this session's own programs; what the law does not lean on is left out. Lean checks it.
import Derived.Test.YtalhpnfapagamaaQWWords
import Derived.Laws.StructEq
namespace Go.Proofs.YtalhpnfapagamaaW.PrintWords
end Go.Proofs.YtalhpnfapagamaaW.PrintWords
