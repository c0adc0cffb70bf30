-- Written by this session's own programs; what the law does not lean on is left out. Lean checks it.
import Derived.Test.YtalhpnfapagamaaDoorAWWords
import Derived.Laws.StructEq
namespace Go.Proofs.YtalhpnfapagamaaDoorW.PrintWords
end Go.Proofs.YtalhpnfapagamaaDoorW.PrintWords
