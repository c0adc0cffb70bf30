-- Written by this session's own programs; what the law does not lean on is left out. Lean checks it.
import Derived.Test.YtalhpnfapagamaaDoorAWTab
namespace Go.Proofs.YtalhpnfapagamaaDoorW.PrintLast
end Go.Proofs.YtalhpnfapagamaaDoorW.PrintLast
