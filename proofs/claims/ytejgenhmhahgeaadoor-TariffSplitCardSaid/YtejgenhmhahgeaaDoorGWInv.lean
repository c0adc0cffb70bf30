-- Written by this session's own programs; what the law does not lean on is left out. Lean checks it.
import Derived.Test.YtejgenhmhahgeaaDoorGWTab
namespace Go.Proofs.YtejgenhmhahgeaaDoorW.PrintLast
end Go.Proofs.YtejgenhmhahgeaaDoorW.PrintLast
