-- Written by this session's own programs; what the law does not lean on is left out. Lean checks it.
import Derived.Test.YtejgenhmhahgeaaDoorGWWords
import Derived.Test.YtejgenhmhahgeaaDoorGWLast
namespace Go.Proofs.YtejgenhmhahgeaaDoorW.PrintWords
open Go.RowKit
namespace Kd
end Kd
end Go.Proofs.YtejgenhmhahgeaaDoorW.PrintWords
