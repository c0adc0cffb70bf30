-- Written by this session's own programs; what the law does not lean on is left out. Lean checks it.
import Derived.Test.YtejgenhmhahgeaaDoorGWWords
import Derived.Laws.StructEq
namespace Go.Proofs.YtejgenhmhahgeaaDoorW.PrintWords
end Go.Proofs.YtejgenhmhahgeaaDoorW.PrintWords
