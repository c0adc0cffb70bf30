-- Written by this session's own programs; what the law does not lean on is left out. Lean checks it.
import Derived.Test.YtejgenhmhahgeaaDoorGWInv
import Derived.Test.YtejgenhmhahgeaaDoorGWFootNe
namespace Go.Proofs.YtejgenhmhahgeaaDoorW.PrintWords
end Go.Proofs.YtejgenhmhahgeaaDoorW.PrintWords
namespace Go.Proofs.YtejgenhmhahgeaaDoorW.PrintLast
end Go.Proofs.YtejgenhmhahgeaaDoorW.PrintLast
