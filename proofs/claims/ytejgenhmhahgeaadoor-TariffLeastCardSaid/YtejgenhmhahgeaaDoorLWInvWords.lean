-- Written by this session's own programs; what the law does not lean on is left out. Lean checks it.
import Derived.Test.YtejgenhmhahgeaaDoorLWInv
import Derived.Test.YtejgenhmhahgeaaDoorLWFootNe
namespace Go.Proofs.YtejgenhmhahgeaaDoorW.PrintWords
end Go.Proofs.YtejgenhmhahgeaaDoorW.PrintWords
namespace Go.Proofs.YtejgenhmhahgeaaDoorW.PrintLast
end Go.Proofs.YtejgenhmhahgeaaDoorW.PrintLast
