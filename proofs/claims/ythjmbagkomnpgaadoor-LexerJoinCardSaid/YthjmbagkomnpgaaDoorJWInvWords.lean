-- Written by this session's own programs; what the law does not lean on is left out. Lean checks it.
import Derived.Test.YthjmbagkomnpgaaDoorJWInv
import Derived.Test.YthjmbagkomnpgaaDoorJWFootNe
namespace Go.Proofs.YthjmbagkomnpgaaDoorW.PrintWords
end Go.Proofs.YthjmbagkomnpgaaDoorW.PrintWords
namespace Go.Proofs.YthjmbagkomnpgaaDoorW.PrintLast
end Go.Proofs.YthjmbagkomnpgaaDoorW.PrintLast
