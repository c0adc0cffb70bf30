-- Written by this session's own programs; what the law does not lean on is left out. Lean checks it.
import Derived.Test.YthjmbagkomnpgaaDoorJWTab
namespace Go.Proofs.YthjmbagkomnpgaaDoorW.PrintLast
end Go.Proofs.YthjmbagkomnpgaaDoorW.PrintLast
