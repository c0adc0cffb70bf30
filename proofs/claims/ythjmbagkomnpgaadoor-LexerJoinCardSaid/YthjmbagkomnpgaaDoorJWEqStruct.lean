-- Written by this session's own programs; what the law does not lean on is left out. Lean checks it.
import Derived.Test.YthjmbagkomnpgaaDoorJWWords
import Derived.Laws.StructEq
namespace Go.Proofs.YthjmbagkomnpgaaDoorW.PrintWords
end Go.Proofs.YthjmbagkomnpgaaDoorW.PrintWords
