-- Written by this session's own programs; what the law does not lean on is left out. Lean checks it.
import Derived.Test.YthjmbagkomnpgaaDoorJWWords
namespace Go.Proofs.YthjmbagkomnpgaaDoorW.PrintWords
open Go.RowKit
namespace Kd
end Kd
end Go.Proofs.YthjmbagkomnpgaaDoorW.PrintWords
