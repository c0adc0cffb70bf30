-- Written by this session's own programs; what the law does not lean on is left out. Lean checks it.
import Derived.Test.YthjmbagkomnpgaaDoorJWKept
namespace Go.Proofs.YthjmbagkomnpgaaDoorW.PrintWords
open Go.RowKit
namespace Foot
end Foot
namespace Kd
end Kd
end Go.Proofs.YthjmbagkomnpgaaDoorW.PrintWords
