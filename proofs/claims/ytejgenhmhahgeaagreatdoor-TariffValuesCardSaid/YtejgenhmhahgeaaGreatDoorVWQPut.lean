-- Written by this session's own programs; what the law does not lean on is left out. Lean checks it.
import Derived.Test.YtejgenhmhahgeaaGreatDoorVWWords
import Derived.Test.YtejgenhmhahgeaaGreatDoorVWLast
namespace Go.Proofs.YtejgenhmhahgeaaGreatDoorW.PrintWords
open Go.RowKit
namespace Kd
end Kd
end Go.Proofs.YtejgenhmhahgeaaGreatDoorW.PrintWords
