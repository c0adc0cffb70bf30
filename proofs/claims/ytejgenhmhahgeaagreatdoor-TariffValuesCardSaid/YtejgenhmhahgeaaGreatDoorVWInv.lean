-- Written by this session's own programs; what the law does not lean on is left out. Lean checks it.
import Derived.Test.YtejgenhmhahgeaaGreatDoorVWTab
namespace Go.Proofs.YtejgenhmhahgeaaGreatDoorW.PrintLast
end Go.Proofs.YtejgenhmhahgeaaGreatDoorW.PrintLast
