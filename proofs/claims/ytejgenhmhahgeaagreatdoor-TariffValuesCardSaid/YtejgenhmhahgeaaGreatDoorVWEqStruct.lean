-- Written by this session's own programs; what the law does not lean on is left out. Lean checks it.
import Derived.Test.YtejgenhmhahgeaaGreatDoorVWWords
import Derived.Laws.StructEq
namespace Go.Proofs.YtejgenhmhahgeaaGreatDoorW.PrintWords
end Go.Proofs.YtejgenhmhahgeaaGreatDoorW.PrintWords
