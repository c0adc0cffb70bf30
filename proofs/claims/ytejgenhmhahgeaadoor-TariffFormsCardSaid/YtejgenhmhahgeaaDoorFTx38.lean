-- Written by this session's own programs; what the law does not lean on is left out. Lean checks it.
import Derived.Test.YtejgenhmhahgeaaDoorFS
import Derived.Test.YtejgenhmhahgeaaDoorFQ
namespace Go.Proofs.YtejgenhmhahgeaaDoor.T
open Go.RowKit Go.Proofs.YtejgenhmhahgeaaDoorW.PrintWords Go.Proofs.YtejgenhmhahgeaaDoorW.PrintLast Go.Proofs.YtejgenhmhahgeaaDoorW.PrintMore
set_option linter.unusedVariables false
set_option linter.unusedSimpArgs false

end Go.Proofs.YtejgenhmhahgeaaDoor.T
