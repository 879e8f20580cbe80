/- Layer 14: fixed. -/
import Derived.Test.YtealccnfnpkngaaK
import Derived.Test.YtealccnfnpkngaaMp
set_option maxRecDepth 100000
namespace Go.Proofs.Ytealccnfnpkngaa.X
open Go Go.RowKit
variable {ν : Nm} {H : Heap} {Q : AVal → Heap → Prop}
theorem fixedW (h : acall cfg (aexec cfg 100) ν 8 [] H = some (.bool true, H)) (hq : Q (.bool true) H) : CW cfg ν 8 [] H Q := ⟨100, _, _, h, hq⟩
theorem fixedT (hq : Q (.bool true) H) : CW cfg [0] 8 [] H Q := fixedW (by kernel_rfl) hq
end Go.Proofs.Ytealccnfnpkngaa.X
