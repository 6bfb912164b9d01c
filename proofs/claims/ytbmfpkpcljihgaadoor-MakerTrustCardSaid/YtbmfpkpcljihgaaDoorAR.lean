/- Contracts on rights, as the store uses them; conditions: none. -/
import Derived.Test.YtbmfpkpcljihgaaDoorAK
--AUTODROP
namespace Go.Proofs.YtbmfpkpcljihgaaDoor.X
open Go Go.Proofs
set_option linter.unusedSimpArgs false
set_option linter.unusedVariables false
attribute [local irreducible] CW OpsW RetW Spec blk snap DrawP AnyW
def K.writes (k : K) : Bool := k.has && bits .and .i64 k.rights 5 == 0
attribute [local irreducible] bits IntKind.wrap
section
variable {z w : World} {As : List HP} (H : Sat z w As)
include H
end
end Go.Proofs.YtbmfpkpcljihgaaDoor.X
