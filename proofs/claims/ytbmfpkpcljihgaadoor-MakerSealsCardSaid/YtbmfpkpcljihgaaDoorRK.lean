/- Keys that come in, as plain data; conditions: none. -/
import Derived.Test.YtbmfpkpcljihgaaDoorR3
import Derived.Test.YtbmfpkpcljihgaaDoorA7
namespace Go.Proofs.YtbmfpkpcljihgaaDoor.X
open Go Go.Proofs
set_option linter.unusedSimpArgs false
set_option linter.unusedVariables false
def shKeyR : Sh := .pair (.int .i64) (.pair (.int .i64) (.pair (.int .i64) (.pair (.int .i64) (.pair (.int .u32) .nil))))
def toKR (x : shKeyR.T) : K := ⟨x.1, x.2.1, x.2.2.1, x.2.2.2.1, x.2.2.2.2.1⟩
theorem toKR_c (x : shKeyR.T) : shKeyR.cells x = (toKR x).l := rfl
theorem flat_keyR (l : List shKeyR.T) : l.flatMap (Sh.cells shKeyR) = (l.map toKR).flatMap K.l := by
  induction l with
  | nil => rfl
  | cons a l ih => rw [List.flatMap_cons, List.map_cons, List.flatMap_cons, ih, toKR_c]
end Go.Proofs.YtbmfpkpcljihgaaDoor.X
