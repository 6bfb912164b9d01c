/- Contracts of the functions on rights and keys (chapter 7 and its reference); conditions: none. -/
import Derived.Test.YtbmfpkpcljihgaaDoorX6
--AUTODROP
namespace Go.Proofs.YtbmfpkpcljihgaaDoor.X
open Go Go.Proofs
set_option linter.unusedSimpArgs false
set_option linter.unusedVariables false
attribute [local irreducible] CW OpsW RetW Spec blk snap
structure K where
  kind : Int
  id : Int
  ver : Int
  rights : Int
  data : Int
abbrev K.l (k : K) : List Value := [.int .i64 k.kind, .int .i64 k.id, .int .i64 k.ver, .int .i64 k.rights, .int .u32 k.data]
abbrev K.v (k : K) : Value := .agg #[.int .i64 k.kind, .int .i64 k.id, .int .i64 k.ver, .int .i64 k.rights, .int .u32 k.data]
def K.void : K := ⟨0, 0, 0, 0, 0⟩
def K.has (k : K) : Bool := k.kind == 2 || k.kind == 3
section
variable (z w : World) (As : List HP) (H : Sat z w As)
include H
end
end Go.Proofs.YtbmfpkpcljihgaaDoor.X
