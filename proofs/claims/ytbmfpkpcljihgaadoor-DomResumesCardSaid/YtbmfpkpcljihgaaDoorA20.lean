/- Contracts of chapter 20 (maker): factories as plain data; conditions: none. -/
import Derived.Test.YtbmfpkpcljihgaaDoorAE
import Derived.Test.YtbmfpkpcljihgaaDoorA4p
namespace Go.Proofs.YtbmfpkpcljihgaaDoor.X
open Go Go.Proofs
set_option linter.unusedSimpArgs false
set_option linter.unusedVariables false
def pks (p : Nat → K) : List Value := (mk 6 p).flatMap K.l
/-- A factory's cells: whether it is sealed, its parts. -/
def onc (x : Bool × (Nat → K)) : List Value := .bool x.1 :: pks x.2
def mks (N : Nat) (sl : Nat → Bool) (pt : Nat → Nat → K) : List Value := (mk N fun i => (sl i, pt i)).flatMap onc
section
variable {N : Nat} {sl : Nat → Bool} {pt : Nat → Nat → K} {rest : List Value}
end
end Go.Proofs.YtbmfpkpcljihgaaDoor.X
