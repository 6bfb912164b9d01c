/- The engine of this seat's proofs: a loop gone through round by round, and a loop over a text; conditions: none. -/
import Derived.Test.YtbmfpkpcljihgaaDoorGC
namespace Go.Proofs.YtbmfpkpcljihgaaDoor.X
open Go
set_option linter.unusedSimpArgs false
set_option linter.unusedVariables false
/-- A loop gone through round by round, at most so many. -/
def Un (C : Cfg) (N : Nat) (x : Code) (Q : Post) : Nat → Env → World → Prop
  | 0, _, _ => False
  | n + 1, σ, w => CW C N x σ w (thenQ (fun σ w => Un C N x Q n σ w) Q)
theorem Un.go {C : Cfg} {N : Nat} {x : Code} {Q : Post} {n : Nat} {σ : Env} {w : World} (h : CW C N x σ w (thenQ (fun σ w => Un C N x Q n σ w) Q)) : Un C N x Q (n + 1) σ w := h
section
variable {z w : World} {l As Rs : List HP} {b : Nat} {s : ByteArray} {p : Nat}
variable {C : Cfg} {N : Nat} {gd : List (Option Nat)} {σ : Env} {Q : Env → World → Prop} {r : List Oper} {d : Nat} {t : TypeId} {x : Operand} {ty : TypeId} {pos : String} {af : Array Edge} {g : Option (Nat × Bool)}
end
/-! ### Texts of letters below 128 -/
section
variable {C : Cfg} {N : Nat} {gd : List (Option Nat)} {σ : Env} {Q : Env → World → Prop} {r : List Oper} {d : Nat} {t : TypeId} {x y : Operand} {ty : TypeId} {pos : String} {af : Array Edge} {g : Option (Nat × Bool)} {z w : World} {As Rs : List HP} {b p c : Nat} {l : List Nat}
end
end Go.Proofs.YtbmfpkpcljihgaaDoor.X
