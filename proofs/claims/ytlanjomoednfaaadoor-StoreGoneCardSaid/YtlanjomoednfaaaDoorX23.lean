/- The engine of this seat's proofs, part 23: one behind the other, region by region; conditions: none. -/
import Derived.Test.YtlanjomoednfaaaDoorX22
namespace Go.Proofs.YtlanjomoednfaaaDoor.X
open Go
section
variable {C : Cfg} {N : Nat} {σ : Env} {w : World} {Q : Post} {x y u : Code} {c : Operand} {i : Nat}
theorem CW.seqDc (h : CW C N (.cond c x y) σ w (thenQ (fun σ w => CW C N u σ w Q) Q)) : CW C N (.seq (.cond c x y) u) σ w Q := .seqD h
theorem CW.seqDb (h : CW C N (.block i x) σ w (thenQ (fun σ w => CW C N u σ w Q) Q)) : CW C N (.seq (.block i x) u) σ w Q := .seqD h
theorem CW.seqDl (h : CW C N (.loop x) σ w (thenQ (fun σ w => CW C N u σ w Q) Q)) : CW C N (.seq (.loop x) u) σ w Q := .seqD h
theorem CW.seqDs (h : CW C N (.seq x y) σ w (thenQ (fun σ w => CW C N u σ w Q) Q)) : CW C N (.seq (.seq x y) u) σ w Q := .seqD h
theorem CW.seqDk (h : CW C N .skip σ w (thenQ (fun σ w => CW C N u σ w Q) Q)) : CW C N (.seq .skip u) σ w Q := .seqD h
end
end Go.Proofs.YtlanjomoednfaaaDoor.X
