/- The law CpuJumps of chapter 17, walked; conditions: none. -/
import Derived.Test.YtnfefbhjdncccaaDoorP17
namespace Go.Proofs.YtnfefbhjdncccaaDoor.X
open Go Go.Proofs
set_option linter.unusedSimpArgs false
set_option linter.unusedVariables false
def g17 (l : List Int) : Nat → Nat → Int := fun a => if a = 1 then (fun i => ([] : List Int).getD i 0) else if a = 0 then (fun i => l.getD i 0) else fun _ => 0
theorem s17_g (l : List Int) : s17 l = t17 (g17 l) := s17_t l
attribute [local irreducible] CW OpsW RetW Spec blk snap DrawP AnyW AnyM AnyN bits IntKind.wrap vec arena kds nds wds pgs eA nodesP pagesP cacheP wns mcP memP s17 syP Dm.c Ev.l
end Go.Proofs.YtnfefbhjdncccaaDoor.X
