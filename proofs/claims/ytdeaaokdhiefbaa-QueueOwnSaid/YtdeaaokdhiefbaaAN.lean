/- The contract of the laws' helper Number; conditions: none. -/
import Derived.Test.YtdeaaokdhiefbaaR0
import Derived.Test.YtdeaaokdhiefbaaX11
namespace Go.Proofs.Ytdeaaokdhiefbaa.X
open Go Go.Proofs
set_option linter.unusedSimpArgs false
set_option linter.unusedVariables false
attribute [local irreducible] CW OpsW RetW Spec blk snap DrawP AnyW bits IntKind.wrap
theorem number_law (a n : Int) (h : 0 < n) (hn : n ≤ 4611686018427387904) : (if a.tmod n < 0 then IntKind.wrap .i64 (a.tmod n + n) else a.tmod n) = a % n := by
  have h1 := Int.emod_nonneg a (Int.ne_of_gt h)
  have h2 := Int.emod_lt_of_pos a h
  have e : a.tmod n = a % n ∨ a.tmod n = a % n - n := by
    rw [Int.tmod_eq_emod]; split
    · left; omega
    · right
      have : (n.natAbs : Int) = n := by omega
      omega
  have h3 : -n < a.tmod n := by
    have := Int.lt_tmod_of_pos a h; omega
  split
  · rcases e with e | e
    · omega
    · rw [wrap64_id (by omega) (by omega)]; omega
  · rcases e with e | e
    · exact e
    · omega
end Go.Proofs.Ytdeaaokdhiefbaa.X
