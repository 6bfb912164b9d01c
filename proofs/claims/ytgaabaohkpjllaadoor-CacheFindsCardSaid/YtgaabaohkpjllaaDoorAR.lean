/- Contracts on rights, as the store uses them; conditions: none. -/
import Derived.Test.YtgaabaohkpjllaaDoorAK
--AUTODROP
namespace Go.Proofs.YtgaabaohkpjllaaDoor.X
open Go Go.Proofs
set_option linter.unusedSimpArgs false
set_option linter.unusedVariables false
attribute [local irreducible] CW OpsW RetW Spec blk snap DrawP AnyW
def K.through (r : Int) (k : K) : K := if bits .and .i64 r 4 ≠ 0 then k.weaken else k
def K.writes (k : K) : Bool := k.has && bits .and .i64 k.rights 5 == 0
theorem ofInt_wrap (x : BitVec 64) : BitVec.ofInt 64 (IntKind.wrap .i64 (x.toNat : Int)) = x := by
  have e : IntKind.wrap .i64 (x.toNat : Int) = x.toInt := by
    have := x.isLt
    have e : IntKind.wrap .i64 (x.toNat : Int) = if (x.toNat : Int) % 18446744073709551616 ≥ 9223372036854775808 then (x.toNat : Int) % 18446744073709551616 - 18446744073709551616 else (x.toNat : Int) % 18446744073709551616 := by
      simp [IntKind.wrap, IntKind.bits, IntKind.signed]
    rw [e, BitVec.toInt_eq_toNat_cond]
    split <;> split <;> omega
  rw [e, BitVec.ofInt_toInt]
theorem bits_or64 (a b : Int) : BitVec.ofInt 64 (bits .or .i64 a b) = BitVec.ofInt 64 a ||| BitVec.ofInt 64 b := ofInt_wrap _
theorem bits_or_def (a b : Int) : bits .or .i64 a b = IntKind.wrap .i64 ((BitVec.ofInt 64 a ||| BitVec.ofInt 64 b).toNat) := rfl
theorem bits_or14 (r : Int) : bits .or .i64 (bits .or .i64 r 1) 4 = bits .or .i64 r 5 := by
  rw [bits_or_def, bits_or_def r 5, bits_or64, BitVec.or_assoc]; rfl
attribute [local irreducible] bits IntKind.wrap
section
variable {z w : World} {As : List HP} (H : Sat z w As)
include H
end
end Go.Proofs.YtgaabaohkpjllaaDoor.X
