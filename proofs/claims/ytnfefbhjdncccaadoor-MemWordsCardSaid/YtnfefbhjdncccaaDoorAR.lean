/- Contracts on rights, as the store uses them; conditions: none. -/
import Derived.Test.YtnfefbhjdncccaaDoorAK
--AUTODROP
namespace Go.Proofs.YtnfefbhjdncccaaDoor.X
open Go Go.Proofs
set_option linter.unusedSimpArgs false
set_option linter.unusedVariables false
attribute [local irreducible] CW OpsW RetW Spec blk snap DrawP AnyW
def K.through (r : Int) (k : K) : K := if bits .and .i64 r 4 ≠ 0 then k.weaken else k
def K.writes (k : K) : Bool := k.has && bits .and .i64 k.rights 5 == 0
theorem ofInt_wrap (x : BitVec 64) : BitVec.ofInt 64 (IntKind.wrap .i64 (x.toNat : Int)) = x := by
  have e : IntKind.wrap .i64 (x.toNat : Int) = x.toInt := by
    have := x.isLt
    have e : IntKind.wrap .i64 (x.toNat : Int) = if (x.toNat : Int) % 18446744073709551616 ≥ 9223372036854775808 then (x.toNat : Int) % 18446744073709551616 - 18446744073709551616 else (x.toNat : Int) % 18446744073709551616 := by
      simp [IntKind.wrap, IntKind.bits, IntKind.signed]
    rw [e, BitVec.toInt_eq_toNat_cond]
    split <;> split <;> omega
  rw [e, BitVec.ofInt_toInt]
theorem bits_or64 (a b : Int) : BitVec.ofInt 64 (bits .or .i64 a b) = BitVec.ofInt 64 a ||| BitVec.ofInt 64 b := ofInt_wrap _
theorem bits_or_def (a b : Int) : bits .or .i64 a b = IntKind.wrap .i64 ((BitVec.ofInt 64 a ||| BitVec.ofInt 64 b).toNat) := rfl
theorem bits_or14 (r : Int) : bits .or .i64 (bits .or .i64 r 1) 4 = bits .or .i64 r 5 := by
  rw [bits_or_def, bits_or_def r 5, bits_or64, BitVec.or_assoc]; rfl
attribute [local irreducible] bits IntKind.wrap
section
variable {z w : World} {As : List HP} (H : Sat z w As)
include H
theorem writes_ (k : K) : Spec cf 124 #[k.v] w fun e w' => e = .bool k.writes ∧ Sat z w' As := by
  refine enter (l := [k.v]) Tryd.func124 rfl rfl rfl rfl rfl ?_
  repeat' (first | (first | (refine OpsW.go ?_; first | refine OpsW.st rfl ?_ | refine OpsW.ld H (by (first | exact p0 | exact p1 | exact p2 | exact p3 | exact p4 | exact p5 | exact p6 | exact p7)) rfl rfl rfl rfl (by rfl) rfl ?_ | refine OpsW.ldA H (by (first | exact p0 | exact p1 | exact p2 | exact p3 | exact p4 | exact p5 | exact p6 | exact p7)) rfl rfl rfl (by rfl) rfl ?_ | refine OpsW.box H rfl rfl rfl fun _ _ H => ?_ | refine OpsW.alloc H rfl rfl rfl rfl fun _ _ H => ?_ | refine OpsW.str H (by (first | exact p0 | exact p1 | exact p2 | exact p3 | exact p4 | exact p5 | exact p6 | exact p7)) rfl rfl rfl rfl rfl rfl (by first | decide | (simp; done) | (simp; omega)) fun _ H => ?_ | refine OpsW.strA H (by (first | exact p0 | exact p1 | exact p2 | exact p3 | exact p4 | exact p5 | exact p6 | exact p7)) rfl rfl rfl rfl rfl rfl (by first | decide | (simp; done) | (simp; omega)) fun _ H => ?_) | (refine CW.go ?_; first | refine CW.condT rfl ?_ | refine CW.condF rfl ?_ | refine CW.seqR ?_ | refine CW.seqD ?_ | refine CW.block ?_ | refine CW.region ?_ | refine CW.ret ?_ | refine CW.exit ?_ | refine CW.skip ?_) | refine OpsW.nil ?_) | (refine OpsW.call rfl rfl rfl (has_ _ _ _ H k) ?_; rintro _ w ⟨rfl, H⟩) | (refine OpsW.gs rfl rfl rfl (fun h => ?_) (fun h => ?_); fail_if_success (with_reducible have h2 : true = true := h); fail_if_success (with_reducible have h2 : false = true := h)))
  all_goals
    refine ret1 rfl ⟨?_, by (first | exact H | exact H.drop | exact H.d2 | exact H.d3 | exact H.d4 | exact H.d5 | exact H.d6 | exact H.d7)⟩
    clear H
    simp_all [K.writes]
end
end Go.Proofs.YtnfefbhjdncccaaDoor.X
