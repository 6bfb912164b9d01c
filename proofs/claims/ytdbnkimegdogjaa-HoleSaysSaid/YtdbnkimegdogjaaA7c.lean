/- Contracts of the reference's functions on rights and keys; conditions: none. -/
import Derived.Test.YtdbnkimegdogjaaA7b
--AUTODROP
namespace Go.Proofs.Ytdbnkimegdogjaa.X
open Go Go.Proofs
set_option linter.unusedSimpArgs false
set_option linter.unusedVariables false
attribute [local irreducible] CW OpsW RetW Spec blk snap DrawP AnyW
theorem ofInt_wrap (x : BitVec 64) : BitVec.ofInt 64 (IntKind.wrap .i64 (x.toNat : Int)) = x := by
  have e : IntKind.wrap .i64 (x.toNat : Int) = x.toInt := by
    have := x.isLt
    have e : IntKind.wrap .i64 (x.toNat : Int) = if (x.toNat : Int) % 18446744073709551616 ≥ 9223372036854775808 then (x.toNat : Int) % 18446744073709551616 - 18446744073709551616 else (x.toNat : Int) % 18446744073709551616 := by
      simp [IntKind.wrap, IntKind.bits, IntKind.signed]
    rw [e, BitVec.toInt_eq_toNat_cond]
    split <;> split <;> omega
  rw [e, BitVec.ofInt_toInt]
theorem bits_or64 (a b : Int) : BitVec.ofInt 64 (bits .or .i64 a b) = BitVec.ofInt 64 a ||| BitVec.ofInt 64 b := ofInt_wrap _
theorem bits_or_def (a b : Int) : bits .or .i64 a b = IntKind.wrap .i64 ((BitVec.ofInt 64 a ||| BitVec.ofInt 64 b).toNat) := rfl
theorem bits_or14 (r : Int) : bits .or .i64 (bits .or .i64 r 1) 4 = bits .or .i64 r 5 := by
  rw [bits_or_def, bits_or_def r 5, bits_or64, BitVec.or_assoc]; rfl
def K.valid (k : K) : Int :=
  if k.kind < 0 ∨ k.kind > 14 then 102
  else if k.id < 0 ∨ k.id ≥ many k.kind ∨ k.ver < 0 ∨ k.ver > (if many k.kind > 1 then 1048575 else 0) ∨ k.rights < 0 ∨ k.rights > (if k.has = true then 7 else 0) ∨ k.data > (if k.kind = 1 then 4294967295 else if k.kind = 2 then 4 else if k.kind = 5 ∨ k.kind = 6 then 536870911 else 0) then 103 else 0
attribute [local irreducible] bits IntKind.wrap
section
variable (z w : World) (As : List HP) (H : Sat z w As)
include H
theorem refWeaken_ (k : K) : Spec cf 23 #[k.v] w fun e w' => e = k.weaken.v ∧ Sat z w' As := by
  refine enter (l := [k.v]) Try.func23 rfl rfl rfl rfl rfl ?_
  repeat' (first | (refine zA ?_; first | refine zB ?_ | refine zC H ?_ | refine zD H ?_ | refine zE H fun _ _ H => ?_ | refine zF H fun _ _ H => ?_ | refine zG H fun _ H => ?_ | refine zH H fun _ H => ?_ | (refine OpsW.gs rfl rfl rfl (fun h => ?_) (fun h => ?_); fail_if_success (with_reducible have h2 : true = true := h); fail_if_success (with_reducible have h2 : false = true := h))) | (refine zI ?_; first | refine zJ ?_ | refine zK ?_ | refine zL ?_ | refine zM ?_ | refine zN ?_ | refine zO ?_ | refine zP ?_ | refine zQ ?_ | refine zR ?_ | (refine CW.cond rfl (fun h => ?_) (fun h => ?_))) | refine zS ?_)
  all_goals
    refine ret1c (resA H (by (first | exact p0 | exact p1 | exact p2 | exact p3 | exact p4 | exact p5 | exact p6 | exact p7)) rfl rfl (by rfl)) ?_
    refine ⟨?_, by (first | exact H | exact H.drop | exact H.d2 | exact H.d3 | exact H.d4 | exact H.d5 | exact H.d6 | exact H.d7)⟩
    clear H
    simp_all [K.weaken, K.void, bits_or14]
end
end Go.Proofs.Ytdbnkimegdogjaa.X
