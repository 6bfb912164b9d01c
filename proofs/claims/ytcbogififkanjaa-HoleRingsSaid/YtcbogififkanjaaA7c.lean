/- Contracts of the reference's functions on rights and keys; conditions: none. -/
import Derived.Test.YtcbogififkanjaaA7b
namespace Go.Proofs.Ytcbogififkanjaa.X
open Go Go.Proofs
set_option linter.unusedSimpArgs false
set_option linter.unusedVariables false
attribute [local irreducible] CW OpsW RetW Spec blk snap DrawP AnyW
theorem ofInt_wrap (x : BitVec 64) : BitVec.ofInt 64 (IntKind.wrap .i64 (x.toNat : Int)) = x := by
  have e : IntKind.wrap .i64 (x.toNat : Int) = x.toInt := by
    have := x.isLt
    have e : IntKind.wrap .i64 (x.toNat : Int) = if (x.toNat : Int) % 18446744073709551616 ≥ 9223372036854775808 then (x.toNat : Int) % 18446744073709551616 - 18446744073709551616 else (x.toNat : Int) % 18446744073709551616 := by
      simp [IntKind.wrap, IntKind.bits, IntKind.signed]
    rw [e, BitVec.toInt_eq_toNat_cond]
    split <;> split <;> omega
  rw [e, BitVec.ofInt_toInt]
theorem bits_or64 (a b : Int) : BitVec.ofInt 64 (bits .or .i64 a b) = BitVec.ofInt 64 a ||| BitVec.ofInt 64 b := ofInt_wrap _
theorem bits_and64 (a b : Int) : BitVec.ofInt 64 (bits .and .i64 a b) = BitVec.ofInt 64 a &&& BitVec.ofInt 64 b := ofInt_wrap _
theorem bits_not64 (a b : Int) : BitVec.ofInt 64 (bits .andNot .i64 a b) = BitVec.ofInt 64 a &&& ~~~ BitVec.ofInt 64 b := ofInt_wrap _
theorem bits_or_def (a b : Int) : bits .or .i64 a b = IntKind.wrap .i64 ((BitVec.ofInt 64 a ||| BitVec.ofInt 64 b).toNat) := rfl
theorem bits_and_def (a b : Int) : bits .and .i64 a b = IntKind.wrap .i64 ((BitVec.ofInt 64 a &&& BitVec.ofInt 64 b).toNat) := rfl
theorem bits_or14 (r : Int) : bits .or .i64 (bits .or .i64 r 1) 4 = bits .or .i64 r 5 := by
  rw [bits_or_def, bits_or_def r 5, bits_or64, BitVec.or_assoc]; rfl
def K.valid (k : K) : Int :=
  if k.kind < 0 ∨ k.kind > 14 then 102
  else if k.id < 0 ∨ k.id ≥ many k.kind ∨ k.ver < 0 ∨ k.ver > (if many k.kind > 1 then 1048575 else 0) ∨ k.rights < 0 ∨ k.rights > (if k.has = true then 7 else 0) ∨ k.data > (if k.kind = 1 then 4294967295 else if k.kind = 2 then 4 else if k.kind = 5 ∨ k.kind = 6 then 536870911 else 0) then 103 else 0
attribute [local irreducible] bits IntKind.wrap
section
variable (z w : World) (As : List HP) (H : Sat z w As)
include H
theorem refWeaken_ (k : K) : Spec cf 28 #[k.v] w fun e w' => e = k.weaken.v ∧ Sat z w' As := by
  refine enter (l := [k.v]) Try.func28 rfl rfl rfl rfl rfl ?_
  repeat' (first | refine OpsW.st rfl ?_ | refine CW.seqR ?_ | refine OpsW.nil ?_ | refine CW.condT rfl ?_ | refine CW.condF rfl ?_ | refine OpsW.ld H (by (first | exact p0 | exact pS p0 | exact pS (pS p0) | exact pS (pS (pS p0)) | exact pS (pS (pS (pS p0))) | exact pS (pS (pS (pS (pS p0)))) | exact pS (pS (pS (pS (pS (pS p0))))) | exact pS (pS (pS (pS (pS (pS (pS p0)))))))) rfl rfl rfl rfl (by rfl) rfl ?_ | refine OpsW.ldA H (by (first | exact p0 | exact pS p0 | exact pS (pS p0) | exact pS (pS (pS p0)) | exact pS (pS (pS (pS p0))) | exact pS (pS (pS (pS (pS p0)))) | exact pS (pS (pS (pS (pS (pS p0))))) | exact pS (pS (pS (pS (pS (pS (pS p0)))))))) rfl rfl rfl (by rfl) rfl ?_ | refine OpsW.box H rfl rfl rfl fun _ _ H => ?_ | refine OpsW.alloc H rfl rfl rfl rfl fun _ _ H => ?_ | refine OpsW.str H (by (first | exact p0 | exact pS p0 | exact pS (pS p0) | exact pS (pS (pS p0)) | exact pS (pS (pS (pS p0))) | exact pS (pS (pS (pS (pS p0)))) | exact pS (pS (pS (pS (pS (pS p0))))) | exact pS (pS (pS (pS (pS (pS (pS p0)))))))) rfl rfl rfl rfl rfl rfl (by first | decide | (simp; done) | (simp; omega)) fun _ H => ?_ | refine OpsW.strA H (by (first | exact p0 | exact pS p0 | exact pS (pS p0) | exact pS (pS (pS p0)) | exact pS (pS (pS (pS p0))) | exact pS (pS (pS (pS (pS p0)))) | exact pS (pS (pS (pS (pS (pS p0))))) | exact pS (pS (pS (pS (pS (pS (pS p0)))))))) rfl rfl rfl rfl rfl rfl (by first | decide | (simp; done) | (simp; omega)) fun _ H => ?_ | refine CW.seqD ?_ | refine CW.block ?_ | refine CW.region ?_ | refine CW.ret ?_ | refine CW.exit ?_ | refine CW.skip ?_ | (refine CW.cond rfl (fun h => ?_) (fun h => ?_)) | (refine OpsW.gs rfl rfl rfl (fun h => ?_) (fun h => ?_); fail_if_success (with_reducible have h2 : true = true := h); fail_if_success (with_reducible have h2 : false = true := h)))
  all_goals
    refine ret1c (resA H (by (first | exact p0 | exact pS p0 | exact pS (pS p0) | exact pS (pS (pS p0)) | exact pS (pS (pS (pS p0))) | exact pS (pS (pS (pS (pS p0)))) | exact pS (pS (pS (pS (pS (pS p0))))) | exact pS (pS (pS (pS (pS (pS (pS p0)))))))) rfl rfl (by rfl)) ?_
    refine ⟨?_, by (first | exact H | exact H.drop | exact H.drop.drop | exact H.drop.drop.drop | exact H.drop.drop.drop.drop | exact H.drop.drop.drop.drop.drop | exact H.drop.drop.drop.drop.drop.drop | exact H.drop.drop.drop.drop.drop.drop.drop)⟩
    clear H
    simp_all [K.weaken, K.void, bits_or14]
theorem refLess_ (k : K) (r : Int) : Spec cf 29 #[k.v, .int .i64 r] w fun e w' => e = (k.lessB r).v ∧ Sat z w' As := by
  refine enter (l := [k.v, .int .i64 r]) Try.func29 rfl rfl rfl rfl rfl ?_
  repeat' (first | refine OpsW.st rfl ?_ | refine CW.seqR ?_ | refine OpsW.nil ?_ | refine CW.condT rfl ?_ | refine CW.condF rfl ?_ | refine OpsW.ld H (by (first | exact p0 | exact pS p0 | exact pS (pS p0) | exact pS (pS (pS p0)) | exact pS (pS (pS (pS p0))) | exact pS (pS (pS (pS (pS p0)))) | exact pS (pS (pS (pS (pS (pS p0))))) | exact pS (pS (pS (pS (pS (pS (pS p0)))))))) rfl rfl rfl rfl (by rfl) rfl ?_ | refine OpsW.ldA H (by (first | exact p0 | exact pS p0 | exact pS (pS p0) | exact pS (pS (pS p0)) | exact pS (pS (pS (pS p0))) | exact pS (pS (pS (pS (pS p0)))) | exact pS (pS (pS (pS (pS (pS p0))))) | exact pS (pS (pS (pS (pS (pS (pS p0)))))))) rfl rfl rfl (by rfl) rfl ?_ | refine OpsW.box H rfl rfl rfl fun _ _ H => ?_ | refine OpsW.alloc H rfl rfl rfl rfl fun _ _ H => ?_ | refine OpsW.str H (by (first | exact p0 | exact pS p0 | exact pS (pS p0) | exact pS (pS (pS p0)) | exact pS (pS (pS (pS p0))) | exact pS (pS (pS (pS (pS p0)))) | exact pS (pS (pS (pS (pS (pS p0))))) | exact pS (pS (pS (pS (pS (pS (pS p0)))))))) rfl rfl rfl rfl rfl rfl (by first | decide | (simp; done) | (simp; omega)) fun _ H => ?_ | refine OpsW.strA H (by (first | exact p0 | exact pS p0 | exact pS (pS p0) | exact pS (pS (pS p0)) | exact pS (pS (pS (pS p0))) | exact pS (pS (pS (pS (pS p0)))) | exact pS (pS (pS (pS (pS (pS p0))))) | exact pS (pS (pS (pS (pS (pS (pS p0)))))))) rfl rfl rfl rfl rfl rfl (by first | decide | (simp; done) | (simp; omega)) fun _ H => ?_ | refine CW.seqD ?_ | refine CW.block ?_ | refine CW.region ?_ | refine CW.ret ?_ | refine CW.exit ?_ | refine CW.skip ?_ | (refine CW.cond rfl (fun h => ?_) (fun h => ?_)) | (refine OpsW.gs rfl rfl rfl (fun h => ?_) (fun h => ?_); fail_if_success (with_reducible have h2 : true = true := h); fail_if_success (with_reducible have h2 : false = true := h)))
  all_goals
    refine ret1c (resA H (by (first | exact p0 | exact pS p0 | exact pS (pS p0) | exact pS (pS (pS p0)) | exact pS (pS (pS (pS p0))) | exact pS (pS (pS (pS (pS p0)))) | exact pS (pS (pS (pS (pS (pS p0))))) | exact pS (pS (pS (pS (pS (pS (pS p0)))))))) rfl rfl (by rfl)) ?_
    refine ⟨?_, by (first | exact H | exact H.drop | exact H.drop.drop | exact H.drop.drop.drop | exact H.drop.drop.drop.drop | exact H.drop.drop.drop.drop.drop | exact H.drop.drop.drop.drop.drop.drop | exact H.drop.drop.drop.drop.drop.drop.drop)⟩
    clear H
    simp_all [K.lessB, K.has]
theorem refThrough_ (r : Int) (k : K) : Spec cf 30 #[.int .i64 r, k.v] w fun e w' => e = (k.through r).v ∧ Sat z w' As := by
  refine enter (l := [.int .i64 r, k.v]) Try.func30 rfl rfl rfl rfl rfl ?_
  repeat' (first | (first | refine OpsW.st rfl ?_ | refine CW.seqR ?_ | refine OpsW.nil ?_ | refine CW.condT rfl ?_ | refine CW.condF rfl ?_ | refine OpsW.ld H (by (first | exact p0 | exact pS p0 | exact pS (pS p0) | exact pS (pS (pS p0)) | exact pS (pS (pS (pS p0))) | exact pS (pS (pS (pS (pS p0)))) | exact pS (pS (pS (pS (pS (pS p0))))) | exact pS (pS (pS (pS (pS (pS (pS p0)))))))) rfl rfl rfl rfl (by rfl) rfl ?_ | refine OpsW.ldA H (by (first | exact p0 | exact pS p0 | exact pS (pS p0) | exact pS (pS (pS p0)) | exact pS (pS (pS (pS p0))) | exact pS (pS (pS (pS (pS p0)))) | exact pS (pS (pS (pS (pS (pS p0))))) | exact pS (pS (pS (pS (pS (pS (pS p0)))))))) rfl rfl rfl (by rfl) rfl ?_ | refine OpsW.box H rfl rfl rfl fun _ _ H => ?_ | refine OpsW.alloc H rfl rfl rfl rfl fun _ _ H => ?_ | refine OpsW.str H (by (first | exact p0 | exact pS p0 | exact pS (pS p0) | exact pS (pS (pS p0)) | exact pS (pS (pS (pS p0))) | exact pS (pS (pS (pS (pS p0)))) | exact pS (pS (pS (pS (pS (pS p0))))) | exact pS (pS (pS (pS (pS (pS (pS p0)))))))) rfl rfl rfl rfl rfl rfl (by first | decide | (simp; done) | (simp; omega)) fun _ H => ?_ | refine OpsW.strA H (by (first | exact p0 | exact pS p0 | exact pS (pS p0) | exact pS (pS (pS p0)) | exact pS (pS (pS (pS p0))) | exact pS (pS (pS (pS (pS p0)))) | exact pS (pS (pS (pS (pS (pS p0))))) | exact pS (pS (pS (pS (pS (pS (pS p0)))))))) rfl rfl rfl rfl rfl rfl (by first | decide | (simp; done) | (simp; omega)) fun _ H => ?_ | refine CW.seqD ?_ | refine CW.block ?_ | refine CW.region ?_ | refine CW.ret ?_ | refine CW.exit ?_ | refine CW.skip ?_) | (refine CW.cond rfl (fun h => ?_) (fun h => ?_)) | (refine OpsW.call rfl rfl rfl (refWeaken_ _ _ _ H k) ?_; rintro _ w ⟨rfl, H⟩))
  all_goals
    refine ret1c (resA H (by (first | exact p0 | exact pS p0 | exact pS (pS p0) | exact pS (pS (pS p0)) | exact pS (pS (pS (pS p0))) | exact pS (pS (pS (pS (pS p0)))) | exact pS (pS (pS (pS (pS (pS p0))))) | exact pS (pS (pS (pS (pS (pS (pS p0)))))))) rfl rfl (by rfl)) ?_
    refine ⟨?_, by (first | exact H | exact H.drop | exact H.drop.drop | exact H.drop.drop.drop | exact H.drop.drop.drop.drop | exact H.drop.drop.drop.drop.drop | exact H.drop.drop.drop.drop.drop.drop | exact H.drop.drop.drop.drop.drop.drop.drop)⟩
    clear H
    simp_all [K.through]
theorem refWrites_ (k : K) : Spec cf 32 #[k.v] w fun e w' => e = .bool k.writes ∧ Sat z w' As := by
  refine enter (l := [k.v]) Try.func32 rfl rfl rfl rfl rfl ?_
  repeat' (first | refine OpsW.st rfl ?_ | refine CW.seqR ?_ | refine OpsW.nil ?_ | refine CW.condT rfl ?_ | refine CW.condF rfl ?_ | refine OpsW.ld H (by (first | exact p0 | exact pS p0 | exact pS (pS p0) | exact pS (pS (pS p0)) | exact pS (pS (pS (pS p0))) | exact pS (pS (pS (pS (pS p0)))) | exact pS (pS (pS (pS (pS (pS p0))))) | exact pS (pS (pS (pS (pS (pS (pS p0)))))))) rfl rfl rfl rfl (by rfl) rfl ?_ | refine OpsW.ldA H (by (first | exact p0 | exact pS p0 | exact pS (pS p0) | exact pS (pS (pS p0)) | exact pS (pS (pS (pS p0))) | exact pS (pS (pS (pS (pS p0)))) | exact pS (pS (pS (pS (pS (pS p0))))) | exact pS (pS (pS (pS (pS (pS (pS p0)))))))) rfl rfl rfl (by rfl) rfl ?_ | refine OpsW.box H rfl rfl rfl fun _ _ H => ?_ | refine OpsW.alloc H rfl rfl rfl rfl fun _ _ H => ?_ | refine OpsW.str H (by (first | exact p0 | exact pS p0 | exact pS (pS p0) | exact pS (pS (pS p0)) | exact pS (pS (pS (pS p0))) | exact pS (pS (pS (pS (pS p0)))) | exact pS (pS (pS (pS (pS (pS p0))))) | exact pS (pS (pS (pS (pS (pS (pS p0)))))))) rfl rfl rfl rfl rfl rfl (by first | decide | (simp; done) | (simp; omega)) fun _ H => ?_ | refine OpsW.strA H (by (first | exact p0 | exact pS p0 | exact pS (pS p0) | exact pS (pS (pS p0)) | exact pS (pS (pS (pS p0))) | exact pS (pS (pS (pS (pS p0)))) | exact pS (pS (pS (pS (pS (pS p0))))) | exact pS (pS (pS (pS (pS (pS (pS p0)))))))) rfl rfl rfl rfl rfl rfl (by first | decide | (simp; done) | (simp; omega)) fun _ H => ?_ | refine CW.seqD ?_ | refine CW.block ?_ | refine CW.region ?_ | refine CW.ret ?_ | refine CW.exit ?_ | refine CW.skip ?_ | (refine CW.cond rfl (fun h => ?_) (fun h => ?_)) | (refine OpsW.gs rfl rfl rfl (fun h => ?_) (fun h => ?_); fail_if_success (with_reducible have h2 : true = true := h); fail_if_success (with_reducible have h2 : false = true := h)))
  all_goals
    refine ret1 rfl ⟨?_, by (first | exact H | exact H.drop | exact H.drop.drop | exact H.drop.drop.drop | exact H.drop.drop.drop.drop | exact H.drop.drop.drop.drop.drop | exact H.drop.drop.drop.drop.drop.drop | exact H.drop.drop.drop.drop.drop.drop.drop)⟩
    clear H
    simp_all [K.writes, K.has]
end
end Go.Proofs.Ytcbogififkanjaa.X
