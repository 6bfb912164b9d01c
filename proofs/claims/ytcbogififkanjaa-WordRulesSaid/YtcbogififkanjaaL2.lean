/- The laws of chapter 2 (words), each call walked; conditions: none. -/
import Derived.Test.YtcbogififkanjaaA2

namespace Go.Proofs.Ytcbogififkanjaa.X
open Go Go.Proofs
set_option linter.unusedSimpArgs false
set_option linter.unusedVariables false
attribute [local irreducible] CW OpsW RetW Spec blk snap
theorem xor_and_or (a b : Int) : (bits .xor .u32 a b + bits .and .u32 a b) % 4294967296 = bits .or .u32 a b := by
  unfold bits
  simp only [wrapu32]
  generalize BitVec.ofInt (IntKind.bits .u32) a = x
  generalize BitVec.ofInt (IntKind.bits .u32) b = y
  have h : (x ^^^ y) + (x &&& y) = x ||| y := by
    rw [BitVec.add_eq_or_of_and_eq_zero]
    · ext i hi
      simp
      cases x[i] <;> cases y[i] <;> rfl
    · ext i hi
      simp
      cases x[i] <;> cases y[i] <;> simp
  have h2 := congrArg BitVec.toNat h
  rw [BitVec.toNat_add] at h2
  have l1 : (x ^^^ y).toNat < 4294967296 := (x ^^^ y).isLt
  have l2 : (x &&& y).toNat < 4294967296 := (x &&& y).isLt
  have l3 : (x ||| y).toNat < 4294967296 := (x ||| y).isLt
  have h3 : ((x ^^^ y).toNat + (x &&& y).toNat) % 4294967296 = (x ||| y).toNat := h2
  omega
theorem quot (a b : Int) (ha : 0 ≤ a) (ha' : a < 4294967296) (hb : 0 < b) : a.tdiv b % 4294967296 = a / b ∧ a.tmod b = a % b ∧ (a / b * b % 4294967296 + a % b) % 4294967296 = a ∧ a % b < b := by
  have h0 : 0 ≤ a / b := Int.ediv_nonneg ha (by omega)
  have h1 : a / b ≤ a := Int.ediv_le_self _ ha
  have e := Int.ediv_mul_add_emod a b
  have m0 := Int.emod_nonneg a (show b ≠ 0 by omega)
  have m1 := Int.emod_lt_of_pos a hb
  have hq : 0 ≤ a / b * b := Int.mul_nonneg h0 (by omega)
  rw [Int.tdiv_eq_ediv_of_nonneg ha, Int.tmod_eq_emod_of_nonneg ha]
  refine ⟨Int.emod_eq_of_lt h0 (by omega), rfl, ?_, m1⟩
  rw [Int.emod_eq_of_lt hq (by omega), e, Int.emod_eq_of_lt ha ha']
theorem wordRules_ (W : World) (a : Int) (ha : (Lit.int .u32 a).wf = true) (b : Int) (hb : (Lit.int .u32 b).wf = true) :
    Spec cf 7 #[.int .u32 a, .int .u32 b] W fun v w' => v = .bool true ∧ Sat W w' [snap W] := by
  obtain ⟨a0, a1⟩ := bu32 ha
  obtain ⟨b0, b1⟩ := bu32 hb
  clear ha hb
  have H := Sat.start W
  have f1 : b ≠ 0 → ((wdo 3 a b).1 * b % 4294967296 + (wdo 4 a b).1) % 4294967296 = a ∧ (wdo 4 a b).1 < b := by
    intro h
    obtain ⟨q1, q2, q3, q4⟩ := quot a b a0 a1 (by omega)
    simp [wdo, h, q1, q2]
    exact ⟨by rw [Int.ediv_mul_add_emod, Int.emod_eq_of_lt a0 a1], q4⟩
  have f2 : b = 0 → (wdo 3 a b).1 = 0 ∧ (wdo 4 a b).1 = 0 := by intro h; simp [wdo, h]
  have f3 : ((wdo 1 a b).1 + b) % 4294967296 = a := by simp [wdo]; omega
  have f4 : (((wdo 10 a b).1 + (wdo 10 b a).1) % 4294967296 + (wdo 11 a b).1) % 4294967296 = 1 := by
    simp only [wdo, b2w]; simp
    rcases Int.lt_trichotomy a b with h | h | h
    · rw [if_pos h, if_neg (by omega), if_neg (by omega)]; rfl
    · rw [if_neg (by omega), if_neg (by omega), if_pos h]; rfl
    · rw [if_neg (by omega), if_pos h, if_neg (by omega)]; rfl
  have f5 : ((wdo 7 a b).1 + (wdo 5 a b).1) % 4294967296 = (wdo 6 a b).1 := by simp only [wdo]; simp [xor_and_or]
  have f6 : ((wdo 11 a b).1 == 1) = (a == b) := by
    simp only [wdo, b2w]
    by_cases h : a = b <;> simp [h]
  have f7 : b ≠ 0 → decide ((wdo 4 a b).1 ≥ b) = false := by intro h; have := (f1 h).2; simp; omega
  generalize hq3 : (wdo 3 a b).1 = q3 at *
  generalize hq4 : (wdo 4 a b).1 = q4 at *
  refine enter (l := [.int .u32 a, .int .u32 b]) Try.func7 rfl rfl rfl rfl rfl ?_
  repeat' (first | refine OpsW.st rfl ?_ | refine CW.seqR ?_ | refine OpsW.nil ?_ | refine CW.condT rfl ?_ | refine CW.condF rfl ?_ | refine OpsW.ld H (by (first | exact p0 | exact pS p0 | exact pS (pS p0) | exact pS (pS (pS p0)) | exact pS (pS (pS (pS p0))) | exact pS (pS (pS (pS (pS p0)))) | exact pS (pS (pS (pS (pS (pS p0))))) | exact pS (pS (pS (pS (pS (pS (pS p0)))))))) rfl rfl rfl rfl (by rfl) rfl ?_ | refine OpsW.ldA H (by (first | exact p0 | exact pS p0 | exact pS (pS p0) | exact pS (pS (pS p0)) | exact pS (pS (pS (pS p0))) | exact pS (pS (pS (pS (pS p0)))) | exact pS (pS (pS (pS (pS (pS p0))))) | exact pS (pS (pS (pS (pS (pS (pS p0)))))))) rfl rfl rfl (by rfl) rfl ?_ | refine OpsW.box H rfl rfl rfl fun _ _ H => ?_ | refine OpsW.alloc H rfl rfl rfl rfl fun _ _ H => ?_ | refine OpsW.str H (by (first | exact p0 | exact pS p0 | exact pS (pS p0) | exact pS (pS (pS p0)) | exact pS (pS (pS (pS p0))) | exact pS (pS (pS (pS (pS p0)))) | exact pS (pS (pS (pS (pS (pS p0))))) | exact pS (pS (pS (pS (pS (pS (pS p0)))))))) rfl rfl rfl rfl rfl rfl (by first | decide | (simp; done) | (simp; omega)) fun _ H => ?_ | refine OpsW.strA H (by (first | exact p0 | exact pS p0 | exact pS (pS p0) | exact pS (pS (pS p0)) | exact pS (pS (pS (pS p0))) | exact pS (pS (pS (pS (pS p0)))) | exact pS (pS (pS (pS (pS (pS p0))))) | exact pS (pS (pS (pS (pS (pS (pS p0)))))))) rfl rfl rfl rfl rfl rfl (by first | decide | (simp; done) | (simp; omega)) fun _ H => ?_ | refine CW.seqD ?_ | refine CW.block ?_ | refine CW.region ?_ | refine CW.ret ?_ | refine CW.exit ?_ | refine CW.skip ?_ | (refine CW.cond rfl (fun h => ?_) (fun h => ?_)) | (refine OpsW.gs rfl rfl rfl (fun h => ?_) (fun h => ?_)))
  refine OpsW.call rfl rfl rfl (first2_ _ _ _ H) ?_
  rintro _ w ⟨rfl, H⟩
  repeat' (first | (first | refine OpsW.st rfl ?_ | refine CW.seqR ?_ | refine OpsW.nil ?_ | refine CW.condT rfl ?_ | refine CW.condF rfl ?_ | refine OpsW.ld H (by (first | exact p0 | exact pS p0 | exact pS (pS p0) | exact pS (pS (pS p0)) | exact pS (pS (pS (pS p0))) | exact pS (pS (pS (pS (pS p0)))) | exact pS (pS (pS (pS (pS (pS p0))))) | exact pS (pS (pS (pS (pS (pS (pS p0)))))))) rfl rfl rfl rfl (by rfl) rfl ?_ | refine OpsW.ldA H (by (first | exact p0 | exact pS p0 | exact pS (pS p0) | exact pS (pS (pS p0)) | exact pS (pS (pS (pS p0))) | exact pS (pS (pS (pS (pS p0)))) | exact pS (pS (pS (pS (pS (pS p0))))) | exact pS (pS (pS (pS (pS (pS (pS p0)))))))) rfl rfl rfl (by rfl) rfl ?_ | refine OpsW.box H rfl rfl rfl fun _ _ H => ?_ | refine OpsW.alloc H rfl rfl rfl rfl fun _ _ H => ?_ | refine OpsW.str H (by (first | exact p0 | exact pS p0 | exact pS (pS p0) | exact pS (pS (pS p0)) | exact pS (pS (pS (pS p0))) | exact pS (pS (pS (pS (pS p0)))) | exact pS (pS (pS (pS (pS (pS p0))))) | exact pS (pS (pS (pS (pS (pS (pS p0)))))))) rfl rfl rfl rfl rfl rfl (by first | decide | (simp; done) | (simp; omega)) fun _ H => ?_ | refine OpsW.strA H (by (first | exact p0 | exact pS p0 | exact pS (pS p0) | exact pS (pS (pS p0)) | exact pS (pS (pS (pS p0))) | exact pS (pS (pS (pS (pS p0)))) | exact pS (pS (pS (pS (pS (pS p0))))) | exact pS (pS (pS (pS (pS (pS (pS p0)))))))) rfl rfl rfl rfl rfl rfl (by first | decide | (simp; done) | (simp; omega)) fun _ H => ?_ | refine CW.seqD ?_ | refine CW.block ?_ | refine CW.region ?_ | refine CW.ret ?_ | refine CW.exit ?_ | refine CW.skip ?_) | (refine OpsW.call rfl rfl rfl (do_ _ _ _ H _ _ _ (by assumption)) ?_; rintro _ w ⟨rfl, H⟩))
  repeat' (first | refine OpsW.st rfl ?_ | refine CW.seqR ?_ | refine OpsW.nil ?_ | refine CW.condT rfl ?_ | refine CW.condF rfl ?_ | refine OpsW.ld H (by (first | exact p0 | exact pS p0 | exact pS (pS p0) | exact pS (pS (pS p0)) | exact pS (pS (pS (pS p0))) | exact pS (pS (pS (pS (pS p0)))) | exact pS (pS (pS (pS (pS (pS p0))))) | exact pS (pS (pS (pS (pS (pS (pS p0)))))))) rfl rfl rfl rfl (by rfl) rfl ?_ | refine OpsW.ldA H (by (first | exact p0 | exact pS p0 | exact pS (pS p0) | exact pS (pS (pS p0)) | exact pS (pS (pS (pS p0))) | exact pS (pS (pS (pS (pS p0)))) | exact pS (pS (pS (pS (pS (pS p0))))) | exact pS (pS (pS (pS (pS (pS (pS p0)))))))) rfl rfl rfl (by rfl) rfl ?_ | refine OpsW.box H rfl rfl rfl fun _ _ H => ?_ | refine OpsW.alloc H rfl rfl rfl rfl fun _ _ H => ?_ | refine OpsW.str H (by (first | exact p0 | exact pS p0 | exact pS (pS p0) | exact pS (pS (pS p0)) | exact pS (pS (pS (pS p0))) | exact pS (pS (pS (pS (pS p0)))) | exact pS (pS (pS (pS (pS (pS p0))))) | exact pS (pS (pS (pS (pS (pS (pS p0)))))))) rfl rfl rfl rfl rfl rfl (by first | decide | (simp; done) | (simp; omega)) fun _ H => ?_ | refine OpsW.strA H (by (first | exact p0 | exact pS p0 | exact pS (pS p0) | exact pS (pS (pS p0)) | exact pS (pS (pS (pS p0))) | exact pS (pS (pS (pS (pS p0)))) | exact pS (pS (pS (pS (pS (pS p0))))) | exact pS (pS (pS (pS (pS (pS (pS p0)))))))) rfl rfl rfl rfl rfl rfl (by first | decide | (simp; done) | (simp; omega)) fun _ H => ?_ | refine CW.seqD ?_ | refine CW.block ?_ | refine CW.region ?_ | refine CW.ret ?_ | refine CW.exit ?_ | refine CW.skip ?_ | (refine CW.cond rfl (fun h => ?_) (fun h => ?_)) | (refine OpsW.gs rfl rfl rfl (fun h => ?_) (fun h => ?_)))
  all_goals
    refine ret1 rfl ⟨?_, by (first | exact H | exact H.drop | exact H.drop.drop | exact H.drop.drop.drop | exact H.drop.drop.drop.drop | exact H.drop.drop.drop.drop.drop | exact H.drop.drop.drop.drop.drop.drop | exact H.drop.drop.drop.drop.drop.drop.drop)⟩
    clear H
    first | (simp_all [wrapu32]; done) | (have F1 := (f1 (by simpa using ‹(b != 0) = true›)).2; simp at *; omega)
end Go.Proofs.Ytcbogififkanjaa.X
