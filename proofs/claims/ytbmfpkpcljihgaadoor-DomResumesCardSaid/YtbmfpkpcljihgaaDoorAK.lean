/- Contracts of chapter 3 (key): what may be; conditions: none. -/
import Derived.Test.YtbmfpkpcljihgaaDoorA7
import Derived.Test.YtbmfpkpcljihgaaDoorSE
--AUTODROP
namespace Go.Proofs.YtbmfpkpcljihgaaDoor.X
open Go Go.Proofs
set_option linter.unusedSimpArgs false
set_option linter.unusedVariables false
attribute [local irreducible] CW OpsW RetW Spec blk snap DrawP AnyW AnyM AnyN bits IntKind.wrap vec
/-- How many of a kind there are. -/
def kmost (kind : Int) : Int := if kind = 2 then 256 else if kind = 3 then 256 else if kind = 4 ∨ kind = 5 ∨ kind = 6 then 32 else if kind = 7 then 32 else if kind = 8 then 64 else if kind = 9 ∨ kind = 10 then 32 else 0
def kdata (kind : Int) : Int := if kind = 1 then 4294967295 else if kind = 2 then 4 else if kind = 5 ∨ kind = 6 then 536870911 else 0
/-- What is amiss with a key: nothing (0), its shape (1), a range (2). -/
def K.err (k : K) : Nat :=
  if k.kind < 0 ∨ k.kind > 14 then 1
  else if (kmost k.kind = 0 ∧ (k.id ≠ 0 ∨ k.ver ≠ 0)) ∨ (kmost k.kind > 0 ∧ (k.id < 0 ∨ k.id ≥ kmost k.kind ∨ k.ver < 0 ∨ k.ver > 1048575)) then 2
  else if k.rights < 0 ∨ k.rights > 7 ∨ (¬ (k.kind = 2 ∨ k.kind = 3) ∧ k.rights ≠ 0) ∨ k.data > kdata k.kind then 2
  else 0
/-- The error that it is. -/
def kerrV (eS eR : Addr) (n : Nat) : Value := if n = 0 then .nilIface else if n = 1 then errV eS else errV eR
section
variable {z w : World} {As : List HP}
theorem kmost_ (H : Sat z w As) (kind : Int) : Spec cf 89 #[.int .i64 kind] w fun e w' => e = .int .i64 (kmost kind) ∧ Sat z w' As := by
  refine enter (l := [.int .i64 kind]) Tryd.func89 rfl rfl rfl rfl rfl ?_
  repeat' (first | (refine zA ?_; first | refine zB ?_ | refine zC H ?_ | refine zD H ?_ | refine zE H fun _ _ H => ?_ | refine zF H fun _ _ H => ?_ | refine zG H fun _ H => ?_ | refine zH H fun _ H => ?_ | (refine OpsW.gs rfl rfl rfl (fun h => ?_) (fun h => ?_); fail_if_success (with_reducible have h2 : true = true := h); fail_if_success (with_reducible have h2 : false = true := h))) | (refine zI ?_; first | refine zJ ?_ | refine zK ?_ | refine zL ?_ | refine zM ?_ | refine zN ?_ | refine zO ?_ | refine zP ?_ | refine zQ ?_ | refine zR ?_ | (refine CW.cond rfl (fun h => ?_) (fun h => ?_))) | refine zS ?_)
  all_goals
    refine ret1 rfl ⟨?_, by (first | exact H | exact H.drop | exact H.d2 | exact H.d3 | exact H.d4 | exact H.d5 | exact H.d6 | exact H.d7)⟩
    clear H
    simp_all [kmost]
theorem kdata_ (H : Sat z w As) (kind : Int) : Spec cf 90 #[.int .i64 kind] w fun e w' => e = .int .u32 (kdata kind) ∧ Sat z w' As := by
  refine enter (l := [.int .i64 kind]) Tryd.func90 rfl rfl rfl rfl rfl ?_
  repeat' (first | (refine zA ?_; first | refine zB ?_ | refine zC H ?_ | refine zD H ?_ | refine zE H fun _ _ H => ?_ | refine zF H fun _ _ H => ?_ | refine zG H fun _ H => ?_ | refine zH H fun _ H => ?_ | (refine OpsW.gs rfl rfl rfl (fun h => ?_) (fun h => ?_); fail_if_success (with_reducible have h2 : true = true := h); fail_if_success (with_reducible have h2 : false = true := h))) | (refine zI ?_; first | refine zJ ?_ | refine zK ?_ | refine zL ?_ | refine zM ?_ | refine zN ?_ | refine zO ?_ | refine zP ?_ | refine zQ ?_ | refine zR ?_ | (refine CW.cond rfl (fun h => ?_) (fun h => ?_))) | refine zS ?_)
  all_goals
    refine ret1 rfl ⟨?_, by (first | exact H | exact H.drop | exact H.d2 | exact H.d3 | exact H.d4 | exact H.d5 | exact H.d6 | exact H.d7)⟩
    clear H
    simp_all [kdata]
set_option maxHeartbeats 4000000 in
theorem valid_ (H : Sat z w As) {eS eR : Addr} (hS : GlobV As 4 (errV eS)) (hR : GlobV As 1 (errV eR)) (k : K) : Spec cf 60 #[k.v] w fun e w' => e = kerrV eS eR k.err ∧ Sat z w' As := by
  refine enter (l := [k.v]) Tryd.func60 rfl rfl rfl rfl rfl ?_
  repeat' (first | (refine zA ?_; first | refine zB ?_ | (refine OpsW.goCall ?_; first | (refine OpsW.call rfl rfl rfl (kmost_ H k.kind) ?_; rintro _ w ⟨rfl, H⟩) | (refine OpsW.call rfl rfl rfl (kdata_ H k.kind) ?_; rintro _ w ⟨rfl, H⟩)) | refine zC H ?_ | refine zD H ?_ | refine zE H fun _ _ H => ?_ | refine zF H fun _ _ H => ?_ | refine zG H fun _ H => ?_ | refine zH H fun _ H => ?_ | (refine OpsW.gs rfl rfl rfl (fun h => ?_) (fun h => ?_); fail_if_success (with_reducible have h2 : true = true := h); fail_if_success (with_reducible have h2 : false = true := h))) | (refine zI ?_; first | refine zJ ?_ | refine zK ?_ | refine zL ?_ | refine zM ?_ | refine zN ?_ | refine zO ?_ | refine zP ?_ | refine zQ ?_ | refine zR ?_ | (refine CW.cond rfl (fun h => ?_) (fun h => ?_))) | refine zS ?_)
  all_goals try first | refine OpsW.ldg H hS.tail rfl rfl rfl rfl rfl ?_ | refine OpsW.ldg H hR.tail rfl rfl rfl rfl rfl ?_
  all_goals repeat' (first | (refine zA ?_; first | refine zB ?_ | refine zC H ?_ | refine zD H ?_ | refine zE H fun _ _ H => ?_ | refine zF H fun _ _ H => ?_ | refine zG H fun _ H => ?_ | refine zH H fun _ H => ?_) | (refine zI ?_; first | refine zJ ?_ | refine zK ?_ | refine zL ?_ | refine zM ?_ | refine zN ?_ | refine zO ?_ | refine zP ?_ | refine zQ ?_ | refine zR ?_) | refine zS ?_)
  all_goals try
    refine ret1 rfl ⟨?_, by (first | exact H | exact H.drop | exact H.d2 | exact H.d3 | exact H.d4 | exact H.d5 | exact H.d6 | exact H.d7)⟩
    clear H hS hR
    simp only [decide_eq_true_eq, decide_eq_false_iff_not, beq_iff_eq, beq_eq_false_iff_ne, bne_iff_ne, ne_eq, bne_eq_false_iff_eq, Decidable.not_not, Bool.not_eq_true', Bool.not_eq_false'] at *
    first
    | (exfalso; omega)
    | (rw [show k.err = 1 by unfold K.err; rw [if_pos (by omega)]]; rfl)
    | (rw [show k.err = 2 by unfold K.err; rw [if_neg (by omega), if_pos (by omega)]]; rfl)
    | (rw [show k.err = 2 by unfold K.err; rw [if_neg (by omega), if_neg (by omega), if_pos (by omega)]]; rfl)
    | (rw [show k.err = 0 by unfold K.err; rw [if_neg (by omega), if_neg (by omega), if_neg (by omega)]]; rfl)

  all_goals try
    exfalso
    clear H hS hR
    simp only [kmost] at *
    simp only [decide_eq_true_eq, decide_eq_false_iff_not, beq_iff_eq, beq_eq_false_iff_ne, bne_iff_ne, ne_eq, bne_eq_false_iff_eq, Decidable.not_not, Bool.not_eq_true', Bool.not_eq_false'] at *
    first | omega | (simp_all; done) | (simp_all; omega)
  all_goals
    first | refine CW.seqDraw mo H [0, 1, 3, 7, 15, 31, 63, 127, 255, 511, 1023, 2047, 4095, 8191, 16383, 32767, 65535, 131071, 262143, 524287, 262143, 1310719, 3407871, 8388607, 16777215] fun w H => ?_ | refine CW.draw mo H [0, 1, 3, 7, 15, 31, 63, 127, 255, 511, 1023, 2047, 4095, 8191, 16383, 32767, 65535, 131071, 262143, 524287, 262143, 1310719, 3407871, 8388607, 16777215] fun w H => ?_
    refine AnyW.seg (m := 4) (by kernel_rfl) (by kernel_rfl) H rfl ?_
    repeat' (first | (refine DrawP.nil ?_; intro w H) | (refine DrawP.go ?_; first | refine DrawP.cons rfl (fun τ w H => OpsW.st rfl (OpsW.nil ⟨rfl, H⟩)) ?_ | refine DrawP.cons rfl (fun τ w H => OpsW.ld H (by (first | exact p0 | exact p1 | exact p2 | exact p3 | exact p4 | exact p5 | exact p6 | exact p7)) rfl rfl rfl rfl (by rfl) rfl (OpsW.nil ⟨rfl, H⟩)) ?_ | refine DrawP.cons rfl (fun τ w H => OpsW.ldA H (by (first | exact p0 | exact p1 | exact p2 | exact p3 | exact p4 | exact p5 | exact p6 | exact p7)) rfl rfl rfl (by rfl) rfl (OpsW.nil ⟨rfl, H⟩)) ?_) | refine DrawP.split (fun h => ?_) (fun h => ?_))
    refine AnyW.gs (d := 66) rfl (fun h => ?_) (fun h => ?_)
  all_goals
    refine AnyW.seg (m := 9) (by kernel_rfl) (by kernel_rfl) H rfl ?_
    repeat' (first | (refine DrawP.nil ?_; intro w H) | (refine DrawP.go ?_; first | refine DrawP.cons rfl (fun τ w H => OpsW.st rfl (OpsW.nil ⟨rfl, H⟩)) ?_ | refine DrawP.cons rfl (fun τ w H => OpsW.ld H (by (first | exact p0 | exact p1 | exact p2 | exact p3 | exact p4 | exact p5 | exact p6 | exact p7)) rfl rfl rfl rfl (by rfl) rfl (OpsW.nil ⟨rfl, H⟩)) ?_ | refine DrawP.cons rfl (fun τ w H => OpsW.ldA H (by (first | exact p0 | exact p1 | exact p2 | exact p3 | exact p4 | exact p5 | exact p6 | exact p7)) rfl rfl rfl (by rfl) rfl (OpsW.nil ⟨rfl, H⟩)) ?_) | refine DrawP.split (fun h => ?_) (fun h => ?_))
    refine AnyW.gs (d := 71) rfl (fun h => ?_) (fun h => ?_)
  all_goals try (cases h; done)
  all_goals
    refine AnyW.seg (m := 12) (by kernel_rfl) (by kernel_rfl) H rfl ?_
    repeat' (first | (refine DrawP.nil ?_; intro w H) | (refine DrawP.go ?_; first | refine DrawP.cons rfl (fun τ w H => OpsW.st rfl (OpsW.nil ⟨rfl, H⟩)) ?_ | refine DrawP.cons rfl (fun τ w H => OpsW.ld H (by (first | exact p0 | exact p1 | exact p2 | exact p3 | exact p4 | exact p5 | exact p6 | exact p7)) rfl rfl rfl rfl (by rfl) rfl (OpsW.nil ⟨rfl, H⟩)) ?_ | refine DrawP.cons rfl (fun τ w H => OpsW.ldA H (by (first | exact p0 | exact p1 | exact p2 | exact p3 | exact p4 | exact p5 | exact p6 | exact p7)) rfl rfl rfl (by rfl) rfl (OpsW.nil ⟨rfl, H⟩)) ?_) | refine DrawP.split (fun h => ?_) (fun h => ?_))
    first | refine AnyW.gs (d := 74) rfl (fun h => ?_) (fun h => ?_) | skip
  all_goals try (cases h; done)
  all_goals
    refine AnyW.seg (m := 18) (by kernel_rfl) (by kernel_rfl) H rfl ?_
    repeat' (first | (refine DrawP.nil ?_; intro w H) | (refine DrawP.go ?_; first | refine DrawP.cons rfl (fun τ w H => OpsW.st rfl (OpsW.nil ⟨rfl, H⟩)) ?_ | refine DrawP.cons rfl (fun τ w H => OpsW.ld H (by (first | exact p0 | exact p1 | exact p2 | exact p3 | exact p4 | exact p5 | exact p6 | exact p7)) rfl rfl rfl rfl (by rfl) rfl (OpsW.nil ⟨rfl, H⟩)) ?_ | refine DrawP.cons rfl (fun τ w H => OpsW.ldA H (by (first | exact p0 | exact p1 | exact p2 | exact p3 | exact p4 | exact p5 | exact p6 | exact p7)) rfl rfl rfl (by rfl) rfl (OpsW.nil ⟨rfl, H⟩)) ?_) | refine DrawP.split (fun h => ?_) (fun h => ?_))
    refine AnyW.gs (d := 80) rfl (fun h => ?_) (fun h => ?_)
  all_goals try (cases h; done)
  all_goals
    refine AnyW.seg (m := 25) (by kernel_rfl) (by kernel_rfl) H rfl ?_
    repeat' (first | (refine DrawP.nil ?_; intro w H) | (refine DrawP.go ?_; first | refine DrawP.cons rfl (fun τ w H => OpsW.st rfl (OpsW.nil ⟨rfl, H⟩)) ?_ | refine DrawP.cons rfl (fun τ w H => OpsW.ld H (by (first | exact p0 | exact p1 | exact p2 | exact p3 | exact p4 | exact p5 | exact p6 | exact p7)) rfl rfl rfl rfl (by rfl) rfl (OpsW.nil ⟨rfl, H⟩)) ?_ | refine DrawP.cons rfl (fun τ w H => OpsW.ldA H (by (first | exact p0 | exact p1 | exact p2 | exact p3 | exact p4 | exact p5 | exact p6 | exact p7)) rfl rfl rfl (by rfl) rfl (OpsW.nil ⟨rfl, H⟩)) ?_ | (refine DrawP.goCall ?_; first | refine DrawP.cons rfl (fun τ w H => OpsW.call rfl rfl rfl (kdata_ H k.kind) fun _ w h => by obtain ⟨rfl, H⟩ := h; exact OpsW.nil ⟨rfl, H⟩) ?_)) | refine DrawP.split (fun h => ?_) (fun h => ?_))
    refine AnyW.done ?_
    repeat' (first | (refine zA ?_; first | refine zB ?_ | refine zC H ?_ | refine zD H ?_ | refine zE H fun _ _ H => ?_ | refine zF H fun _ _ H => ?_ | refine zG H fun _ H => ?_ | refine zH H fun _ H => ?_ | (refine OpsW.gs rfl rfl rfl (fun h => ?_) (fun h => ?_); fail_if_success (with_reducible have h2 : true = true := h); fail_if_success (with_reducible have h2 : false = true := h))) | (refine zI ?_; first | refine zJ ?_ | refine zK ?_ | refine zL ?_ | refine zM ?_ | refine zN ?_ | refine zO ?_ | refine zP ?_ | refine zQ ?_ | refine zR ?_ | (refine CW.cond rfl (fun h => ?_) (fun h => ?_))) | refine zS ?_)
  all_goals try first | refine OpsW.ldg H hS.tail rfl rfl rfl rfl rfl ?_ | refine OpsW.ldg H hR.tail rfl rfl rfl rfl rfl ?_
  all_goals repeat' (first | (refine zA ?_; first | refine zB ?_ | refine zC H ?_ | refine zD H ?_ | refine zE H fun _ _ H => ?_ | refine zF H fun _ _ H => ?_ | refine zG H fun _ H => ?_ | refine zH H fun _ H => ?_) | (refine zI ?_; first | refine zJ ?_ | refine zK ?_ | refine zL ?_ | refine zM ?_ | refine zN ?_ | refine zO ?_ | refine zP ?_ | refine zQ ?_ | refine zR ?_) | refine zS ?_)
  all_goals
    refine ret1 rfl ⟨?_, by (first | exact H | exact H.drop | exact H.d2 | exact H.d3 | exact H.d4 | exact H.d5 | exact H.d6 | exact H.d7)⟩
    clear H hS hR
    simp only [decide_eq_true_eq, decide_eq_false_iff_not, beq_iff_eq, beq_eq_false_iff_ne, bne_iff_ne, ne_eq, bne_eq_false_iff_eq, Decidable.not_not, Bool.not_eq_true', Bool.not_eq_false'] at *
    first
    | (exfalso; omega)
    | (rw [show k.err = 1 by unfold K.err; rw [if_pos (by omega)]]; rfl)
    | (rw [show k.err = 2 by unfold K.err; rw [if_neg (by omega), if_pos (by omega)]]; rfl)
    | (rw [show k.err = 2 by unfold K.err; rw [if_neg (by omega), if_neg (by omega), if_pos (by omega)]]; rfl)
    | (rw [show k.err = 0 by unfold K.err; rw [if_neg (by omega), if_neg (by omega), if_neg (by omega)]]; rfl)

end
end Go.Proofs.YtbmfpkpcljihgaaDoor.X
