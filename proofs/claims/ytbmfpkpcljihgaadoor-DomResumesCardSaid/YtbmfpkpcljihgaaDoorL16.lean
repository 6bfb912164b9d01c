/- The law DomStalls of chapter 16, walked; conditions: none. -/
import Derived.Test.YtbmfpkpcljihgaaDoorAD
import Derived.Test.YtbmfpkpcljihgaaDoorAN
import Derived.Test.YtbmfpkpcljihgaaDoorGB
import Derived.Deep.Slices
import Derived.Deep.Fields
import Derived.ChangeSame
import Derived.ProofKit
import Derived.OpenShut
import Derived.ChangeOld
import Derived.Test.YtbmfpkpcljihgaaDoorGC
namespace Go.Proofs.YtbmfpkpcljihgaaDoor.X
open Go Go.Proofs
set_option linter.unusedSimpArgs false
set_option linter.unusedVariables false
/-- Domains that are there, some of those who wait. -/
def dsM (N c : Nat) (d : Nat → Dm) (q : Nat → List Int) : Ds := ⟨N, mF c, d, q⟩
section
variable {N c : Nat} {d : Nat → Dm} {q : Nat → List Int} {o : List Int} {f : Nat → Int}
theorem dsM_0 (N : Nat) : Ds.new N = dsM N 0 (fun _ => Dm.z) (fun _ => []) := by
  unfold Ds.new dsM
  congr 1
theorem dsM_make (N c : Nat) (d : Nat → Dm) (q : Nat → List Int) : (dsM N c d q).make c = dsM N (c + 1) (fun j => if j = c then Dm.n else d j) q := by
  unfold Ds.make dsM
  dsimp only
  rw [mF_up]
theorem dsM_N : (dsM N c d q).N = N := rfl
theorem dsM_d {i : Nat} : (dsM N c d q).d i = d i := rfl
theorem dsM_free : ((dsM N c d q).f c).free = true := by
  show (mF c c).free = true
  rw [mF_ge (Nat.le_refl c)]; rfl
theorem dsM_taken {j : Nat} (hj : j < c) : ((dsM N c d q).f j).free = false := by
  show (mF c j).free = false
  rw [mF_lt hj]; rfl
theorem dsM_ver : ((dsM N c d q).f c).ver = 0 := by
  show (mF c c).ver = 0
  rw [mF_ge (Nat.le_refl c)]
/-- What holds of the order and of whom each waits for. -/
structure SO (o : List Int) (f : Nat → Int) : Prop where
  rng : ∀ x ∈ o, ∃ k : Nat, k < 6 ∧ x = k
  nd : o.Nodup
  mem : ∀ j : Nat, j < 6 → 0 ≤ f j → (j : Int) ∈ o
end
attribute [local irreducible] CW OpsW RetW Spec blk snap DrawP AnyW AnyM AnyN bits IntKind.wrap vec arena eA queue Dm.c dms qps domP dsM
section
variable {z w : World} {Rs As : List HP} {bd : Nat} {s : Ds} {ads : List Addr}
theorem first16_ (H : Sat z w As) {te : TypeId} {ve : Value} (hE : GlobV As 3 (.iface te ve)) : Spec cf 10 #[] w fun e w' => e = .bool true ∧ Sat z w' As := by
  refine enter (l := []) Tryd.func10 rfl rfl rfl rfl rfl ?_
  repeat' (first | (refine zA ?_; first | refine zB ?_ | refine zC H ?_ | refine zD H ?_ | refine zE H fun _ _ H => ?_ | refine zF H fun _ _ H => ?_ | refine zG H fun _ H => ?_ | refine zH H fun _ H => ?_) | (refine zI ?_; first | refine zJ ?_ | refine zK ?_ | refine zL ?_ | refine CW.seqDc ?_ | refine CW.seqDb ?_ | refine CW.seqDl ?_ | refine CW.seqDs ?_ | refine CW.seqDk ?_ | refine zN ?_ | refine zO ?_ | refine zP ?_ | refine zQ ?_ | refine zR ?_) | refine zS ?_)
  refine OpsW.call rfl rfl rfl (dom_new H 3 (by decide) (by decide)) ?_
  rintro _ w ⟨bd, rfl, H⟩
  rw [dsM_0] at H
  repeat' (first | (refine zA ?_; first | refine zB ?_ | refine zC H ?_ | refine zD H ?_ | refine zE H fun _ _ H => ?_ | refine zF H fun _ _ H => ?_ | refine zG H fun _ H => ?_ | refine zH H fun _ H => ?_) | (refine zI ?_; first | refine zJ ?_ | refine zK ?_ | refine zL ?_ | refine CW.seqDc ?_ | refine CW.seqDb ?_ | refine CW.seqDl ?_ | refine CW.seqDs ?_ | refine CW.seqDk ?_ | refine zN ?_ | refine zO ?_ | refine zP ?_ | refine zQ ?_ | refine zR ?_) | refine zS ?_)
  have hmk := dom_make H (by rw [dsM_N]; decide) hE 0 (by rw [dsM_N]; decide) dsM_free (fun j hj => dsM_taken hj)
  rw [dsM_ver, dsM_make] at hmk
  refine OpsW.call rfl rfl rfl hmk ?_
  rintro _ w ⟨rfl, H⟩
  clear hmk
  repeat' (first | (refine zA ?_; first | refine zB ?_ | refine zC H ?_ | refine zD H ?_ | refine zE H fun _ _ H => ?_ | refine zF H fun _ _ H => ?_ | refine zG H fun _ H => ?_ | refine zH H fun _ H => ?_) | (refine zI ?_; first | refine zJ ?_ | refine zK ?_ | refine zL ?_ | refine CW.seqDc ?_ | refine CW.seqDb ?_ | refine CW.seqDl ?_ | refine CW.seqDs ?_ | refine CW.seqDk ?_ | refine zN ?_ | refine zO ?_ | refine zP ?_ | refine zQ ?_ | refine zR ?_) | refine zS ?_)
  refine OpsW.call rfl rfl rfl (dom_get H (by rw [dsM_N]; decide) 0 (by rw [dsM_N]; decide) (by with_unfolding_all decide)) ?_
  rintro _ w ⟨rfl, H⟩
  rw [dsM_d, if_pos rfl]
  repeat' (first | (refine zA ?_; first | refine zB ?_ | refine zC H ?_ | refine zD H ?_ | refine zE H fun _ _ H => ?_ | refine zG H fun _ H => ?_ | refine zH H fun _ H => ?_) | (refine zI ?_; first | refine zJ ?_ | refine zK ?_ | refine zL ?_ | refine zM ?_ | refine zN ?_ | refine zO ?_ | refine zP ?_ | refine zQ ?_ | refine zR ?_) | refine zS ?_)
  refine OpsW.alloc (l := Dm.z.c) H rfl rfl ((forceL_eq _ _).trans (congrArg some zero107V)) rfl fun bl w H => ?_
  repeat' (first | (refine zA ?_; first | refine zB ?_ | refine zC H ?_ | refine zD H ?_ | refine zE H fun _ _ H => ?_ | refine zG H fun _ H => ?_ | refine zH H fun _ H => ?_) | (refine zI ?_; first | refine zJ ?_ | refine zK ?_ | refine zL ?_ | refine zM ?_ | refine zN ?_ | refine zO ?_ | refine zP ?_ | refine zQ ?_ | refine zR ?_) | refine zS ?_)
  refine OpsW.strA (vs := Dm.n.c) H p0 rfl rfl (forceL_eq _ _) (Dm.scl _) rfl (Dm.len _) (by rw [Dm.len, Dm.len]; decide) fun w H => ?_
  rw [dm_over] at H
  repeat' (first | (refine zA ?_; first | refine zB ?_ | refine zC H ?_ | refine zD H ?_ | refine zE H fun _ _ H => ?_ | refine zG H fun _ H => ?_ | refine zH H fun _ H => ?_) | (refine zI ?_; first | refine zJ ?_ | refine zK ?_ | refine zL ?_ | refine zM ?_ | refine zN ?_ | refine zO ?_ | refine zP ?_ | refine zQ ?_ | refine zR ?_) | refine zS ?_)
  refine OpsW.ld H p0 rfl rfl rfl rfl (Dm.ldS _) rfl ?_
  repeat' (first | (refine zA ?_; first | refine zB ?_ | refine zC H ?_ | refine zD H ?_ | refine zE H fun _ _ H => ?_ | refine zG H fun _ H => ?_ | refine zH H fun _ H => ?_) | (refine zI ?_; first | refine zJ ?_ | refine zK ?_ | refine zL ?_ | refine zM ?_ | refine zN ?_ | refine zO ?_ | refine zP ?_ | refine zQ ?_ | refine zR ?_) | refine zS ?_)
  exact ret1 rfl ⟨rfl, H.d2⟩
end
end Go.Proofs.YtbmfpkpcljihgaaDoor.X
