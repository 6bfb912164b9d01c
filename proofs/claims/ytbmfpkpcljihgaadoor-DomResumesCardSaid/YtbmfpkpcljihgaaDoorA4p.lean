/- More contracts of chapter 4 (arena): a copy, bounds; conditions: none. -/
import Derived.Test.YtbmfpkpcljihgaaDoorA4
import Derived.Test.YtbmfpkpcljihgaaDoorSE
--AUTODROP
namespace Go.Proofs.YtbmfpkpcljihgaaDoor.X
open Go Go.Proofs
set_option linter.unusedSimpArgs false
set_option linter.unusedVariables false
attribute [local irreducible] CW OpsW RetW Spec blk snap DrawP AnyW AnyM AnyN bits IntKind.wrap vec
section
variable {z w : World} {Rs : List HP} {ba : Nat} {l : List Pl}
theorem arena_ver (H : Sat z w (arena ba l :: Rs)) (i : Nat) (hi : i < l.length) : Spec cf 25 #[.pointer (some ⟨ba, 0, none⟩), .int .i64 i] w fun r w' => r = .int .i64 l[i].ver ∧ Sat z w' (arena ba l :: Rs) := by
  refine enter (l := [.pointer (some ⟨ba, 0, none⟩), .int .i64 i]) Tryd.func25 rfl rfl rfl rfl rfl ?_
  obtain ⟨b, cap, rest, hc, H⟩ := arena_open H
  have hg := pl_get l rest i 1 hi (by decide)
  repeat' (first | (refine zA ?_; first | refine zB ?_ | refine zC H ?_ | refine zD H ?_ | refine zE H fun _ _ H => ?_ | refine zF H fun _ _ H => ?_ | refine zG H fun _ H => ?_ | refine zH H fun _ H => ?_) | (refine zI ?_; first | refine zJ ?_ | refine zK ?_ | refine zL ?_ | refine zM ?_ | refine zN ?_ | refine zO ?_ | refine zP ?_ | refine zQ ?_ | refine zR ?_) | refine zS ?_)
  refine CW.cond rfl (fun h => absurd (of_decide_eq_true h) (by show ¬ ((i : Int) ≥ (l.length : Int)); omega)) (fun h0 => ?_)
  repeat' (first | (refine zA ?_; first | refine zB ?_ | refine zC H ?_ | refine zD H ?_ | refine zE H fun _ _ H => ?_ | refine zF H fun _ _ H => ?_ | refine zG H fun _ H => ?_ | refine zH H fun _ H => ?_) | (refine zI ?_; first | refine zJ ?_ | refine zK ?_ | refine zL ?_ | refine zM ?_ | refine zN ?_ | refine zO ?_ | refine zP ?_ | refine zQ ?_ | refine zR ?_) | refine zS ?_)
  refine OpsW.ix (n := i) rfl rfl rfl rfl rfl rfl rfl hi rfl ?_
  repeat' (first | (refine zA ?_; first | refine zB ?_ | refine zC H ?_ | refine zD H ?_ | refine zE H fun _ _ H => ?_ | refine zF H fun _ _ H => ?_ | refine zG H fun _ H => ?_ | refine zH H fun _ H => ?_) | (refine zI ?_; first | refine zJ ?_ | refine zK ?_ | refine zL ?_ | refine zM ?_ | refine zN ?_ | refine zO ?_ | refine zP ?_ | refine zQ ?_ | refine zR ?_) | refine zS ?_)
  refine OpsW.ld H (pS p0) rfl rfl rfl rfl hg rfl ?_
  repeat' (first | (refine zA ?_; first | refine zB ?_ | refine zC H ?_ | refine zD H ?_ | refine zE H fun _ _ H => ?_ | refine zF H fun _ _ H => ?_ | refine zG H fun _ H => ?_ | refine zH H fun _ H => ?_) | (refine zI ?_; first | refine zJ ?_ | refine zK ?_ | refine zL ?_ | refine zM ?_ | refine zN ?_ | refine zO ?_ | refine zP ?_ | refine zQ ?_ | refine zR ?_) | refine zS ?_)
  exact ret1 rfl ⟨rfl, arena_close H rfl hc⟩
end
end Go.Proofs.YtbmfpkpcljihgaaDoor.X
