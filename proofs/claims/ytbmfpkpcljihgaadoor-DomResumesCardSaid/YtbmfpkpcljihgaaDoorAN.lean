/- The contract of the laws' helper Number; conditions: none. -/
import Derived.Test.YtbmfpkpcljihgaaDoorGB
import Derived.Deep.Slices
import Derived.Deep.Fields
import Derived.ChangeSame
import Derived.ProofKit
import Derived.OpenShut
import Derived.ChangeOld
namespace Go.Proofs.YtbmfpkpcljihgaaDoor.X
open Go Go.Proofs
set_option linter.unusedSimpArgs false
set_option linter.unusedVariables false
attribute [local irreducible] CW OpsW RetW Spec blk snap DrawP AnyW bits IntKind.wrap
theorem number_law (a n : Int) (h : 0 < n) (hn : n ≤ 4611686018427387904) : (if a.tmod n < 0 then IntKind.wrap .i64 (a.tmod n + n) else a.tmod n) = a % n := by
  have h1 := Int.emod_nonneg a (Int.ne_of_gt h)
  have h2 := Int.emod_lt_of_pos a h
  have e : a.tmod n = a % n ∨ a.tmod n = a % n - n := by
    rw [Int.tmod_eq_emod]; split
    · left; omega
    · right
      have : (n.natAbs : Int) = n := by omega
      omega
  have h3 : -n < a.tmod n := by
    have := Int.lt_tmod_of_pos a h; omega
  split
  · rcases e with e | e
    · omega
    · rw [wrap64_id (by omega) (by omega)]; omega
  · rcases e with e | e
    · exact e
    · omega
section
variable (z w : World) (As : List HP) (H : Sat z w As)
include H
theorem number_ (a n : Int) (h : 0 < n) (hn : n ≤ 4611686018427387904) : Spec cf 13 #[.int .i64 a, .int .i64 n] w fun e w' => e = .int .i64 (a % n) ∧ Sat z w' As := by
  refine enter (l := [.int .i64 a, .int .i64 n]) Tryd.func13 rfl rfl rfl rfl rfl ?_
  have hl := number_law a n h hn
  repeat' (first | (refine zA ?_; first | refine zB ?_ | refine zC H ?_ | refine zD H ?_ | refine zE H fun _ _ H => ?_ | refine zF H fun _ _ H => ?_ | refine zG H fun _ H => ?_ | refine zH H fun _ H => ?_) | (refine zI ?_; first | refine zJ ?_ | refine zK ?_ | refine zL ?_ | refine zM ?_ | refine zN ?_ | refine zO ?_ | refine zP ?_ | refine zQ ?_ | refine zR ?_) | refine zS ?_)
  refine OpsW.rem rfl rfl rfl (Int.ne_of_gt h) rfl ?_
  repeat' (first | (refine zA ?_; first | refine zB ?_ | refine zC H ?_ | refine zD H ?_ | refine zE H fun _ _ H => ?_ | refine zF H fun _ _ H => ?_ | refine zG H fun _ H => ?_ | refine zH H fun _ H => ?_) | (refine zI ?_; first | refine zJ ?_ | refine zK ?_ | refine zL ?_ | refine zM ?_ | refine zN ?_ | refine zO ?_ | refine zP ?_ | refine zQ ?_ | refine zR ?_) | refine zS ?_)
  refine CW.cond rfl (fun h5 => ?_) (fun h5 => ?_)
  all_goals
    repeat' (first | (refine zA ?_; first | refine zB ?_ | refine zC H ?_ | refine zD H ?_ | refine zE H fun _ _ H => ?_ | refine zF H fun _ _ H => ?_ | refine zG H fun _ H => ?_ | refine zH H fun _ H => ?_) | (refine zI ?_; first | refine zJ ?_ | refine zK ?_ | refine zL ?_ | refine zM ?_ | refine zN ?_ | refine zO ?_ | refine zP ?_ | refine zQ ?_ | refine zR ?_) | refine zS ?_)
    refine ret1 rfl ⟨?_, by (first | exact H | exact H.drop | exact H.d2 | exact H.d3 | exact H.d4 | exact H.d5 | exact H.d6 | exact H.d7)⟩
    clear H
    rw [← hl]
    first | rw [if_pos (by simpa using h5)] | rw [if_neg (by simpa using h5)]
end
end Go.Proofs.YtbmfpkpcljihgaaDoor.X
