/- Contracts of chapter 19 (holes): Is, Of, Closed; conditions: none. -/
import Derived.Test.YtdbnkimegdogjaaA19r
import Derived.Test.YtdbnkimegdogjaaA7d
import Derived.Test.YtdbnkimegdogjaaR1
--AUTODROP
namespace Go.Proofs.Ytdbnkimegdogjaa.X
open Go Go.Proofs
set_option linter.unusedSimpArgs false
set_option linter.unusedVariables false
attribute [local irreducible] CW OpsW RetW Spec blk snap DrawP AnyW AnyM AnyN bits IntKind.wrap vec K.sensory namedF reach K.valid K.weaken K.same
def isHole (fs : List Fac) (k : K) : Bool := (reach fs (fs.length + 1) k (List.replicate fs.length false)).1
section
variable {z w : World} {As : List HP}
theorem hole_is {fs : List Fac} {v : Value} (H : Sat z w As) (hl : fs.length ≤ 1000000) (hv : SlR As v 4 fs.length (fs.flatMap Fac.c)) (hok : ∀ f ∈ fs, f.ok As ∧ f.parts.length ≤ 1000000) (k : K) :
    Spec cf 9 #[k.v, v] w fun e w' => e = .bool (isHole fs k) ∧ Sat z w' As := by
  obtain ⟨a, cp, rfl⟩ := lenW hv
  refine enter (l := [k.v, .slice a fs.length cp]) Try.func9 rfl rfl rfl rfl rfl ?_
  repeat' (first | (refine zA ?_; first | refine zB ?_ | refine zC H ?_ | refine zD H ?_ | refine zE H fun _ _ H => ?_ | refine zF H fun _ _ H => ?_ | refine zG H fun _ H => ?_ | refine zH H fun _ H => ?_) | (refine zI ?_; first | refine zJ ?_ | refine zK ?_ | refine zL ?_ | refine zM ?_ | refine zN ?_ | refine zO ?_ | refine zP ?_ | refine zQ ?_ | refine zR ?_) | refine zS ?_)
  (first | refine CW.drawN mo H fun w H => ?_ | refine CW.seqDrawN mo H fun w H => ?_)
  repeat' (first | refine AnyN.take (i := 0) rfl rfl rfl (by decide +kernel) ?_ | refine AnyN.take (i := 1) rfl rfl rfl (by decide +kernel) ?_ | refine AnyN.take (i := 2) rfl rfl rfl (by decide +kernel) ?_ | refine AnyN.take (i := 3) rfl rfl rfl (by decide +kernel) ?_ | refine AnyN.take (i := 4) rfl rfl rfl (by decide +kernel) ?_ | refine AnyN.take (i := 5) rfl rfl rfl (by decide +kernel) ?_ | refine AnyN.take (i := 6) rfl rfl rfl (by decide +kernel) ?_ | refine AnyN.take (i := 7) rfl rfl rfl (by decide +kernel) ?_ | refine AnyN.take (i := 8) rfl rfl rfl (by decide +kernel) ?_ | refine AnyN.take (i := 9) rfl rfl rfl (by decide +kernel) ?_ | refine AnyN.take (i := 10) rfl rfl rfl (by decide +kernel) ?_ | refine AnyN.take (i := 11) rfl rfl rfl (by decide +kernel) ?_ | refine AnyN.take (i := 12) rfl rfl rfl (by decide +kernel) ?_ | refine AnyN.take (i := 13) rfl rfl rfl (by decide +kernel) ?_ | refine AnyN.take (i := 14) rfl rfl rfl (by decide +kernel) ?_ | refine AnyN.take (i := 15) rfl rfl rfl (by decide +kernel) ?_ | refine AnyN.take (i := 16) rfl rfl rfl (by decide +kernel) ?_ | refine AnyN.take (i := 17) rfl rfl rfl (by decide +kernel) ?_ | refine AnyN.take (i := 18) rfl rfl rfl (by decide +kernel) ?_ | refine AnyN.take (i := 19) rfl rfl rfl (by decide +kernel) ?_ | refine AnyN.take (i := 20) rfl rfl rfl (by decide +kernel) ?_ | refine AnyN.take (i := 21) rfl rfl rfl (by decide +kernel) ?_ | refine AnyN.take (i := 22) rfl rfl rfl (by decide +kernel) ?_ | refine AnyN.take (i := 23) rfl rfl rfl (by decide +kernel) ?_ | refine AnyN.take (i := 24) rfl rfl rfl (by decide +kernel) ?_ | refine AnyN.take (i := 25) rfl rfl rfl (by decide +kernel) ?_ | refine AnyN.take (i := 26) rfl rfl rfl (by decide +kernel) ?_ | refine AnyN.take (i := 27) rfl rfl rfl (by decide +kernel) ?_)
  repeat' (first | exact AllI.nil' rfl | refine AllI.cons' rfl rfl ?_ ?_ | refine AnyN.step rfl rfl ?_ | (first | refine AnyN.take (i := 0) rfl rfl rfl (by decide +kernel) ?_ | refine AnyN.take (i := 1) rfl rfl rfl (by decide +kernel) ?_ | refine AnyN.take (i := 2) rfl rfl rfl (by decide +kernel) ?_ | refine AnyN.take (i := 3) rfl rfl rfl (by decide +kernel) ?_ | refine AnyN.take (i := 4) rfl rfl rfl (by decide +kernel) ?_ | refine AnyN.take (i := 5) rfl rfl rfl (by decide +kernel) ?_ | refine AnyN.take (i := 6) rfl rfl rfl (by decide +kernel) ?_ | refine AnyN.take (i := 7) rfl rfl rfl (by decide +kernel) ?_ | refine AnyN.take (i := 8) rfl rfl rfl (by decide +kernel) ?_ | refine AnyN.take (i := 9) rfl rfl rfl (by decide +kernel) ?_ | refine AnyN.take (i := 10) rfl rfl rfl (by decide +kernel) ?_ | refine AnyN.take (i := 11) rfl rfl rfl (by decide +kernel) ?_ | refine AnyN.take (i := 12) rfl rfl rfl (by decide +kernel) ?_ | refine AnyN.take (i := 13) rfl rfl rfl (by decide +kernel) ?_ | refine AnyN.take (i := 14) rfl rfl rfl (by decide +kernel) ?_ | refine AnyN.take (i := 15) rfl rfl rfl (by decide +kernel) ?_ | refine AnyN.take (i := 16) rfl rfl rfl (by decide +kernel) ?_ | refine AnyN.take (i := 17) rfl rfl rfl (by decide +kernel) ?_ | refine AnyN.take (i := 18) rfl rfl rfl (by decide +kernel) ?_ | refine AnyN.take (i := 19) rfl rfl rfl (by decide +kernel) ?_ | refine AnyN.take (i := 20) rfl rfl rfl (by decide +kernel) ?_ | refine AnyN.take (i := 21) rfl rfl rfl (by decide +kernel) ?_ | refine AnyN.take (i := 22) rfl rfl rfl (by decide +kernel) ?_ | refine AnyN.take (i := 23) rfl rfl rfl (by decide +kernel) ?_ | refine AnyN.take (i := 24) rfl rfl rfl (by decide +kernel) ?_ | refine AnyN.take (i := 25) rfl rfl rfl (by decide +kernel) ?_ | refine AnyN.take (i := 26) rfl rfl rfl (by decide +kernel) ?_ | refine AnyN.take (i := 27) rfl rfl rfl (by decide +kernel) ?_) | refine OpsW.mks H rfl rfl rfl rfl rfl hl rfl rfl rfl rfl rfl fun bm w H => ?_ | (first | (refine zA ?_; first | refine zB ?_ | refine zC H ?_ | refine zD H ?_ | refine zE H fun _ _ H => ?_ | refine zF H fun _ _ H => ?_ | refine zG H fun _ H => ?_ | refine zH H fun _ H => ?_) | (refine zI ?_; first | refine zJ ?_ | refine zK ?_ | refine zL ?_ | refine zM ?_ | refine zN ?_ | refine zO ?_ | refine zP ?_ | refine zQ ?_ | refine zR ?_) | refine zS ?_))
  all_goals
    rw [show repl fs.length (cf.T.zero.getD (cf.T.elem.getD 44 0) []) = (List.replicate fs.length false).map .bool from by rw [List.map_replicate]; exact repl_one _ _] at H
    refine OpsW.call rfl rfl rfl (reach_ fs hl (fs.length + 1) _ _ _ bm k (List.replicate fs.length false) fs.length (by simp) (by simp) (Nat.le_refl _) H hv.tail fun f hf => ⟨SlR.tail (hok f hf).1, (hok f hf).2⟩) ?_
    rintro _ w ⟨rfl, H⟩
    refine OpsW.nil ?_
    repeat' (first | refine AnyN.take (i := 0) rfl rfl rfl (by decide +kernel) ?_ | refine AnyN.take (i := 1) rfl rfl rfl (by decide +kernel) ?_ | refine AnyN.take (i := 2) rfl rfl rfl (by decide +kernel) ?_ | refine AnyN.take (i := 3) rfl rfl rfl (by decide +kernel) ?_ | refine AnyN.take (i := 4) rfl rfl rfl (by decide +kernel) ?_ | refine AnyN.take (i := 5) rfl rfl rfl (by decide +kernel) ?_ | refine AnyN.take (i := 6) rfl rfl rfl (by decide +kernel) ?_ | refine AnyN.take (i := 7) rfl rfl rfl (by decide +kernel) ?_ | refine AnyN.take (i := 8) rfl rfl rfl (by decide +kernel) ?_ | refine AnyN.take (i := 9) rfl rfl rfl (by decide +kernel) ?_ | refine AnyN.take (i := 10) rfl rfl rfl (by decide +kernel) ?_ | refine AnyN.take (i := 11) rfl rfl rfl (by decide +kernel) ?_ | refine AnyN.take (i := 12) rfl rfl rfl (by decide +kernel) ?_ | refine AnyN.take (i := 13) rfl rfl rfl (by decide +kernel) ?_ | refine AnyN.take (i := 14) rfl rfl rfl (by decide +kernel) ?_ | refine AnyN.take (i := 15) rfl rfl rfl (by decide +kernel) ?_ | refine AnyN.take (i := 16) rfl rfl rfl (by decide +kernel) ?_ | refine AnyN.take (i := 17) rfl rfl rfl (by decide +kernel) ?_ | refine AnyN.take (i := 18) rfl rfl rfl (by decide +kernel) ?_ | refine AnyN.take (i := 19) rfl rfl rfl (by decide +kernel) ?_ | refine AnyN.take (i := 20) rfl rfl rfl (by decide +kernel) ?_ | refine AnyN.take (i := 21) rfl rfl rfl (by decide +kernel) ?_ | refine AnyN.take (i := 22) rfl rfl rfl (by decide +kernel) ?_ | refine AnyN.take (i := 23) rfl rfl rfl (by decide +kernel) ?_ | refine AnyN.take (i := 24) rfl rfl rfl (by decide +kernel) ?_ | refine AnyN.take (i := 25) rfl rfl rfl (by decide +kernel) ?_ | refine AnyN.take (i := 26) rfl rfl rfl (by decide +kernel) ?_ | refine AnyN.take (i := 27) rfl rfl rfl (by decide +kernel) ?_)
    refine AnyN.done rfl ?_
    repeat' (first | (refine zA ?_; first | refine zB ?_ | refine zC H ?_ | refine zD H ?_ | refine zE H fun _ _ H => ?_ | refine zF H fun _ _ H => ?_ | refine zG H fun _ H => ?_ | refine zH H fun _ H => ?_) | (refine zI ?_; first | refine zJ ?_ | refine zK ?_ | refine zL ?_ | refine zM ?_ | refine zN ?_ | refine zO ?_ | refine zP ?_ | refine zQ ?_ | refine zR ?_) | refine zS ?_)
    exact ret1 rfl ⟨rfl, H.drop.drop⟩
theorem hole_is0 (H : Sat z w As) (k : K) : Spec cf 9 #[k.v, .slice none 0 0] w fun e w' => e = .bool (!k.sensory) ∧ Sat z w' As := by
  have := hole_is (fs := []) (v := .slice none 0 0) H (by simp) SlR.nil_ (fun f hf => by cases hf) k
  have e : isHole [] k = !k.sensory := by
    unfold isHole reach
    cases hs : k.sensory
    · have : namedF [] k = none := by unfold namedF; split <;> rfl
      simp [this]
    · rfl
  rw [e] at this
  exact this
theorem first19_ (H : Sat z w As) : Spec cf 4 #[] w fun e w' => e = .bool true ∧ Sat z w' As := by
  refine enter (l := []) Try.func4 rfl rfl rfl rfl rfl ?_
  repeat' (first | (refine zA ?_; first | refine zB ?_ | refine zC H ?_ | refine zD H ?_ | refine zE H fun _ _ H => ?_ | refine zF H fun _ _ H => ?_ | refine zG H fun _ H => ?_ | refine zH H fun _ H => ?_) | (refine zI ?_; first | refine zJ ?_ | refine zK ?_ | refine zL ?_ | refine zM ?_ | refine zN ?_ | refine zO ?_ | refine zP ?_ | refine zQ ?_ | refine zR ?_) | refine zS ?_)
  have h5 : K.sensory ⟨5, 0, 0, 0, 0⟩ = false := by simp [K.sensory, K.weaken, K.same, K.void]
  have h1 : K.sensory ⟨1, 0, 0, 0, 0⟩ = true := by simp [K.sensory, K.weaken, K.same]
  refine OpsW.call rfl rfl rfl (hole_is0 H ⟨5, 0, 0, 0, 0⟩) ?_
  rintro _ w ⟨rfl, H⟩
  rw [h5]
  repeat' (first | (refine zA ?_; first | refine zB ?_ | refine zC H ?_ | refine zD H ?_ | refine zE H fun _ _ H => ?_ | refine zF H fun _ _ H => ?_ | refine zG H fun _ H => ?_ | refine zH H fun _ H => ?_) | (refine zI ?_; first | refine zJ ?_ | refine zK ?_ | refine zL ?_ | refine zM ?_ | refine zN ?_ | refine zO ?_ | refine zP ?_ | refine zQ ?_ | refine zR ?_) | refine zS ?_)
  refine OpsW.call rfl rfl rfl (hole_is0 H ⟨1, 0, 0, 0, 0⟩) ?_
  rintro _ w ⟨rfl, H⟩
  rw [h1]
  repeat' (first | (refine zA ?_; first | refine zB ?_ | refine zC H ?_ | refine zD H ?_ | refine zE H fun _ _ H => ?_ | refine zF H fun _ _ H => ?_ | refine zG H fun _ H => ?_ | refine zH H fun _ H => ?_) | (refine zI ?_; first | refine zJ ?_ | refine zK ?_ | refine zL ?_ | refine zM ?_ | refine zN ?_ | refine zO ?_ | refine zP ?_ | refine zQ ?_ | refine zR ?_) | refine zS ?_)
  exact ret1 rfl ⟨rfl, H⟩
end
end Go.Proofs.Ytdbnkimegdogjaa.X
