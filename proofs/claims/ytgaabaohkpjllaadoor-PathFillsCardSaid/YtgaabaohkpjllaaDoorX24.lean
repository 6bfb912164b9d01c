/- The engine of this seat's proofs, part 24: a call of a function value for its deed alone; conditions: none. -/
import Derived.Test.YtgaabaohkpjllaaDoorX23
namespace Go.Proofs.YtgaabaohkpjllaaDoor.X
open Go
set_option linter.unusedSimpArgs false
section
variable {C : Cfg} {N : Nat} {gd : List (Option Nat)} {r : List Oper} {σ : Env} {w : World} {Q : Env → World → Prop}
theorem OpsW.callv0 {f : FuncId} {x : Operand} {fs cap : Array Value} {args : Array Operand} {vs : List Value} {ts : Array TypeId} {ty : TypeId} {pos : String} {af : Array Edge} {g : Option (Nat × Bool)} {R : Value → World → Prop}
    (hg : wan gd σ g = some true) (hx : ev σ x = .func (.func f) fs cap) (ha : forceL (fs.toList ++ mapE σ args.toList ++ cap.toList) some = some vs) (hs : Spec C f vs.toArray w R)
    (k : ∀ v w', R v w' → OpsW C N gd r σ w' Q) : OpsW C N gd (⟨none, .call ⟨.value x, args, ts⟩, ty, pos, af, g⟩ :: r) σ w Q := by
  obtain ⟨⟨fn, hf, hb, hn⟩, hs⟩ := hs
  rw [forceL_eq, Option.some.injEq] at ha
  refine .enter (f := f) (args := vs.toArray) hg ?_ hs fun v w' hv => ⟨_, ?_, k v w' hv⟩
  · rw [← ha, mapE_eq]
    show (resolve (ev σ) _ ty >>= fun d => invoke d.target d.args).run C.P w = _
    have e : fs ++ args.map (ev σ) ++ cap = (fs.toList ++ args.toList.map (ev σ) ++ cap.toList).toArray := by
      apply Array.ext'; simp
    simp only [resolve, hx, Deferred.ofValue, Sem.run_bind, Sem.run_pure, Result.andThen_ok, invoke, ← e]
    exact callFunc_run C.P hf hb hn _ w
  · simp [putE]
end
end Go.Proofs.YtgaabaohkpjllaaDoor.X
