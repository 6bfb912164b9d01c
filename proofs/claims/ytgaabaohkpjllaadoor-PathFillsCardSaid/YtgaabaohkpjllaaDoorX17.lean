/- The engine of this seat's proofs, part 18: values put in another form as they are made; conditions: none. -/
import Derived.Test.YtgaabaohkpjllaaDoorX16
namespace Go.Proofs.YtgaabaohkpjllaaDoor.X
open Go
set_option linter.unusedSimpArgs false
set_option linter.unusedVariables false
section
variable {C : Cfg} {N : Nat} {gd : List (Option Nat)} {r : List Oper} {σ : Env} {w z : World} {Q : Env → World → Prop} {d : Nat}
theorem OpsW.stV {o : Oper} {v0 v : Value} (h : stepE C.T N gd σ o = some (upd σ d v0)) (e : v0 = v) (k : OpsW C N gd r (upd σ d v) w Q) : OpsW C N gd (o :: r) σ w Q := by
  subst e; exact .st h k
end
theorem upds_self {σ : Env} : ∀ {l : List (Nat × Value)}, AllEq σ l → upds σ l = σ
  | [], _ => rfl
  | (d, v) :: l, ⟨h1, h2⟩ => by rw [upds, upds_self h2, upd_self h1]
/-- Only the slots that are needed. -/
theorem CW.trim {C : Cfg} {N : Nat} {x : Code} {σ : Env} {w : World} {Q : Post} (l : List (Nat × Value)) (h : AllEq σ l) (k : ∀ τ, upds τ l = σ → CW C N x (upds τ l) w Q) : CW C N x σ w Q := by
  have := k σ (upds_self h); rwa [upds_self h] at this
theorem OpsW.trim {C : Cfg} {N : Nat} {gd : List (Option Nat)} {r : List Oper} {σ : Env} {w : World} {Q : Env → World → Prop} (l : List (Nat × Value)) (h : AllEq σ l) (k : ∀ τ, upds τ l = σ → OpsW C N gd r (upds τ l) w Q) : OpsW C N gd r σ w Q := by
  have := k σ (upds_self h); rwa [upds_self h] at this
theorem Agree.trim {D : Nat → Bool} {τ σ σ₀ : Env} {l : List (Nat × Value)} (hτ : upds τ l = σ) (h : Agree D σ σ₀) : Agree D (upds τ l) σ₀ := hτ ▸ h
theorem neS (a : Int) : Value.bool (a != a) = .bool false := by simp
theorem neSb (a : Bool) : Value.bool (a != a) = .bool false := by simp
theorem eqS (a : Int) : Value.bool (a == a) = .bool true := by simp
theorem eqSb (a : Bool) : Value.bool (a == a) = .bool true := by simp
theorem notS : Value.bool (!true) = .bool false := rfl
theorem notF : Value.bool (!false) = .bool true := rfl
end Go.Proofs.YtgaabaohkpjllaaDoor.X
