/- Contracts of the statements' helpers on errors; conditions: none. -/
import Derived.Test.YtbmfpkpcljihgaaDoorR2
import Derived.LaidEql
namespace Go.Proofs.YtbmfpkpcljihgaaDoor.X
open Go Go.Proofs
set_option linter.unusedSimpArgs false
set_option linter.unusedVariables false
attribute [local irreducible] CW OpsW RetW Spec blk snap DrawP AnyW AnyM AnyN bits IntKind.wrap vec
abbrev errV (a : Addr) : Value := .iface 187 (.pointer (some a))
abbrev errGs : List Nat := [5, 4, 1, 6, 0, 3, 7, 8, 2, 9, 10, 11]
section
variable {C : Cfg} {N : Nat} {gd : List (Option Nat)} {r : List Oper} {σ : Env} {w z : World} {Q : Env → World → Prop} {As : List HP} {x y : Operand} {d t U E : Nat} {ty yt : TypeId} {pos : String} {af : Array Edge} {g : Option (Nat × Bool)} {a b : Addr} {i j : TypeInfo} {ms : Array (String × TypeId)}
end
section
variable {z w : World} {As : List HP} {ads : List Addr}
theorem errT : ∃ i j, cf.P.info? 187 = some i ∧ i.comparable = true ∧ cf.P.info? 209 = some j ∧ j.size ≠ 0 := by
  have h1 : (cf.P.info? 187).map (·.comparable) = some true := by kernel_rfl
  have h2 : (cf.P.info? 209).map (·.size) = some 1 := by kernel_rfl
  cases e1 : cf.P.info? 187 with
  | none => rw [e1] at h1; cases h1
  | some i =>
    cases e2 : cf.P.info? 209 with
    | none => rw [e2] at h2; cases h2
    | some j =>
      rw [e1] at h1; rw [e2] at h2
      exact ⟨i, j, rfl, by simpa using h1, rfl, by simp at h2; omega⟩
end
end Go.Proofs.YtbmfpkpcljihgaaDoor.X
