/- The engine of this seat's proofs, part 19: an interface that holds what is asked for; bits turned round; conditions: none. -/
import Derived.Test.YtgaabaohkpjllaaDoorX18
namespace Go.Proofs.YtgaabaohkpjllaaDoor.X
open Go
set_option linter.unusedSimpArgs false
set_option linter.unusedVariables false
section
variable {C : Cfg} {N : Nat} {gd : List (Option Nat)} {r : List Oper} {σ : Env} {w z : World} {Q : Env → World → Prop} {As : List HP} {x y : Operand} {d t E : Nat} {ty yt : TypeId} {pos : String} {af : Array Edge} {g : Option (Nat × Bool)}
theorem OpsW.tasT {xt : TypeId} {v : Value} (hg : wan gd σ g = some true) (hx : ev σ x = .iface t v) (hk : Nat.beq (C.T.kind.getD t 0) 8 = true) (hd : Nat.blt d N = true)
    (k : OpsW C N gd r (upd σ d (.tuple #[v, .bool true])) w Q) : OpsW C N gd (⟨some d, .typeAssert x xt t true, ty, pos, af, g⟩ :: r) σ w Q := by
  have hk8 := Nat.eq_of_beq_eq_true hk
  have hu := Tab.ptr_ C.ok hk8
  refine .val (v := .tuple #[v, .bool true]) (w' := w) hg (run_v ?_) (by simp only [putE, hd]) k
  show (Instr.typeAssert (ev σ x) xt t true).run C.P w = _
  rw [hx, Instr.typeAssert]
  simp [run_underlying hu]
theorem OpsW.not64 {n : Int} (hg : wan gd σ g = some true) (hx : ev σ x = .int .u64 n) (hd : Nat.blt d N = true)
    (k : OpsW C N gd r (upd σ d (.int .u64 (bits .xor .u64 18446744073709551615 n))) w Q) : OpsW C N gd (⟨some d, .unOp .xor t x, ty, pos, af, g⟩ :: r) σ w Q := by
  refine .val (v := .int .u64 (bits .xor .u64 18446744073709551615 n)) (w' := w) hg (run_v ?_) (by simp only [putE, hd]) k
  rw [hx]
  rfl
end
end Go.Proofs.YtgaabaohkpjllaaDoor.X
