/- The engine of this seat's proofs: addresses and slices of arrays come first, too; conditions: none. -/
import Derived.Test.YtbmfpkpcljihgaaDoorX27
namespace Go.Proofs.YtbmfpkpcljihgaaDoor.X
open Go
set_option linter.unusedSimpArgs false
set_option linter.unusedVariables false
section
variable {C : Cfg} {N n : Nat} {σ σ' : Env} {w : World} {l : List Oper} {M : List Bool} {Q : Env → World → Prop} {x y : Operand} {d t sz b off : Nat} {ty : TypeId} {pos : String} {af : Array Edge} {g : Option (Nat × Bool)}
theorem AnyN.takeIx {i k len cap : Nat} {z : Int} {kd : IntKind} (hM : M[i]? = some false) (ho : l[i]? = some ⟨some d, .indexAddr t x y, ty, pos, af, g⟩) (hg : wan (dsts l) σ g = some true) (hx : ev σ x = .slice (some ⟨b, off, none⟩) len cap) (hy : ev σ y = .int kd z) (hk : Nat.beq (C.T.kind.getD t 0) 4 = true) (he : Nat.blt 0 (C.T.kind.getD (C.T.elem.getD t 0) 0) = true)
    (hsz : C.T.size[C.T.elem.getD t 0]? = some sz) (hn : z = k) (hl : k < len) (hd : Nat.blt d N = true) (hf : takeOk l M i = true) (h : AnyN C N l n (M.set i true) (upd σ d (.pointer (some ⟨b, off + k * sz, none⟩))) w Q) : AnyN C N l (n + 1) M σ w Q := by
  have hsz' : C.T.size.getD (C.T.elem.getD t 0) 0 = sz := by rw [List.getD_eq_getElem?_getD, hsz]; rfl
  subst hn
  refine .takeG (v := .pointer (some ⟨b, off + k * sz, none⟩)) hM ho hg (fun w => run_v ?_) (by simp only [putE, hd]) hf h
  have hu := Tab.slice_ C.ok (Nat.eq_of_beq_eq_true hk)
  obtain ⟨ie, hie, hse⟩ := Tab.info_ C.ok (rfl : C.T.kind.getD (C.T.elem.getD t 0) 0 = _) (by have := Nat.le_of_ble_eq_true he; omega)
  simp only [Instr.indexAt, hx, hy, asIntOf, Sem.run_bind, Sem.run_pure, Result.andThen_ok, run_und hu]
  rw [if_pos ⟨by omega, by omega⟩]
  simp only [Sem.run_bind, run_sizeOf hie, Result.andThen_ok, Sem.run_pure, add_off, hse, hsz']
  simp
end
end Go.Proofs.YtbmfpkpcljihgaaDoor.X
