/- The engine of this seat's proofs: addresses and slices of arrays come first, too; conditions: none. -/
import Derived.Test.YtbmfpkpcljihgaaDoorX27
namespace Go.Proofs.YtbmfpkpcljihgaaDoor.X
open Go
set_option linter.unusedSimpArgs false
set_option linter.unusedVariables false
section
variable {C : Cfg} {N n : Nat} {σ σ' : Env} {w : World} {l : List Oper} {M : List Bool} {Q : Env → World → Prop} {x y : Operand} {d t sz b off : Nat} {ty : TypeId} {pos : String} {af : Array Edge} {g : Option (Nat × Bool)}
theorem AnyN.takeSA {i k : Nat} (hM : M[i]? = some false) (ho : l[i]? = some ⟨some d, .slice t x none none none, ty, pos, af, g⟩) (hg : wan (dsts l) σ g = some true) (hx : ev σ x = .pointer (some ⟨b, off, none⟩)) (hk : Nat.beq (C.T.kind.getD t 0) 5 = true) (he : Nat.blt 0 (C.T.kind.getD (C.T.elem.getD t 0) 0) = true)
    (hn : C.T.alen.getD t 0 = k) (hd : Nat.blt d N = true) (hf : takeOk l M i = true) (h : AnyN C N l n (M.set i true) (upd σ d (.slice (some ⟨b, off, none⟩) k k)) w Q) : AnyN C N l (n + 1) M σ w Q := by
  have hu := Tab.array_ C.ok (Nat.eq_of_beq_eq_true hk)
  obtain ⟨ie, hie, hse⟩ := Tab.info_ C.ok (rfl : C.T.kind.getD (C.T.elem.getD t 0) 0 = _) (by have := Nat.le_of_ble_eq_true he; omega)
  subst hn
  refine .takeG (v := .slice (some ⟨b, off, none⟩) (C.T.alen.getD t 0) (C.T.alen.getD t 0)) hM ho hg (fun w => run_v ?_) (by simp only [putE, hd]) hf h
  show (Instr.sliceAt t (ev σ x) none none none).run C.P w = _
  rw [hx, Instr.sliceAt, X.run_bind _ _ _ _ _ _ (run_und hu w)]
  have hr := run_sizeOf hie w
  generalize C.T.elem.getD t 0 = E at *
  generalize C.T.alen.getD t 0 = n at *
  simp [Instr.sureAddr, Instr.sliceBounds, Instr.sliceBound, hr, Addr.add]
end
end Go.Proofs.YtbmfpkpcljihgaaDoor.X
