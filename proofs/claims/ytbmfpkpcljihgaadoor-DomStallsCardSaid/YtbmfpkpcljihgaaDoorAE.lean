/- Errors by number: 0 none, c the c-th of the twelve; conditions: none. -/
import Derived.Test.YtbmfpkpcljihgaaDoorA7
import Derived.Test.YtbmfpkpcljihgaaDoorSE
import Derived.Test.YtbmfpkpcljihgaaDoorA4q
import Derived.Test.YtbmfpkpcljihgaaDoorGC
import Derived.Test.YtbmfpkpcljihgaaDoorR2
--AUTODROP
namespace Go.Proofs.YtbmfpkpcljihgaaDoor.X
open Go Go.Proofs
set_option linter.unusedSimpArgs false
set_option linter.unusedVariables false
/-- The error of a number. -/
def eA (ads : List Addr) (c : Nat) : Value := if c = 0 then .nilIface else errV (ads.getD (c - 1) ⟨0, 0, none⟩)
theorem eA_pos {ads : List Addr} {c : Nat} (h : c ≠ 0) : eA ads c = errV (ads.getD (c - 1) ⟨0, 0, none⟩) := if_neg h
section
variable {C : Cfg} {N : Nat} {gd : List (Option Nat)} {r : List Oper} {σ : Env} {w : World} {Q : Env → World → Prop} {x : Operand} {d t : Nat} {ty yt : TypeId} {pos : String} {af : Array Edge} {g : Option (Nat × Bool)} {ads : List Addr} {c : Nat} {v : Value}
end
attribute [local irreducible] CW OpsW RetW Spec blk snap DrawP AnyW AnyM AnyN bits IntKind.wrap vec
section
variable {z w : World} {As : List HP} {ads : List Addr}
theorem ErrsIn.at_ (hE : ErrsIn As 187 errGs ads) (j : Nat) (hj : j < 12) : ads[j]? = some (ads.getD j ⟨0, 0, none⟩) := by
  have h12 : ads.length = 12 := hE.1
  rw [List.getD_eq_getElem?_getD, List.getElem?_eq_getElem (by omega)]; rfl
/-- The variable of the c-th error. -/
theorem ErrsIn.gl (hE : ErrsIn As 187 errGs ads) (c : Nat) {g : Nat} (hg : errGs[c - 1]? = some g) (hc : 0 < c) : GlobV As g (eA ads c) := by
  rw [eA_pos (by omega)]
  have h12 : c - 1 < 12 := (List.getElem?_eq_some_iff.1 hg).1
  exact hE.get (c - 1) hg (hE.at_ (c - 1) h12)
/-- The errors of nodes and pages. -/
structure EN (As : List HP) (ads : List Addr) : Prop where
  s : GlobV As 4 (eA ads 2)
  r : GlobV As 1 (eA ads 3)
  m : GlobV As 6 (eA ads 4)
  n : GlobV As 0 (eA ads 5)
  f : GlobV As 3 (eA ads 6)
theorem EN.tail {A : HP} (h : EN As ads) : EN (A :: As) ads := ⟨h.s.tail, h.r.tail, h.m.tail, h.n.tail, h.f.tail⟩
end
end Go.Proofs.YtbmfpkpcljihgaaDoor.X
