/- Errors by number: 0 none, c the c-th of the twelve; conditions: none. -/
import Derived.Test.YtbmfpkpcljihgaaDoorAK
import Derived.Test.YtbmfpkpcljihgaaDoorA6
import Derived.Test.YtbmfpkpcljihgaaDoorA4q
import Derived.Test.YtbmfpkpcljihgaaDoorR2
--AUTODROP
namespace Go.Proofs.YtbmfpkpcljihgaaDoor.X
open Go Go.Proofs
set_option linter.unusedSimpArgs false
set_option linter.unusedVariables false
/-- The error of a number. -/
def eA (ads : List Addr) (c : Nat) : Value := if c = 0 then .nilIface else errV (ads.getD (c - 1) ⟨0, 0, none⟩)
theorem eA_0 {ads : List Addr} : eA ads 0 = .nilIface := rfl
theorem eA_s {ads : List Addr} {c : Nat} : eA ads (c + 1) = errV (ads.getD c ⟨0, 0, none⟩) := rfl
theorem eA_pos {ads : List Addr} {c : Nat} (h : c ≠ 0) : eA ads c = errV (ads.getD (c - 1) ⟨0, 0, none⟩) := if_neg h
section
variable {C : Cfg} {N : Nat} {gd : List (Option Nat)} {r : List Oper} {σ : Env} {w : World} {Q : Env → World → Prop} {x : Operand} {d t : Nat} {ty yt : TypeId} {pos : String} {af : Array Edge} {g : Option (Nat × Bool)} {ads : List Addr} {c : Nat} {v : Value}
theorem OpsW.enE (hg : wan gd σ g = some true) (hx : ev σ x = eA ads c) (hk : C.T.kind.getD t 0 = 7) (hd : Nat.blt d N = true)
    (K : OpsW C N gd r (upd σ d (.bool (c == 0))) w Q) : OpsW C N gd (⟨some d, .binOp .eql t x (.const .nilIface) yt, ty, pos, af, g⟩ :: r) σ w Q := by
  refine .val (v := .bool (c == 0)) (w' := w) hg (run_v ?_) (by simp only [putE, hd]) K
  refine binV_run C.ok (x := x) (y := .const .nilIface) ?_ w
  show binV C.T .eql t x (.const .nilIface) (ev σ x) .nilIface = _
  rw [hx]
  cases c with
  | zero => rw [eA_0]; unfold binV; dsimp only; rw [hk]; cases x <;> rfl
  | succ c => rw [eA_s]; unfold binV; dsimp only; rw [hk]; rfl
theorem OpsW.enN (hg : wan gd σ g = some true) (hx : ev σ x = eA ads c) (hk : C.T.kind.getD t 0 = 7) (hd : Nat.blt d N = true)
    (K : OpsW C N gd r (upd σ d (.bool (c != 0))) w Q) : OpsW C N gd (⟨some d, .binOp .neq t x (.const .nilIface) yt, ty, pos, af, g⟩ :: r) σ w Q := by
  refine .val (v := .bool (c != 0)) (w' := w) hg (run_v ?_) (by simp only [putE, hd]) K
  refine binV_run C.ok (x := x) (y := .const .nilIface) ?_ w
  show binV C.T .neq t x (.const .nilIface) (ev σ x) .nilIface = _
  rw [hx]
  cases c with
  | zero => rw [eA_0]; unfold binV; dsimp only; rw [hk]; cases x <;> rfl
  | succ c => rw [eA_s]; unfold binV; dsimp only; rw [hk]; rfl
/-- A value, moved as it is. -/
theorem OpsW.mvF {v : Value} (hg : wan gd σ g = some true) (hx : ev σ x = v) (hd : Nat.blt d N = true)
    (K : OpsW C N gd r (upd σ d v) w Q) : OpsW C N gd (⟨some d, .move x, ty, pos, af, g⟩ :: r) σ w Q := by
  refine .st (σ' := upd σ d v) ?_ K
  simp only [stepE, hg, pureV, force_eq, hx, putE, hd]
theorem OpsW.asF {v : Value} (hg : wan gd σ g = some true) (hx : ev σ x = v) (hd : Nat.blt d N = true)
    (K : OpsW C N gd r (upd σ d v) w Q) : OpsW C N gd (⟨some d, .assign x, ty, pos, af, g⟩ :: r) σ w Q := by
  refine .st (σ' := upd σ d v) ?_ K
  simp only [stepE, hg, pureV, force_eq, hx, putE, hd]
/-- A part of a tuple, as it is. -/
theorem OpsW.exF {vs : Array Value} {i : Nat} {v : Value} (hg : wan gd σ g = some true) (hx : ev σ x = .tuple vs) (hv : vs.toList[i]? = some v) (hd : Nat.blt d N = true)
    (K : OpsW C N gd r (upd σ d v) w Q) : OpsW C N gd (⟨some d, .extract x i, ty, pos, af, g⟩ :: r) σ w Q := by
  refine .st (σ' := upd σ d v) ?_ K
  simp only [stepE, hg, pureV, force_eq, hx, hv, putE, hd]
end
attribute [local irreducible] CW OpsW RetW Spec blk snap DrawP AnyW AnyM AnyN bits IntKind.wrap vec
section
variable {z w : World} {As : List HP} {ads : List Addr}
theorem ErrsIn.at_ (hE : ErrsIn As 187 errGs ads) (j : Nat) (hj : j < 12) : ads[j]? = some (ads.getD j ⟨0, 0, none⟩) := by
  have h12 : ads.length = 12 := hE.1
  rw [List.getD_eq_getElem?_getD, List.getElem?_eq_getElem (by omega)]; rfl
/-- The variable of the c-th error. -/
theorem ErrsIn.gl (hE : ErrsIn As 187 errGs ads) (c : Nat) {g : Nat} (hg : errGs[c - 1]? = some g) (hc : 0 < c) : GlobV As g (eA ads c) := by
  rw [eA_pos (by omega)]
  have h12 : c - 1 < 12 := (List.getElem?_eq_some_iff.1 hg).1
  exact hE.get (c - 1) hg (hE.at_ (c - 1) h12)
/-- The errors of nodes and pages. -/
structure EN (As : List HP) (ads : List Addr) : Prop where
  s : GlobV As 4 (eA ads 2)
  r : GlobV As 1 (eA ads 3)
  m : GlobV As 6 (eA ads 4)
  n : GlobV As 0 (eA ads 5)
  f : GlobV As 3 (eA ads 6)
theorem EN.tail {A : HP} (h : EN As ads) : EN (A :: As) ads := ⟨h.s.tail, h.r.tail, h.m.tail, h.n.tail, h.f.tail⟩
/-- What is amiss with a key, by its number. -/
def K.ec (k : K) : Nat := if k.err = 0 then 0 else k.err + 1
theorem K.err_le (k : K) : k.err ≤ 2 := by unfold K.err; repeat' split
                                           all_goals omega
theorem validG (H : Sat z w As) (hS : GlobV As 4 (eA ads 2)) (hR : GlobV As 1 (eA ads 3)) (k : K) : Spec cf 60 #[k.v] w fun e w' => e = eA ads k.ec ∧ Sat z w' As := by
  refine (valid_ H hS hR k).mono fun e w h => ⟨?_, h.2⟩
  rw [h.1]
  have := k.err_le
  unfold kerrV K.ec eA
  rcases (show k.err = 0 ∨ k.err = 1 ∨ k.err = 2 by omega) with h | h | h <;> rw [h] <;> rfl
end
end Go.Proofs.YtbmfpkpcljihgaaDoor.X
