/- The engine of this seat's proofs, part 21: strings joined, parts of strings; conditions: none. -/
import Derived.Test.YtlanjomoednfaaaDoorX20
namespace Go.Proofs.YtlanjomoednfaaaDoor.X
open Go Go.Proofs
set_option linter.unusedSimpArgs false
set_option linter.unusedVariables false
section
variable {C : Cfg} {N : Nat} {gd : List (Option Nat)} {r : List Oper} {σ : Env} {w z : World} {Q : Env → World → Prop} {As : List HP} {x y y' : Operand} {d t : Nat} {ty yt : TypeId} {pos : String} {af : Array Edge} {g : Option (Nat × Bool)}
/-- Two strings, joined. -/
theorem OpsW.cat {a b c : ByteArray} (hg : wan gd σ g = some true) (hx : ev σ x = .string a) (hy : ev σ y = .string b) (hl : Nat.ble (a.size + b.size) 1000000000 = true) (hc : a ++ b = c) (hd : Nat.blt d N = true)
    (K : OpsW C N gd r (upd σ d (.string c)) w Q) : OpsW C N gd (⟨some d, .binOp .add t x y yt, ty, pos, af, g⟩ :: r) σ w Q := by
  refine .val (v := .string c) (w' := w) hg (run_v ?_) (by simp only [putE, hd]) K
  have hl2 := Nat.le_of_ble_eq_true hl
  show (binOp .add t (ev σ x) (ev σ y)).run C.P w = _
  rw [hx, hy]
  have h : ¬ ((a.size + b.size : Nat) : Int) > IntKind.i64.max := by
    have : IntKind.i64.max = 9223372036854775807 := by decide
    omega
  show (Op.stringOp .add a b).run C.P w = _
  rw [Op.stringOp]
  simp only [if_neg h, hc]
  rfl
/-- A part of a string. -/
theorem OpsW.slcS {a c : ByteArray} {k1 k2 : IntKind} {i j : Nat} (hg : wan gd σ g = some true) (hx : ev σ x = .string a) (hy : ev σ y = .int k1 i) (hy' : ev σ y' = .int k2 j) (hk : Nat.beq (C.T.kind.getD t 0) 3 = true) (hij : Nat.ble i j = true) (hj : Nat.ble j a.size = true) (hc : a.extract i j = c) (hd : Nat.blt d N = true)
    (K : OpsW C N gd r (upd σ d (.string c)) w Q) : OpsW C N gd (⟨some d, .slice t x (some y) (some y') none, ty, pos, af, g⟩ :: r) σ w Q := by
  refine .val (v := .string c) (w' := w) hg (run_v ?_) (by simp only [putE, hd]) K
  have hu := Tab.string_ (T := C.T) (P := C.P) (t := t) C.ok (Nat.eq_of_beq_eq_true hk)
  have h1 := Nat.le_of_ble_eq_true hij
  have h2 := Nat.le_of_ble_eq_true hj
  show (Instr.sliceAt t (ev σ x) (some (ev σ y)) (some (ev σ y')) none).run C.P w = _
  rw [hx, hy, hy', Instr.sliceAt, X.run_bind _ _ _ _ _ _ (run_und hu w)]
  simp [Instr.slice, run_underlying hu, Instr.sliceBounds, Instr.sliceBound, asIntOf, h1, h2, ← hc]
end
end Go.Proofs.YtlanjomoednfaaaDoor.X
