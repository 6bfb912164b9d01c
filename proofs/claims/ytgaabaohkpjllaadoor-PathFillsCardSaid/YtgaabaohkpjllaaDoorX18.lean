/- The engine of this seat's proofs, part 18: whole rows laid at once; conditions: none. -/
import Derived.Test.YtgaabaohkpjllaaDoorX17
namespace Go.Proofs.YtgaabaohkpjllaaDoor.X
open Go
set_option linter.unusedSimpArgs false
set_option linter.unusedVariables false
section
variable {α : Type} (c : α → List Value) (sz : Nat) (hc : ∀ x, (c x).length = sz)
include hc
theorem fl_splice (l : List α) (i : Nat) (hi : i < l.length) (x : α) : splice (l.flatMap c) (i * sz) (c x) = (l.set i x).flatMap c := by
  have h1 : ((l.take i).flatMap c).length = i * sz := by rw [fl_length c sz hc, List.length_take, Nat.min_eq_left (by omega)]
  rw [fl_split c l i hi, ← List.append_assoc, ← h1, splice_mid _ _ _ _ (by rw [hc, hc])]
  rw [List.set_eq_take_append_cons_drop, if_pos hi, List.flatMap_append, List.flatMap_cons, List.append_assoc]
end
section
variable {C : Cfg} {N : Nat} {gd : List (Option Nat)} {r : List Oper} {σ σ' : Env} {w z : World} {Q : Env → World → Prop} {As Rs : List HP} {x y : Operand} {d t t2 b off n1 cap1 n2 sz : Nat} {ty E : TypeId} {pos : String} {af : Array Edge} {g : Option (Nat × Bool)} {v2 : Value} {c c2 : List Value} {dst : Option Nat}
/-- copy of what fits wholly. -/
theorem OpsW.cpy (H : Sat z w As) (hp : As.Perm (blk b E c :: Rs)) (h2 : SlR As v2 sz n2 c2) (hs2 : c2.all scal = true) (hroom : n2 ≤ n1) (hin : off + n2 * sz ≤ c.length)
    (hg : wan gd σ g = some true) (hx : ev σ x = .slice (some ⟨b, off, none⟩) n1 cap1) (hy : ev σ y = v2) (hk : Nat.beq (C.T.kind.getD t 0) 4 = true) (he : Nat.blt 0 (C.T.kind.getD (C.T.elem.getD t 0) 0) = true)
    (hsz : C.T.size.getD (C.T.elem.getD t 0) 0 = sz) (hd : putE N σ dst (.int .i64 n2) = some σ')
    (K : ∀ w', Sat z w' (blk b E (splice c off c2) :: Rs) → OpsW C N gd r σ' w' Q) :
    OpsW C N gd (⟨dst, .call ⟨.builtin .copy, #[x, y], #[t, t2]⟩, ty, pos, af, g⟩ :: r) σ w Q := by
  have hu := Tab.slice_ C.ok (Nat.eq_of_beq_eq_true hk)
  obtain ⟨i, hi, hs⟩ := Tab.info_ C.ok (rfl : C.T.kind.getD (C.T.elem.getD t 0) 0 = _) (by have := Nat.le_of_ble_eq_true he; omega)
  have hf := first_run (P := C.P) H h2
  have hlen2 := h2.1
  obtain ⟨a2, cp2, rfl⟩ := lenW h2
  obtain ⟨w', hw, H'⟩ := storeCells_run (P := C.P) c2 (off := off) 0 (H.perm hp) (by rw [hlen2]; omega) hs2
  rw [Nat.add_zero] at H'
  refine .val (v := .int .i64 n2) (w' := w') hg ?_ hd (K w' H')
  refine run_v ?_
  have e : (#[x, y] : Array Operand).map (ev σ) = #[ev σ x, ev σ y] := by simp
  show (Builtin.copy_ #[t, t2] ty ((#[x, y] : Array Operand).map (ev σ))).run C.P w = _
  rw [e, hx, hy]
  have hs' : i.size = sz := hs.trans hsz
  have hmin : Nat.min n2 n1 = n2 := Nat.min_eq_left hroom
  clear K H' hs hsz hin hp
  subst hs'
  generalize C.T.elem.getD t 0 = E at *
  simp [Builtin.copy_, run_underlying hu, sizeOf, typeInfo, hi, Builtin.lenOf, hmin, hf, hw, goInt]
theorem OpsW.min2 {kd : IntKind} {i j : Int} {ts : Array TypeId} (hg : wan gd σ g = some true) (hx : ev σ x = .int kd i) (hy : ev σ y = .int kd j) (hd : Nat.blt d N = true) (K : OpsW C N gd r (upd σ d (.int kd (if j < i then j else i))) w Q) :
    OpsW C N gd (⟨some d, .call ⟨.builtin .min, #[x, y], ts⟩, ty, pos, af, g⟩ :: r) σ w Q := by
  refine .val (v := .int kd (if j < i then j else i)) (w' := w) hg (run_v ?_) (by simp only [putE, hd]) K
  have e : (#[x, y] : Array Operand).map (ev σ) = #[ev σ x, ev σ y] := by simp
  show (Builtin.min_ ts ty ((#[x, y] : Array Operand).map (ev σ))).run C.P w = _
  rw [e, hx, hy]
  simp [Builtin.min_, Builtin.min2]
theorem OpsW.max2 {kd : IntKind} {i j : Int} {ts : Array TypeId} (hg : wan gd σ g = some true) (hx : ev σ x = .int kd i) (hy : ev σ y = .int kd j) (hd : Nat.blt d N = true) (K : OpsW C N gd r (upd σ d (.int kd (if i < j then j else i))) w Q) :
    OpsW C N gd (⟨some d, .call ⟨.builtin .max, #[x, y], ts⟩, ty, pos, af, g⟩ :: r) σ w Q := by
  refine .val (v := .int kd (if i < j then j else i)) (w' := w) hg (run_v ?_) (by simp only [putE, hd]) K
  have e : (#[x, y] : Array Operand).map (ev σ) = #[ev σ x, ev σ y] := by simp
  show (Builtin.max_ ts ty ((#[x, y] : Array Operand).map (ev σ))).run C.P w = _
  rw [e, hx, hy]
  simp [Builtin.max_, Builtin.max2]
/-- An array as a slice. -/
theorem OpsW.slcA {n : Nat} (hg : wan gd σ g = some true) (hx : ev σ x = .pointer (some ⟨b, off, none⟩)) (hk : Nat.beq (C.T.kind.getD t 0) 5 = true) (he : Nat.blt 0 (C.T.kind.getD (C.T.elem.getD t 0) 0) = true)
    (hn : C.T.alen.getD t 0 = n) (hd : Nat.blt d N = true)
    (K : OpsW C N gd r (upd σ d (.slice (some ⟨b, off, none⟩) n n)) w Q) : OpsW C N gd (⟨some d, .slice t x none none none, ty, pos, af, g⟩ :: r) σ w Q := by
  have hu := Tab.array_ C.ok (Nat.eq_of_beq_eq_true hk)
  obtain ⟨ie, hie, hse⟩ := Tab.info_ C.ok (rfl : C.T.kind.getD (C.T.elem.getD t 0) 0 = _) (by have := Nat.le_of_ble_eq_true he; omega)
  subst hn
  refine .val (v := .slice (some ⟨b, off, none⟩) (C.T.alen.getD t 0) (C.T.alen.getD t 0)) (w' := w) hg (run_v ?_) (by simp only [putE, hd]) K
  show (Instr.sliceAt t (ev σ x) none none none).run C.P w = _
  rw [hx, Instr.sliceAt, X.run_bind _ _ _ _ _ _ (run_und hu w)]
  have hr := run_sizeOf hie w
  generalize C.T.elem.getD t 0 = E at *
  generalize C.T.alen.getD t 0 = n at *
  simp [Instr.sureAddr, Instr.sliceBounds, Instr.sliceBound, hr, Addr.add]
end
end Go.Proofs.YtgaabaohkpjllaaDoor.X
