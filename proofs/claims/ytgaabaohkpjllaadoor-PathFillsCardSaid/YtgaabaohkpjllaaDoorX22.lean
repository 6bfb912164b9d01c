/- The engine of this seat's proofs, part 22: copy of as many as there is room for; conditions: none. -/
import Derived.Test.YtgaabaohkpjllaaDoorX20
namespace Go.Proofs.YtgaabaohkpjllaaDoor.X
open Go
set_option linter.unusedSimpArgs false
set_option linter.unusedVariables false
section
variable {C : Cfg} {N : Nat} {gd : List (Option Nat)} {r : List Oper} {σ σ' : Env} {w z : World} {Q : Env → World → Prop} {As Rs : List HP} {x y : Operand} {d t t2 b off n1 cap1 n2 sz : Nat} {ty E : TypeId} {pos : String} {af : Array Edge} {g : Option (Nat × Bool)} {v2 : Value} {c c2 : List Value} {dst : Option Nat}
theorem first_runM {P : Program} (H : Sat z w As) (h2 : SlR As v2 sz n2 c2) {m : Nat} (hm : m ≤ n2) : (Builtin.firstCells sz m v2).run P w = .ok (c2.take (m * sz)).toArray w := by
  obtain ⟨e2, a2, cp2, rfl, hcp, h3⟩ := h2
  have hms : m * sz ≤ n2 * sz := Nat.mul_le_mul_right _ hm
  have hlen : (c2.take (m * sz)).length = m * sz := by rw [List.length_take, e2]; omega
  by_cases h0 : n2 = 0
  · subst h0
    have h00 : m = 0 := by omega
    subst h00
    rw [Nat.zero_mul, List.take_zero]
    cases a2 with
    | none => exact run_firstCells_none (P := P) w sz 0 0 cp2
    | some a => exact run_firstCells_some (P := P) w sz 0 a 0 cp2 [] (by simp) (by simp)
  · rcases h3 with h3 | ⟨b2, off, mm, E2, fr, rfl, h4, h5⟩
    · exact absurd h3 h0
    · refine run_firstCells_some (P := P) w sz m _ n2 cp2 (c2.take (m * sz)) hlen ?_
      intro j v hj
      have hjl := (List.getElem?_eq_some_iff.1 hj).1
      rw [add_off, cell_blk (H.has h4), h5 j (by omega)]
      rw [List.getElem?_take, if_pos (by omega)] at hj
      exact hj
/-- copy of as many as fit. -/
theorem OpsW.cpyM (H : Sat z w As) (hp : As.Perm (blk b E c :: Rs)) (h2 : SlR As v2 sz n2 c2) (hs2 : c2.all scal = true) {m : Nat} (hm : Nat.min n2 n1 = m) (hin : off + m * sz ≤ c.length)
    (hg : wan gd σ g = some true) (hx : ev σ x = .slice (some ⟨b, off, none⟩) n1 cap1) (hy : ev σ y = v2) (hk : Nat.beq (C.T.kind.getD t 0) 4 = true) (he : Nat.blt 0 (C.T.kind.getD (C.T.elem.getD t 0) 0) = true)
    (hsz : C.T.size.getD (C.T.elem.getD t 0) 0 = sz) (hd : putE N σ dst (.int .i64 m) = some σ')
    (K : ∀ w', Sat z w' (blk b E (splice c off (c2.take (m * sz))) :: Rs) → OpsW C N gd r σ' w' Q) :
    OpsW C N gd (⟨dst, .call ⟨.builtin .copy, #[x, y], #[t, t2]⟩, ty, pos, af, g⟩ :: r) σ w Q := by
  have hu := Tab.slice_ C.ok (Nat.eq_of_beq_eq_true hk)
  obtain ⟨i, hi, hs⟩ := Tab.info_ C.ok (rfl : C.T.kind.getD (C.T.elem.getD t 0) 0 = _) (by have := Nat.le_of_ble_eq_true he; omega)
  have hm2 : m ≤ n2 := by rw [← hm]; exact Nat.min_le_left _ _
  have hf := first_runM (P := C.P) H h2 hm2
  have hlen2 := h2.1
  obtain ⟨a2, cp2, rfl⟩ := lenW h2
  have hms : m * sz ≤ n2 * sz := Nat.mul_le_mul_right _ hm2
  have hsc : (c2.take (m * sz)).all scal = true := by
    rw [List.all_eq_true] at hs2 ⊢
    exact fun v hv => hs2 v (List.mem_of_mem_take hv)
  obtain ⟨w', hw, H'⟩ := storeCells_run (P := C.P) (c2.take (m * sz)) (off := off) 0 (H.perm hp) (by rw [List.length_take, hlen2]; omega) hsc
  rw [Nat.add_zero] at H'
  refine .val (v := .int .i64 m) (w' := w') hg ?_ hd (K w' H')
  refine run_v ?_
  have e : (#[x, y] : Array Operand).map (ev σ) = #[ev σ x, ev σ y] := by simp
  show (Builtin.copy_ #[t, t2] ty ((#[x, y] : Array Operand).map (ev σ))).run C.P w = _
  rw [e, hx, hy]
  have hs' : i.size = sz := hs.trans hsz
  clear K H' hs hsz hin hp
  subst hs'
  generalize C.T.elem.getD t 0 = E at *
  simp [Builtin.copy_, run_underlying hu, sizeOf, typeInfo, hi, Builtin.lenOf, hm, hf, hw, goInt]
end
end Go.Proofs.YtgaabaohkpjllaaDoor.X
