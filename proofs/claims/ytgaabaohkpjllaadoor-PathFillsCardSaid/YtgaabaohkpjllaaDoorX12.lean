/- The engine of this seat's proofs, part 13: append onto nil; conditions: none. -/
import Derived.Test.YtgaabaohkpjllaaDoorX11
namespace Go.Proofs.YtgaabaohkpjllaaDoor.X
open Go
set_option linter.unusedSimpArgs false
set_option linter.unusedVariables false
section
variable {C : Cfg} {N : Nat} {gd : List (Option Nat)} {r : List Oper} {σ : Env} {w z : World} {Q : Env → World → Prop} {As : List HP} {x y : Operand} {d t n2 sz : Nat} {ty : TypeId} {pos : String} {af : Array Edge} {g : Option (Nat × Bool)} {v2 : Value} {c2 : List Value}
theorem OpsW.app0 (H : Sat z w As) (h2 : SlR As v2 sz n2 c2) (h0 : 0 < n2) (hn : n2 ≤ 1000000)
    (hg : wan gd σ g = some true) (hx : ev σ x = .slice none 0 0) (hy : ev σ y = v2) (hk : Nat.beq (C.T.kind.getD t 0) 4 = true) (he : Nat.blt 0 (C.T.kind.getD (C.T.elem.getD t 0) 0) = true)
    (hsz : C.T.size.getD (C.T.elem.getD t 0) 0 = sz) (hzc : (C.T.zero.getD (C.T.elem.getD t 0) []).length = sz) (hby : ((C.P.info? (C.T.elem.getD t 0)).elim false fun i => Nat.ble i.bytes 4096) = true) (hd : Nat.blt d N = true)
    (K : ∀ b' cap' rest' w', n2 ≤ cap' → rest'.length = (cap' - n2) * sz → Sat z w' (blk b' (C.T.elem.getD t 0) (c2 ++ rest') :: As) → OpsW C N gd r (upd σ d (.slice (some ⟨b', 0, none⟩) n2 cap')) w' Q) :
    OpsW C N gd (⟨some d, .call ⟨.builtin .append, #[x, y], #[t, t]⟩, ty, pos, af, g⟩ :: r) σ w Q := by
  have hu := Tab.slice_ C.ok (Nat.eq_of_beq_eq_true hk)
  have he0 : C.T.kind.getD (C.T.elem.getD t 0) 0 ≠ 0 := by have := Nat.le_of_ble_eq_true he; omega
  obtain ⟨i, hi, hs, hz⟩ := Tab.zero_ C.ok (rfl : C.T.kind.getD (C.T.elem.getD t 0) 0 = _) he0
  have hzc' := zeroV_cells C.ok (rfl : C.T.kind.getD (C.T.elem.getD t 0) 0 = _) he0
  rw [hi] at hby
  have hby : i.bytes ≤ 4096 := Nat.le_of_ble_eq_true hby
  obtain ⟨e2, a', cp', rfl, hcp, h3⟩ := h2
  rcases h3 with h3 | ⟨b2, off, m, E2, fr, rfl, h4, h5⟩
  · omega
  have hs' : i.size = sz := hs.trans hsz
  subst hs'
  have hbytes : n2 * i.bytes ≤ 281474976710656 := by have := Nat.mul_le_mul hn hby; omega
  have hrun := run_append_nil (P := C.P) w t ty (C.T.elem.getD t 0) i _ hu hi hz ⟨b2, off, none⟩ n2 cp' c2 e2 (fun j u hj => by
    rw [add_off, cell_blk (H.has h4), h5 j (by have := (List.getElem?_eq_some_iff.1 hj).1; omega)]; exact hj) h0 (by omega) hbytes
  refine .val (v := .slice (some ⟨w.heap.size, 0, none⟩) n2 (grownCap w n2 0 (C.T.elem.getD t 0))) (w' := w.drew.alloc (.cells (c2.toArray ++ Builtin.zeroCells (C.T.zeroV (C.T.elem.getD t 0)).cells (grownCap w n2 0 (C.T.elem.getD t 0) - n2)) (C.T.elem.getD t 0))) hg ?_ (by simp only [putE, hd]) (K w.heap.size _ (Builtin.zeroCells (C.T.zeroV (C.T.elem.getD t 0)).cells (grownCap w n2 0 (C.T.elem.getD t 0) - n2)).toList _ (grownCap_ge w n2 0 (C.T.elem.getD t 0)) ?_ ?_)
  · refine run_v ?_
    have e : (#[x, y] : Array Operand).map (ev σ) = #[ev σ x, ev σ y] := by simp
    show (Builtin.append_ #[t, t] ty ((#[x, y] : Array Operand).map (ev σ))).run C.P w = _
    rw [e, hx, hy]; exact hrun
  · rw [Array.length_toList, size_zeroCells, hzc', List.size_toArray, hzc]
  · have := (H.drawn (w.drawn + 1)).new (C.T.elem.getD t 0) (c2 ++ (Builtin.zeroCells (C.T.zeroV (C.T.elem.getD t 0)).cells (grownCap w n2 0 (C.T.elem.getD t 0) - n2)).toList)
    have e : (c2 ++ (Builtin.zeroCells (C.T.zeroV (C.T.elem.getD t 0)).cells (grownCap w n2 0 (C.T.elem.getD t 0) - n2)).toList).toArray = c2.toArray ++ Builtin.zeroCells (C.T.zeroV (C.T.elem.getD t 0)).cells (grownCap w n2 0 (C.T.elem.getD t 0) - n2) := by
      apply Array.ext'; simp
    rw [e] at this
    exact this
end
end Go.Proofs.YtgaabaohkpjllaaDoor.X
