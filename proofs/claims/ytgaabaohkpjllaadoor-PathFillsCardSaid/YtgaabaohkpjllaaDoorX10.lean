/- The engine of this seat's proofs, part 11: append onto memory that is ours; conditions: none. -/
import Derived.Test.YtgaabaohkpjllaaDoorX9
namespace Go.Proofs.YtgaabaohkpjllaaDoor.X
open Go
set_option linter.unusedSimpArgs false
set_option linter.unusedVariables false
theorem splice_app (c2 : List Value) : ∀ c1 rest : List Value, c2.length ≤ rest.length → splice (c1 ++ rest) c1.length c2 = c1 ++ c2 ++ rest.drop c2.length := by
  induction c2 with
  | nil => intro c1 rest _; simp [splice]
  | cons v r ih =>
    intro c1 rest h
    cases rest with
    | nil => simp at h
    | cons u rest =>
      have e : (c1 ++ u :: rest).set c1.length v = (c1 ++ [v]) ++ rest := by simp
      have := ih (c1 ++ [v]) rest (by simpa using h)
      simp only [splice, e]
      rw [List.length_append] at this
      simpa using this
section
variable {P : Program} {z w : World} {As : List HP} {b n1 cap1 n2 sz : Nat} {t E ty : TypeId} {i : TypeInfo} {zv : Value} {c1 c2 rest : List Value} {v2 : Value}
theorem first_run (H : Sat z w As) (h2 : SlR As v2 sz n2 c2) : (Builtin.firstCells sz n2 v2).run P w = .ok c2.toArray w := by
  obtain ⟨e2, a2, cp2, rfl, hcp, h3⟩ := h2
  by_cases h0 : n2 = 0
  · subst h0
    have : c2 = [] := List.length_eq_zero_iff.1 (by simpa using e2)
    subst this
    cases a2 with
    | none => exact run_firstCells_none (P := P) w sz 0 0 cp2
    | some a => exact run_firstCells_some (P := P) w sz 0 a 0 cp2 [] (by simp) (by simp)
  · rcases h3 with h3 | ⟨b2, off, m, E2, fr, rfl, h4, h5⟩
    · exact absurd h3 h0
    · refine run_firstCells_some (P := P) w sz n2 _ n2 cp2 c2 e2 ?_
      intro j v hj
      rw [add_off, cell_blk (H.has h4), h5 j (by have := (List.getElem?_eq_some_iff.1 hj).1; omega)]
      exact hj
theorem app_run (hu : P.underlying t = some (.slice E)) (hi : P.info? E = some i) (hz : i.zero = some zv) (hs : i.size = sz) (hzs : zv.cells.size = sz) (hb : i.bytes ≤ 4096) (H : Sat z w (blk b E (c1 ++ rest) :: As)) (hc1 : c1.length = n1 * sz)
    (hr : rest.length = (cap1 - n1) * sz) (hcap : n1 ≤ cap1) (h2 : SlR As v2 sz n2 c2) (hs2 : c2.all scal = true) (hn : n1 + n2 ≤ 1000000) :
    ∃ b' cap' rest' w', (Builtin.append_ #[t, t] ty #[.slice (some ⟨b, 0, none⟩) n1 cap1, v2]).run P w = .ok (.slice (some ⟨b', 0, none⟩) (n1 + n2) cap') w' ∧ n1 + n2 ≤ cap' ∧ rest'.length = (cap' - (n1 + n2)) * sz ∧
      Sat z w' (blk b' E (c1 ++ c2 ++ rest') :: As) := by
  have hf := first_run (P := P) H.drop h2
  have hlen2 := h2.1
  obtain ⟨a2, cp2, rfl⟩ := lenW h2
  by_cases hroom : n1 + n2 ≤ cap1
  · have hle : n2 * sz ≤ (cap1 - n1) * sz := Nat.mul_le_mul_right _ (by omega)
    obtain ⟨w', hw, H'⟩ := storeCells_run (P := P) c2 (off := n1 * sz) 0 H (by rw [List.length_append]; omega) hs2
    rw [Nat.add_zero, ← hc1, splice_app c2 c1 rest (by omega)] at H'
    refine ⟨b, cap1, rest.drop c2.length, w', ?_, hroom, ?_, H'⟩
    · subst hs
      simp [Builtin.append_, run_underlying hu, sizeOf, typeInfo, hi, Builtin.lenOf, hroom, hf, add_off, hw]
    · rw [List.length_drop, hr, hlen2, ← Nat.sub_mul]; congr 1; omega
  · have hn2 : n2 ≠ 0 := by omega
    obtain ⟨_, a', cp', ev, hcp, h3⟩ := h2
    simp only [Value.slice.injEq] at ev
    obtain ⟨rfl, -, rfl⟩ := ev
    rcases h3 with h3 | ⟨b2, off, m, E2, fr, rfl, h4, h5⟩
    · exact absurd h3 hn2
    · subst hs
      have hbytes : (n1 + n2) * i.bytes ≤ 140737488355328 := by
        have := Nat.mul_le_mul hn hb; omega
      have hrun := run_append_grow (P := P) w t ty E i zv hu hi hz ⟨b, 0, none⟩ n1 cap1 c1 hc1 (fun j u hj => by
          rw [add_off, cell_blk (H.has Has.head), List.getElem?_toArray, Nat.zero_add, List.getElem?_append_left (List.getElem?_eq_some_iff.1 hj).1]; exact hj)
        ⟨b2, off, none⟩ n2 cp2 c2 hlen2 (fun j u hj => by
          rw [add_off, cell_blk (H.drop.has h4), h5 j (by have := (List.getElem?_eq_some_iff.1 hj).1; omega)]; exact hj)
        (by omega) (by omega) (growslice_fits (by omega) hbytes)
      refine ⟨w.heap.size, _, (Builtin.zeroCells zv.cells (grownCap w (n1 + n2) cap1 E - (n1 + n2))).toList, _, hrun, grownCap_ge .., ?_, ?_⟩
      · rw [Array.length_toList, size_zeroCells, hzs]
      · have := (H.drop.drawn (w.drawn + 1)).new E (c1 ++ c2 ++ (Builtin.zeroCells zv.cells (grownCap w (n1 + n2) cap1 E - (n1 + n2))).toList)
        have e : (c1 ++ c2 ++ (Builtin.zeroCells zv.cells (grownCap w (n1 + n2) cap1 E - (n1 + n2))).toList).toArray = c1.toArray ++ c2.toArray ++ Builtin.zeroCells zv.cells (grownCap w (n1 + n2) cap1 E - (n1 + n2)) := by
          apply Array.ext'; simp
        rw [e] at this
        exact this
end
section
variable {C : Cfg} {N : Nat} {gd : List (Option Nat)} {r : List Oper} {σ : Env} {w z : World} {Q : Env → World → Prop} {As Rs : List HP} {x y : Operand} {d t b n1 cap1 n2 sz : Nat} {ty : TypeId} {pos : String} {af : Array Edge} {g : Option (Nat × Bool)} {v2 : Value} {c1 c2 rest : List Value}
/-- append onto memory that is ours (it may be left behind: then new memory is ours). -/
theorem OpsW.app (H : Sat z w As) (hp : As.Perm (blk b (C.T.elem.getD t 0) (c1 ++ rest) :: Rs)) (h2 : SlR Rs v2 sz n2 c2) (hs2 : c2.all scal = true) (hn : n1 + n2 ≤ 1000000) (hc1 : c1.length = n1 * sz) (hr : rest.length = (cap1 - n1) * sz) (hcap : n1 ≤ cap1)
    (hg : wan gd σ g = some true) (hx : ev σ x = .slice (some ⟨b, 0, none⟩) n1 cap1) (hy : ev σ y = v2) (hk : Nat.beq (C.T.kind.getD t 0) 4 = true) (he : Nat.blt 0 (C.T.kind.getD (C.T.elem.getD t 0) 0) = true)
    (hsz : C.T.size.getD (C.T.elem.getD t 0) 0 = sz) (hzc : (C.T.zero.getD (C.T.elem.getD t 0) []).length = sz) (hby : ((C.P.info? (C.T.elem.getD t 0)).elim false fun i => Nat.ble i.bytes 4096) = true) (hd : Nat.blt d N = true)
    (K : ∀ b' cap' rest' w', n1 + n2 ≤ cap' → rest'.length = (cap' - (n1 + n2)) * sz → Sat z w' (blk b' (C.T.elem.getD t 0) (c1 ++ c2 ++ rest') :: Rs) → OpsW C N gd r (upd σ d (.slice (some ⟨b', 0, none⟩) (n1 + n2) cap')) w' Q) :
    OpsW C N gd (⟨some d, .call ⟨.builtin .append, #[x, y], #[t, t]⟩, ty, pos, af, g⟩ :: r) σ w Q := by
  have hu := Tab.slice_ C.ok (Nat.eq_of_beq_eq_true hk)
  have he0 : C.T.kind.getD (C.T.elem.getD t 0) 0 ≠ 0 := by have := Nat.le_of_ble_eq_true he; omega
  obtain ⟨i, hi, hs, hz⟩ := Tab.zero_ C.ok (rfl : C.T.kind.getD (C.T.elem.getD t 0) 0 = _) he0
  have hzc' := zeroV_cells C.ok (rfl : C.T.kind.getD (C.T.elem.getD t 0) 0 = _) he0
  rw [hi] at hby
  obtain ⟨b', cap', rest', w', hrun, h3, h4, H'⟩ := app_run (ty := ty) hu hi hz (hs.trans hsz) (by rw [hzc']; exact hzc) (Nat.le_of_ble_eq_true hby) (H.perm hp) hc1 hr hcap h2 hs2 hn
  refine .val (v := .slice (some ⟨b', 0, none⟩) (n1 + n2) cap') (w' := w') hg ?_ (by simp only [putE, hd]) (K b' cap' rest' w' h3 h4 H')
  rw [← hx, ← hy] at hrun
  refine run_v ?_
  have e : (#[x, y] : Array Operand).map (ev σ) = #[ev σ x, ev σ y] := by simp
  show (Builtin.append_ #[t, t] ty ((#[x, y] : Array Operand).map (ev σ))).run C.P w = _
  rw [e]; exact hrun
end
end Go.Proofs.YtgaabaohkpjllaaDoor.X
