/- The engine of this seat's proofs: append of so many zeros onto nil; conditions: none. -/
import Derived.Test.YtbmfpkpcljihgaaDoorGB
import Derived.Lib.AppendZeros
namespace Go.Proofs.YtbmfpkpcljihgaaDoor.X
open Go
set_option linter.unusedSimpArgs false
set_option linter.unusedVariables false
section
variable {C : Cfg} {N : Nat} {gd : List (Option Nat)} {r : List Oper} {σ : Env} {w z : World} {Q : Env → World → Prop} {As : List HP} {x y : Operand} {d t t2 n sz : Nat} {ty : TypeId} {pos : String} {af : Array Edge} {g : Option (Nat × Bool)}
theorem OpsW.app0z {kd : IntKind} {i : Int} (H : Sat z w As) (h0 : 0 < n) (hn : n ≤ 1000000)
    (hg : wan gd σ g = some true) (hx : ev σ x = .slice none 0 0) (hy : ev σ y = .int kd i) (hin : i = n) (hk : Nat.beq (C.T.kind.getD t 0) 4 = true) (hk2 : Nat.beq (C.T.kind.getD t2 0) 2 = true) (he : Nat.blt 0 (C.T.kind.getD (C.T.elem.getD t 0) 0) = true)
    (hsz : C.T.size.getD (C.T.elem.getD t 0) 0 = sz) (hs0 : 0 < sz) (hzc : (C.T.zero.getD (C.T.elem.getD t 0) []).length = sz) (hby : ((C.P.info? (C.T.elem.getD t 0)).elim false fun i => Nat.ble i.bytes 4096) = true) (hd : Nat.blt d N = true)
    (K : ∀ b' cap' rest' w', n ≤ cap' → rest'.length = cap' * sz → Sat z w' (blk b' (C.T.elem.getD t 0) rest' :: As) → OpsW C N gd r (upd σ d (.slice (some ⟨b', 0, none⟩) n cap')) w' Q) :
    OpsW C N gd (⟨some d, .call ⟨.builtin .append, #[x, y], #[t, t2]⟩, ty, pos, af, g⟩ :: r) σ w Q := by
  subst hin
  have hu := Tab.slice_ C.ok (Nat.eq_of_beq_eq_true hk)
  have hu2 := Tab.int_ C.ok (Nat.eq_of_beq_eq_true hk2)
  have he0 : C.T.kind.getD (C.T.elem.getD t 0) 0 ≠ 0 := by have := Nat.le_of_ble_eq_true he; omega
  obtain ⟨i, hi, hs, hz⟩ := Tab.zero_ C.ok (rfl : C.T.kind.getD (C.T.elem.getD t 0) 0 = _) he0
  have hzc' := zeroV_cells C.ok (rfl : C.T.kind.getD (C.T.elem.getD t 0) 0 = _) he0
  rw [hi] at hby
  have hby : i.bytes ≤ 4096 := Nat.le_of_ble_eq_true hby
  have hs' : i.size = sz := hs.trans hsz
  subst hs'
  have hbytes : n * i.bytes ≤ 281474976710656 := by have := Nat.mul_le_mul hn hby; omega
  have hrun := Lib.run_append_nil_zeros (P := C.P) w t t2 ty (C.T.elem.getD t 0) i _ kd _ hu hu2 hi hz n h0 hs0 (by omega) hbytes
  have hge := grownCap_ge w n 0 (C.T.elem.getD t 0)
  refine .val (v := .slice (some ⟨w.heap.size, 0, none⟩) n (grownCap w n 0 (C.T.elem.getD t 0))) (w' := w.drew.alloc (.cells (Builtin.zeroCells (C.T.zeroV (C.T.elem.getD t 0)).cells n ++ Builtin.zeroCells (C.T.zeroV (C.T.elem.getD t 0)).cells (grownCap w n 0 (C.T.elem.getD t 0) - n)) (C.T.elem.getD t 0))) hg ?_ (by simp only [putE, hd]) (K w.heap.size _ ((Builtin.zeroCells (C.T.zeroV (C.T.elem.getD t 0)).cells n).toList ++ (Builtin.zeroCells (C.T.zeroV (C.T.elem.getD t 0)).cells (grownCap w n 0 (C.T.elem.getD t 0) - n)).toList) _ hge ?_ ?_)
  · refine run_v ?_
    have e : (#[x, y] : Array Operand).map (ev σ) = #[ev σ x, ev σ y] := by simp
    show (Builtin.append_ #[t, t2] ty ((#[x, y] : Array Operand).map (ev σ))).run C.P w = _
    rw [e, hx, hy]; exact hrun
  · rw [List.length_append, Array.length_toList, Array.length_toList, size_zeroCells, size_zeroCells, hzc', List.size_toArray, hzc, ← Nat.add_mul]
    congr 1; omega
  · have := (H.drawn (w.drawn + 1)).new (C.T.elem.getD t 0) ((Builtin.zeroCells (C.T.zeroV (C.T.elem.getD t 0)).cells n).toList ++ (Builtin.zeroCells (C.T.zeroV (C.T.elem.getD t 0)).cells (grownCap w n 0 (C.T.elem.getD t 0) - n)).toList)
    have e : ((Builtin.zeroCells (C.T.zeroV (C.T.elem.getD t 0)).cells n).toList ++ (Builtin.zeroCells (C.T.zeroV (C.T.elem.getD t 0)).cells (grownCap w n 0 (C.T.elem.getD t 0) - n)).toList).toArray = Builtin.zeroCells (C.T.zeroV (C.T.elem.getD t 0)).cells n ++ Builtin.zeroCells (C.T.zeroV (C.T.elem.getD t 0)).cells (grownCap w n 0 (C.T.elem.getD t 0) - n) := by
      apply Array.ext'; simp
    rw [e] at this
    exact this
theorem OpsW.cap {a : Option Addr} {m c : Nat} (hg : wan gd σ g = some true) (hx : ev σ x = .slice a m c) (hk : Nat.beq (C.T.kind.getD t 0) 4 = true) (hd : Nat.blt d N = true)
    (K : OpsW C N gd r (upd σ d (.int .i64 c)) w Q) : OpsW C N gd (⟨some d, .call ⟨.builtin .cap, #[x], #[t]⟩, ty, pos, af, g⟩ :: r) σ w Q := by
  have hu := Tab.slice_ C.ok (Nat.eq_of_beq_eq_true hk)
  refine .val (v := .int .i64 c) (w' := w) hg (run_v ?_) (by simp only [putE, hd]) K
  have e : (#[x] : Array Operand).map (ev σ) = #[ev σ x] := by simp
  show (Builtin.cap_ #[t] ty ((#[x] : Array Operand).map (ev σ))).run C.P w = _
  rw [e, hx]
  simp [Builtin.cap_, run_underlying hu, goInt]
end
end Go.Proofs.YtbmfpkpcljihgaaDoor.X
