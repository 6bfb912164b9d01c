/- What a key that came in is, in the engine's words; conditions: none. -/
import Derived.Test.YtdbnkimegdogjaaR0
import Derived.Test.YtdbnkimegdogjaaA7
import Derived.Lib.SmallJoins
namespace Go.Proofs.Ytdbnkimegdogjaa.X
open Go Go.Joins Go.ChangeShapes Go.WideShapes Go.RowKit Go.Deep
set_option linter.unusedSimpArgs false
set_option linter.unusedVariables false
def K.wf (k : K) : Prop := (Lit.int .i64 k.kind).wf = true ∧ (Lit.int .i64 k.id).wf = true ∧ (Lit.int .i64 k.ver).wf = true ∧ (Lit.int .i64 k.rights).wf = true ∧ (Lit.int .u32 k.data).wf = true
section
variable {H : Type} {enc : TypeId × Value → H} {P : Program} {w : World} {base : Nat} {spare : Nat → Bool} {held : Bool}
theorem key_of {t ti tu : TypeId} {f0 f1 f2 f3 f4 : Field} {n : Nat} {cs : List Value} {x : DataW H × List MemPlace} (hs : P.underlying t = some (.struct #[f0, f1, f2, f3, f4])) (hi : P.underlying ti = some (.int .i64)) (hu : P.underlying tu = some (.int .u32))
    (hone : oneCellFields P #[f0, f1, f2, f3, f4] = true) (hty : f0.type = ti ∧ f1.type = ti ∧ f2.type = ti ∧ f3.type = ti ∧ f4.type = tu) (hl : cs.length = 5) (h : DataW.trod enc P w base spare held n t cs = some x) : ∃ k : K, cs = k.l ∧ k.wf := by
  obtain ⟨xs, n', _, hx, _, hlen, hg⟩ := DataW.trod_struct hs h
  obtain ⟨o0, k0⟩ := hone_of hone 0 f0 rfl
  obtain ⟨o1, k1⟩ := hone_of hone 1 f1 rfl
  obtain ⟨o2, k2⟩ := hone_of hone 2 f2 rfl
  obtain ⟨o3, k3⟩ := hone_of hone 3 f3 rfl
  obtain ⟨o4, k4⟩ := hone_of hone 4 f4 rfl
  obtain ⟨e0, e1, e2, e3, e4⟩ := hty
  match cs, hl with
  | [c0, c1, c2, c3, c4], _ =>
    match xs, hlen with
    | [y0, y1, y2, y3, y4], _ =>
      have g0 := hg 0 f0 rfl
      have g1 := hg 1 f1 rfl
      have g2 := hg 2 f2 rfl
      have g3 := hg 3 f3 rfl
      have g4 := hg 4 f4 rfl
      rw [e0] at g0 k0; rw [e1] at g1 k1; rw [e2] at g2 k2; rw [e3] at g3 k3; rw [e4] at g4 k4
      rw [o0, k0] at g0; rw [o1, k1] at g1; rw [o2, k2] at g2; rw [o3, k3] at g3; rw [o4, k4] at g4
      obtain ⟨a0, b0, _, w0⟩ := DataW.trod_int hi (by simpa using g0)
      obtain ⟨a1, b1, _, w1⟩ := DataW.trod_int hi (by simpa using g1)
      obtain ⟨a2, b2, _, w2⟩ := DataW.trod_int hi (by simpa using g2)
      obtain ⟨a3, b3, _, w3⟩ := DataW.trod_int hi (by simpa using g3)
      obtain ⟨a4, b4, _, w4⟩ := DataW.trod_int hu (by simpa using g4)
      simp only [List.cons.injEq, and_true] at b0 b1 b2 b3 b4
      exact ⟨⟨a0, a1, a2, a3, a4⟩, by simp [K.l, b0, b1, b2, b3, b4], w0, w1, w2, w3, w4⟩
theorem open_key {r : Reach} {b0 : Nat} {t ti tu : TypeId} {f0 f1 f2 f3 f4 : Field} {v : Value} {d : DataW H} {p : List MemPlace} (hs : P.underlying t = some (.struct #[f0, f1, f2, f3, f4])) (hi : P.underlying ti = some (.int .i64)) (hu : P.underlying tu = some (.int .u32))
    (hone : oneCellFields P #[f0, f1, f2, f3, f4] = true) (hC : P.cellsOf t = 5) (hty : f0.type = ti ∧ f1.type = ti ∧ f2.type = ti ∧ f3.type = ti ∧ f4.type = tu)
    (hv : Value.okWide P w r b0 t v) (h : DataW.Trod enc P w base spare held t v d p) : ∃ k : K, v = k.v ∧ k.wf := by
  obtain ⟨cs, rfl, hsz⟩ := okWide_struct hs hv
  obtain ⟨fuel, hf⟩ := h
  obtain ⟨k, e, hw⟩ := key_of hs hi hu hone hty (by simpa [Value.cells] using hsz.trans hC) hf
  refine ⟨k, ?_, hw⟩
  have e2 : cs = k.l.toArray := by
    apply Array.ext'; simpa [Value.cells] using e
  rw [e2]
end
end Go.Proofs.Ytdbnkimegdogjaa.X
