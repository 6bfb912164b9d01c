/- The engine of this seat's proofs, part 23: one behind the other, region by region; conditions: none. -/
import Derived.Test.YtgaabaohkpjllaaDoorX22
namespace Go.Proofs.YtgaabaohkpjllaaDoor.X
open Go
section
variable {C : Cfg} {N : Nat} {σ : Env} {w : World} {Q : Post} {x y u : Code} {c : Operand} {i : Nat}
theorem CW.seqDc (h : CW C N (.cond c x y) σ w (thenQ (fun σ w => CW C N u σ w Q) Q)) : CW C N (.seq (.cond c x y) u) σ w Q := .seqD h
theorem CW.seqDb (h : CW C N (.block i x) σ w (thenQ (fun σ w => CW C N u σ w Q) Q)) : CW C N (.seq (.block i x) u) σ w Q := .seqD h
theorem CW.seqDl (h : CW C N (.loop x) σ w (thenQ (fun σ w => CW C N u σ w Q) Q)) : CW C N (.seq (.loop x) u) σ w Q := .seqD h
theorem CW.seqDs (h : CW C N (.seq x y) σ w (thenQ (fun σ w => CW C N u σ w Q) Q)) : CW C N (.seq (.seq x y) u) σ w Q := .seqD h
theorem CW.seqDk (h : CW C N .skip σ w (thenQ (fun σ w => CW C N u σ w Q) Q)) : CW C N (.seq .skip u) σ w Q := .seqD h
end
section
variable {C : Cfg} {N : Nat} {gd : List (Option Nat)} {r : List Oper} {σ : Env} {w z : World} {Q : Env → World → Prop} {As : List HP} {x : Operand} {d t b off : Nat} {ty : TypeId} {pos : String} {af : Array Edge} {g : Option (Nat × Bool)}
/-- An element of a slice that is read, by its address. -/
theorem OpsW.ldSA {n cap k sz : Nat} {c vs : List Value} (H : Sat z w As) (h : SlR As (.slice (some ⟨b, off, none⟩) n cap) sz n c) (hg : wan gd σ g = some true) (ha : ev σ x = .pointer (some ⟨b, off + k * sz, none⟩)) (hu : C.T.isAgg t = true)
    (hus : C.T.size.getD t 0 = sz) (hl : k < n) (hv : (c.drop (k * sz)).take sz = vs) (hd : Nat.blt d N = true)
    (K : OpsW C N gd r (upd σ d (.agg vs.toArray)) w Q) : OpsW C N gd (⟨some d, .load t x, ty, pos, af, g⟩ :: r) σ w Q := by
  obtain ⟨h1, a, cap', e, hcp, h2⟩ := h
  rcases h2 with h2 | ⟨b', off', m, E, fr, h3, h4, h5⟩
  · omega
  · subst h3
    simp only [Value.slice.injEq, Option.some.injEq, Addr.mk.injEq] at e
    obtain ⟨⟨rfl, rfl, -⟩, -, -⟩ := e
    have hle : (k + 1) * sz ≤ n * sz := Nat.mul_le_mul_right _ hl
    have hle' : k * sz + sz ≤ n * sz := by rw [← Nat.succ_mul]; exact hle
    refine .ldAh (H.has h4) hg ha hu ?_ ?_ hd K
    · rw [← hv, hus, List.length_take, List.length_drop]; omega
    · intro j v hj
      rw [← hv, List.getElem?_take] at hj
      split at hj
      · rw [List.getElem?_drop] at hj
        rw [Nat.add_assoc, h5 _ (by omega)]; exact hj
      · cases hj
/-- The like, where the element is one cell. -/
theorem OpsW.ldS {n cap k : Nat} {c : List Value} {v : Value} (H : Sat z w As) (h : SlR As (.slice (some ⟨b, off, none⟩) n cap) 1 n c) (hg : wan gd σ g = some true) (ha : ev σ x = .pointer (some ⟨b, off + k * 1, none⟩)) (hu : C.T.isAgg t = false)
    (h0 : Nat.blt 0 (C.T.kind.getD t 0) = true) (hl : k < n) (hv : c[k]? = some v) (hd : Nat.blt d N = true)
    (K : OpsW C N gd r (upd σ d v) w Q) : OpsW C N gd (⟨some d, .load t x, ty, pos, af, g⟩ :: r) σ w Q := by
  obtain ⟨h1, a, cap', e, hcp, h2⟩ := h
  rcases h2 with h2 | ⟨b', off', m, E, fr, h3, h4, h5⟩
  · omega
  · subst h3
    simp only [Value.slice.injEq, Option.some.injEq, Addr.mk.injEq] at e
    obtain ⟨⟨rfl, rfl, -⟩, -, -⟩ := e
    refine .ldh (H.has h4) hg ha hu h0 ?_ hd K
    rw [Nat.mul_one, h5 k (by omega)]; exact hv
end
end Go.Proofs.YtgaabaohkpjllaaDoor.X
