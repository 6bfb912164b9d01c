/- The engine of this seat's proofs: a loop gone through round by round, and a loop over a text; conditions: none. -/
import Derived.Test.YtbmfpkpcljihgaaDoorGC
namespace Go.Proofs.YtbmfpkpcljihgaaDoor.X
open Go
set_option linter.unusedSimpArgs false
set_option linter.unusedVariables false
/-- A loop gone through round by round, at most so many. -/
def Un (C : Cfg) (N : Nat) (x : Code) (Q : Post) : Nat → Env → World → Prop
  | 0, _, _ => False
  | n + 1, σ, w => CW C N x σ w (thenQ (fun σ w => Un C N x Q n σ w) Q)
theorem Un.go {C : Cfg} {N : Nat} {x : Code} {Q : Post} {n : Nat} {σ : Env} {w : World} (h : CW C N x σ w (thenQ (fun σ w => Un C N x Q n σ w) Q)) : Un C N x Q (n + 1) σ w := h
theorem CW.unroll {C : Cfg} {N : Nat} {x : Code} {Q : Post} {σ : Env} {w : World} (n : Nat) (h : Un C N x Q n σ w) : CW C N (.loop x) σ w Q := by
  refine CW.loop (fun n σ w => Un C N x Q n σ w) id n h ?_
  rintro (_ | g) σ w h
  · exact h.elim
  · refine CW.mono h ?_
    rintro e σ w q
    cases e <;> first | exact ⟨g, q, Nat.lt_succ_self g⟩ | exact q

/-- The block b is where a loop over a text stands. -/
def itr (b : Nat) (s : ByteArray) (p : Nat) : HP := fun h => h = fun i => if i = b then some (.stringIter s p) else none
section
variable {z w : World} {l As Rs : List HP} {b : Nat} {s : ByteArray} {p : Nat}
theorem Sat.newI (H : Sat z w l) (s : ByteArray) (p : Nat) : Sat z { w with heap := w.heap.push (.stringIter s p) } (itr w.heap.size s p :: l) := by
  refine ⟨H.os, H.tape, H.output, by have := H.size; simp; omega, ?_⟩
  obtain ⟨h, hs, r⟩ := H.part
  have hlt : ∀ b o, h b = some o → b < w.heap.size := fun b o e => (Array.getElem?_eq_some_iff.1 (hs b o e)).1
  refine ⟨uni (fun i => if i = w.heap.size then some (.stringIter s p) else none) h, ?_, _, h, ?_, rfl, rfl, r⟩
  · intro b o e
    unfold uni at e
    by_cases hb : b = w.heap.size
    · subst hb
      simp at e; subst e; simp
    · simp only [hb, if_false] at e
      show (w.heap.push _)[b]? = _
      rw [Array.getElem?_push, if_neg hb]
      exact hs b o e
  · intro b
    by_cases hb : b = w.heap.size
    · subst hb
      refine .inr ?_
      cases hh : h w.heap.size with
      | none => rfl
      | some o => exact absurd (hlt _ _ hh) (Nat.lt_irrefl _)
    · exact .inl (by simp [hb])
variable {C : Cfg} {N : Nat} {gd : List (Option Nat)} {σ : Env} {Q : Env → World → Prop} {r : List Oper} {d : Nat} {t : TypeId} {x : Operand} {ty : TypeId} {pos : String} {af : Array Edge} {g : Option (Nat × Bool)}
theorem OpsW.rng (H : Sat z w As) (hg : wan gd σ g = some true) (hx : ev σ x = .string s) (hk : Nat.beq (C.T.kind.getD t 0) 3 = true) (hd : Nat.blt d N = true)
    (k : ∀ b w', Sat z w' (itr b s 0 :: As) → OpsW C N gd r (upd σ d (.pointer (some ⟨b, 0, none⟩))) w' Q) : OpsW C N gd (⟨some d, .range t x, ty, pos, af, g⟩ :: r) σ w Q := by
  refine .val (v := .pointer (some ⟨w.heap.size, 0, none⟩)) (w' := { w with heap := w.heap.push (.stringIter s 0) }) hg (run_v ?_) (by simp only [putE, hd]) (k w.heap.size _ (H.newI s 0))
  have hu := Tab.string_ C.ok (Nat.eq_of_beq_eq_true hk)
  rw [hx, Instr.range, X.run_bind _ _ _ _ _ _ (run_und hu w)]
  rfl
end
/-! ### Texts of letters below 128 -/
section
variable {C : Cfg} {N : Nat} {gd : List (Option Nat)} {σ : Env} {Q : Env → World → Prop} {r : List Oper} {d : Nat} {t : TypeId} {x y : Operand} {ty : TypeId} {pos : String} {af : Array Edge} {g : Option (Nat × Bool)} {z w : World} {As Rs : List HP} {b p c : Nat} {l : List Nat}
end
end Go.Proofs.YtbmfpkpcljihgaaDoor.X
