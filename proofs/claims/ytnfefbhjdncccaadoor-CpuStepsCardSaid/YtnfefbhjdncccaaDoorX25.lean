/- The engine of this seat's proofs: a loop gone through round by round, and a loop over a text; conditions: none. -/
import Derived.Test.YtnfefbhjdncccaaDoorGC
namespace Go.Proofs.YtnfefbhjdncccaaDoor.X
open Go
set_option linter.unusedSimpArgs false
set_option linter.unusedVariables false
/-- A loop gone through round by round, at most so many. -/
def Un (C : Cfg) (N : Nat) (x : Code) (Q : Post) : Nat → Env → World → Prop
  | 0, _, _ => False
  | n + 1, σ, w => CW C N x σ w (thenQ (fun σ w => Un C N x Q n σ w) Q)
theorem Un.go {C : Cfg} {N : Nat} {x : Code} {Q : Post} {n : Nat} {σ : Env} {w : World} (h : CW C N x σ w (thenQ (fun σ w => Un C N x Q n σ w) Q)) : Un C N x Q (n + 1) σ w := h
theorem CW.unroll {C : Cfg} {N : Nat} {x : Code} {Q : Post} {σ : Env} {w : World} (n : Nat) (h : Un C N x Q n σ w) : CW C N (.loop x) σ w Q := by
  refine CW.loop (fun n σ w => Un C N x Q n σ w) id n h ?_
  rintro (_ | g) σ w h
  · exact h.elim
  · refine CW.mono h ?_
    rintro e σ w q
    cases e <;> first | exact ⟨g, q, Nat.lt_succ_self g⟩ | exact q

/-- The block b is where a loop over a text stands. -/
def itr (b : Nat) (s : ByteArray) (p : Nat) : HP := fun h => h = fun i => if i = b then some (.stringIter s p) else none
section
variable {z w : World} {l As Rs : List HP} {b : Nat} {s : ByteArray} {p : Nat}
theorem Sat.newI (H : Sat z w l) (s : ByteArray) (p : Nat) : Sat z { w with heap := w.heap.push (.stringIter s p) } (itr w.heap.size s p :: l) := by
  refine ⟨H.os, H.tape, H.output, by have := H.size; simp; omega, ?_⟩
  obtain ⟨h, hs, r⟩ := H.part
  have hlt : ∀ b o, h b = some o → b < w.heap.size := fun b o e => (Array.getElem?_eq_some_iff.1 (hs b o e)).1
  refine ⟨uni (fun i => if i = w.heap.size then some (.stringIter s p) else none) h, ?_, _, h, ?_, rfl, rfl, r⟩
  · intro b o e
    unfold uni at e
    by_cases hb : b = w.heap.size
    · subst hb
      simp at e; subst e; simp
    · simp only [hb, if_false] at e
      show (w.heap.push _)[b]? = _
      rw [Array.getElem?_push, if_neg hb]
      exact hs b o e
  · intro b
    by_cases hb : b = w.heap.size
    · subst hb
      refine .inr ?_
      cases hh : h w.heap.size with
      | none => rfl
      | some o => exact absurd (hlt _ _ hh) (Nat.lt_irrefl _)
    · exact .inl (by simp [hb])
theorem Has.headI : Has (itr b s p :: l) b (.stringIter s p) := by
  rintro h ⟨f, g, d, rfl, rfl, r⟩; simp [uni]
theorem Sat.setI (H : Sat z w (itr b s p :: l)) (q : Nat) : Sat z { w with heap := w.heap.set! b (.stringIter s q) } (itr b s q :: l) := by
  refine ⟨H.os, H.tape, H.output, by simpa using H.size, ?_⟩
  obtain ⟨h, hs, f, g, d, rfl, rfl, r⟩ := H.part
  have hb := hs b (.stringIter s p) (by simp [uni])
  have hlt := (Array.getElem?_eq_some_iff.1 hb).1
  refine ⟨uni (fun i => if i = b then some (.stringIter s q) else none) g, ?_, _, g, ?_, rfl, rfl, r⟩
  · intro i o e
    unfold uni at e
    by_cases hi : i = b
    · subst hi
      simp at e; subst e
      simp [hlt]
    · simp only [hi, if_false] at e
      have h0 := hs i o (by unfold uni; simp [hi, e])
      show (w.heap.set! b _)[i]? = _
      rw [Array.set!_eq_setIfInBounds, Array.getElem?_setIfInBounds, if_neg (fun h => hi h.symm)]
      exact h0
  · intro i
    have := d i
    by_cases hi : i = b <;> simp_all
variable {C : Cfg} {N : Nat} {gd : List (Option Nat)} {σ : Env} {Q : Env → World → Prop} {r : List Oper} {d : Nat} {t : TypeId} {x : Operand} {ty : TypeId} {pos : String} {af : Array Edge} {g : Option (Nat × Bool)}
theorem OpsW.rng (H : Sat z w As) (hg : wan gd σ g = some true) (hx : ev σ x = .string s) (hk : Nat.beq (C.T.kind.getD t 0) 3 = true) (hd : Nat.blt d N = true)
    (k : ∀ b w', Sat z w' (itr b s 0 :: As) → OpsW C N gd r (upd σ d (.pointer (some ⟨b, 0, none⟩))) w' Q) : OpsW C N gd (⟨some d, .range t x, ty, pos, af, g⟩ :: r) σ w Q := by
  refine .val (v := .pointer (some ⟨w.heap.size, 0, none⟩)) (w' := { w with heap := w.heap.push (.stringIter s 0) }) hg (run_v ?_) (by simp only [putE, hd]) (k w.heap.size _ (H.newI s 0))
  have hu := Tab.string_ C.ok (Nat.eq_of_beq_eq_true hk)
  rw [hx, Instr.range, X.run_bind _ _ _ _ _ _ (run_und hu w)]
  rfl
theorem OpsW.nxt {c n : Nat} (H : Sat z w As) (hp : As.Perm (itr b s p :: Rs)) (hg : wan gd σ g = some true) (hx : ev σ x = .pointer (some ⟨b, 0, none⟩)) (hl : Nat.blt p s.size = true) (hc : Utf8.decode s p = (c, n)) (hd : Nat.blt d N = true)
    (k : ∀ w', Sat z w' (itr b s (p + n) :: Rs) → OpsW C N gd r (upd σ d (.tuple #[.bool true, .int .i64 p, .int .i32 c])) w' Q) : OpsW C N gd (⟨some d, .next x true, ty, pos, af, g⟩ :: r) σ w Q := by
  have H1 := H.perm hp
  have hb := H1.has Has.headI
  refine .val (v := .tuple #[.bool true, .int .i64 p, .int .i32 c]) (w' := { w with heap := w.heap.set! b (.stringIter s (p + n)) }) hg (run_v ?_) (by simp only [putE, hd]) (k _ (H1.setI (p + n)))
  have hl' : p < s.size := Nat.le_of_ble_eq_true hl
  rw [hx]
  simp [Instr.next, Sem.run_bind, getObj, setObj, Sem.run, hb, hl', hc, Result.andThen, goInt]
theorem OpsW.nxt0 (H : Sat z w As) (hp : As.Perm (itr b s p :: Rs)) (hg : wan gd σ g = some true) (hx : ev σ x = .pointer (some ⟨b, 0, none⟩)) (hl : Nat.blt p s.size = false) (hd : Nat.blt d N = true)
    (k : OpsW C N gd r (upd σ d (.tuple #[.bool false])) w Q) : OpsW C N gd (⟨some d, .next x true, ty, pos, af, g⟩ :: r) σ w Q := by
  have H1 := H.perm hp
  have hb := H1.has Has.headI
  refine .val (v := .tuple #[.bool false]) (w' := w) hg (run_v ?_) (by simp only [putE, hd]) k
  have hl' : ¬ p < s.size := fun h => by have := Nat.ble_eq_true_of_le h; rw [Nat.blt, this] at hl; cases hl
  rw [hx]
  simp [Instr.next, Sem.run_bind, getObj, Sem.run, hb, hl', Result.andThen]
end
def asc (l : List Nat) : ByteArray := ⟨(l.map UInt8.ofNat).toArray⟩
def asc7 (l : List Nat) : Bool := l.all fun c => Nat.blt c 128
theorem asc_size (l : List Nat) : (asc l).size = l.length := by simp [asc, ByteArray.size]
theorem asc_get {l : List Nat} {p c : Nat} (h7 : asc7 l = true) (h : l[p]? = some c) : ((asc l).get! p).toNat = c ∧ c < 128 := by
  have hc : c < 128 := Nat.le_of_ble_eq_true (List.all_eq_true.1 h7 c (List.mem_of_getElem? h))
  refine ⟨?_, hc⟩
  have hp : p < l.length := (List.getElem?_eq_some_iff.1 h).1
  have e : l[p] = c := (List.getElem?_eq_some_iff.1 h).2
  simp [asc, ByteArray.get!, hp, e]
  omega
theorem asc_dec {l : List Nat} {p c : Nat} (h7 : asc7 l = true) (h : l[p]? = some c) : Utf8.decode (asc l) p = (c, 1) := by
  obtain ⟨h1, h2⟩ := asc_get h7 h
  have h1' : ((asc l).get! (p + 0)).toNat = c := h1
  simp only [Utf8.decode, h1', if_pos h2]
section
variable {C : Cfg} {N : Nat} {gd : List (Option Nat)} {σ : Env} {Q : Env → World → Prop} {r : List Oper} {d : Nat} {t : TypeId} {x y : Operand} {ty : TypeId} {pos : String} {af : Array Edge} {g : Option (Nat × Bool)} {z w : World} {As Rs : List HP} {b p c : Nat} {l : List Nat}
theorem OpsW.nxtL (H : Sat z w As) (hp : As.Perm (itr b (asc l) p :: Rs)) (hg : wan gd σ g = some true) (hx : ev σ x = .pointer (some ⟨b, 0, none⟩)) (h7 : asc7 l = true) (hl : l[p]? = some c) (hd : Nat.blt d N = true)
    (k : ∀ w', Sat z w' (itr b (asc l) (p + 1) :: Rs) → OpsW C N gd r (upd σ d (.tuple #[.bool true, .int .i64 p, .int .i32 c])) w' Q) : OpsW C N gd (⟨some d, .next x true, ty, pos, af, g⟩ :: r) σ w Q :=
  OpsW.nxt H hp hg hx (by rw [asc_size]; exact Nat.ble_eq_true_of_le (List.getElem?_eq_some_iff.1 hl).1) (asc_dec h7 hl) hd k
theorem OpsW.nxtE (H : Sat z w As) (hp : As.Perm (itr b (asc l) p :: Rs)) (hg : wan gd σ g = some true) (hx : ev σ x = .pointer (some ⟨b, 0, none⟩)) (hl : l[p]? = none) (hd : Nat.blt d N = true)
    (k : OpsW C N gd r (upd σ d (.tuple #[.bool false])) w Q) : OpsW C N gd (⟨some d, .next x true, ty, pos, af, g⟩ :: r) σ w Q :=
  OpsW.nxt0 H hp hg hx (by
    rw [asc_size]
    have := List.getElem?_eq_none_iff.1 hl
    rw [← Bool.not_eq_true]
    intro h
    have := Nat.le_of_ble_eq_true h
    omega) hd k
/-- s[k:] of a slice with its memory, something left. -/
theorem OpsW.slcFs {n cap k off : Nat} {i : Int} {kd : IntKind} {sz : Nat} (hg : wan gd σ g = some true) (hx : ev σ x = .slice (some ⟨b, off, none⟩) n cap) (hy : ev σ y = .int kd i) (hk : Nat.beq (C.T.kind.getD t 0) 4 = true) (he : Nat.blt 0 (C.T.kind.getD (C.T.elem.getD t 0) 0) = true)
    (hsz : C.T.size.getD (C.T.elem.getD t 0) 0 = sz) (hn : i = k) (hl : k ≤ n) (hc : n ≤ cap) (hlt : k < cap) (hd : Nat.blt d N = true)
    (K : OpsW C N gd r (upd σ d (.slice (some ⟨b, off + k * sz, none⟩) (n - k) (cap - k))) w Q) : OpsW C N gd (⟨some d, .slice t x (some y) none none, ty, pos, af, g⟩ :: r) σ w Q := by
  refine .slcF hg hx hy hk he hsz hn hl hc hd ?_
  rw [if_neg (by omega)]
  simp only [Option.map_some, add_off]
  exact K
/-- s[k:], nothing left. -/
theorem OpsW.slcFe {n k off : Nat} {i : Int} {kd : IntKind} {sz : Nat} (hg : wan gd σ g = some true) (hx : ev σ x = .slice (some ⟨b, off, none⟩) n k) (hy : ev σ y = .int kd i) (hk : Nat.beq (C.T.kind.getD t 0) 4 = true) (he : Nat.blt 0 (C.T.kind.getD (C.T.elem.getD t 0) 0) = true)
    (hsz : C.T.size.getD (C.T.elem.getD t 0) 0 = sz) (hn : i = k) (hl : n = k) (hd : Nat.blt d N = true)
    (K : OpsW C N gd r (upd σ d (.slice (some ⟨b, off, none⟩) 0 0)) w Q) : OpsW C N gd (⟨some d, .slice t x (some y) none none, ty, pos, af, g⟩ :: r) σ w Q := by
  subst hl
  refine .slcF hg hx hy hk he hsz hn (Nat.le_refl _) (Nat.le_refl _) hd ?_
  rw [if_pos rfl, Nat.sub_self]
  exact K
end
end Go.Proofs.YtnfefbhjdncccaaDoor.X
