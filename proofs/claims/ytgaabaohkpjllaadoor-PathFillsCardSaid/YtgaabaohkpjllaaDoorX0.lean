/- The engine of this seat's proofs, part 1: assertions on parts of memory (separation), as lists; conditions: none. -/
import Derived.WalkKit
namespace Go.Proofs.YtgaabaohkpjllaaDoor.X
open Go

/-! ### Partial heaps -/
abbrev Hp := Nat → Option Obj
abbrev HP := Hp → Prop

def Dis (g h : Hp) : Prop := ∀ b, g b = none ∨ h b = none
def uni (g h : Hp) : Hp := fun b => match g b with | some o => some o | none => h b
def nil_ : Hp := fun _ => none

theorem Dis.symm {g h : Hp} (d : Dis g h) : Dis h g := fun b => (d b).symm
theorem uni_comm {g h : Hp} (d : Dis g h) : uni g h = uni h g := by
  funext b; unfold uni
  rcases d b with e | e <;> rw [e] <;> cases g b <;> cases h b <;> simp_all
theorem uni_assoc (f g h : Hp) : uni (uni f g) h = uni f (uni g h) := by
  funext b; simp only [uni]; cases f b <;> rfl
theorem uni_none {g h : Hp} {b : Nat} : uni g h b = none ↔ g b = none ∧ h b = none := by
  unfold uni; cases g b <;> simp
theorem Dis.uni_left {f g h : Hp} : Dis (uni f g) h ↔ Dis f h ∧ Dis g h := by
  constructor
  · intro d
    refine ⟨fun b => ?_, fun b => ?_⟩ <;> rcases d b with e | e
    · exact .inl (uni_none.1 e).1
    · exact .inr e
    · exact .inl (uni_none.1 e).2
    · exact .inr e
  · rintro ⟨d1, d2⟩ b
    rcases d1 b with e | e
    · rcases d2 b with e2 | e2
      · exact .inl (uni_none.2 ⟨e, e2⟩)
      · exact .inr e2
    · exact .inr e
theorem uni_nil_left (h : Hp) : uni nil_ h = h := rfl
theorem uni_nil_right (h : Hp) : uni h nil_ = h := by funext b; unfold uni nil_; cases h b <;> rfl
theorem Dis.nil_left (h : Hp) : Dis nil_ h := fun _ => .inl rfl

def star (A B : HP) : HP := fun h => ∃ f g, Dis f g ∧ h = uni f g ∧ A f ∧ B g
def emp : HP := fun h => h = nil_
def stars : List HP → HP
  | [] => emp
  | A :: l => star A (stars l)

theorem star_comm (A B : HP) : star A B = star B A := by
  funext h; apply propext; constructor <;> (rintro ⟨f, g, d, rfl, a, b⟩; exact ⟨g, f, d.symm, uni_comm d, b, a⟩)
theorem star_assoc (A B C : HP) : star (star A B) C = star A (star B C) := by
  funext h; apply propext; constructor
  · rintro ⟨fg, k, d, rfl, ⟨f, g, d2, rfl, a, b⟩, c⟩
    obtain ⟨d3, d4⟩ := Dis.uni_left.1 d
    exact ⟨f, uni g k, (Dis.uni_left.2 ⟨d2.symm, d3.symm⟩).symm, uni_assoc _ _ _, a, g, k, d4, rfl, b, c⟩
  · rintro ⟨f, gk, d, rfl, a, g, k, d2, rfl, b, c⟩
    obtain ⟨d3, d4⟩ := Dis.uni_left.1 d.symm
    exact ⟨uni f g, k, Dis.uni_left.2 ⟨d4.symm, d2⟩, (uni_assoc _ _ _).symm, ⟨f, g, d3.symm, rfl, a, b⟩, c⟩
theorem star_left_comm (A B C : HP) : star A (star B C) = star B (star A C) := by
  rw [← star_assoc, star_comm A B, star_assoc]
theorem emp_star (A : HP) : star emp A = A := by
  funext h; apply propext; constructor
  · rintro ⟨f, g, _, rfl, rfl, a⟩; exact a
  · intro a; exact ⟨nil_, h, Dis.nil_left _, rfl, rfl, a⟩
theorem star_emp (A : HP) : star A emp = A := by rw [star_comm, emp_star]
theorem stars_perm {l m : List HP} (p : l.Perm m) : stars l = stars m := by
  induction p with
  | nil => rfl
  | cons A _ ih => simp only [stars, ih]
  | swap A B l => simp only [stars]; exact star_left_comm _ _ _
  | trans _ _ i j => exact i.trans j
theorem stars_append (l m : List HP) : stars (l ++ m) = star (stars l) (stars m) := by
  induction l with
  | nil => simp [stars, emp_star]
  | cons A l ih => simp only [List.cons_append, stars, ih, star_assoc]

/-- Some part of the memory is as the assertion says; the streams are as in z. -/
structure Sat (z w : World) (l : List HP) : Prop where
  os : w.os = z.os
  tape : w.tape = z.tape
  output : w.output = z.output
  size : z.heap.size ≤ w.heap.size
  part : ∃ h, (∀ b o, h b = some o → w.heap[b]? = some o) ∧ stars l h

section
variable {z w : World} {l m : List HP} {A B : HP}
theorem Sat.perm (H : Sat z w l) (p : l.Perm m) : Sat z w m := ⟨H.os, H.tape, H.output, H.size, by rw [← stars_perm p]; exact H.part⟩
theorem Sat.imp (H : Sat z w (A :: l)) (k : ∀ h, A h → B h) : Sat z w (B :: l) :=
  ⟨H.os, H.tape, H.output, H.size, by obtain ⟨h, hs, f, g, d, e, a, r⟩ := H.part; exact ⟨h, hs, f, g, d, e, k _ a, r⟩⟩
theorem Sat.drop (H : Sat z w (A :: l)) : Sat z w l :=
  ⟨H.os, H.tape, H.output, H.size, by
    obtain ⟨h, hs, f, g, d, e, a, r⟩ := H.part
    refine ⟨g, fun b o hb => hs b o ?_, r⟩
    rw [e]; unfold uni
    rcases d b with e2 | e2
    · rw [e2]; exact hb
    · rw [e2] at hb; cases hb⟩
theorem Sat.ex {X : Type} {A : X → HP} (H : Sat z w ((fun h => ∃ x, A x h) :: l)) : ∃ x, Sat z w (A x :: l) := by
  obtain ⟨h, hs, f, g, d, e, ⟨x, a⟩, r⟩ := H.part
  exact ⟨x, H.os, H.tape, H.output, H.size, h, hs, f, g, d, e, a, r⟩
theorem Sat.split (H : Sat z w (star A B :: l)) : Sat z w (A :: B :: l) := ⟨H.os, H.tape, H.output, H.size, by
  have := H.part; simp only [stars] at this ⊢; rw [← star_assoc]; exact this⟩
theorem Sat.join (H : Sat z w (A :: B :: l)) : Sat z w (star A B :: l) := ⟨H.os, H.tape, H.output, H.size, by
  have := H.part; simp only [stars] at this ⊢; rw [star_assoc]; exact this⟩
theorem Sat.splits (H : Sat z w (stars m :: l)) : Sat z w (m ++ l) := ⟨H.os, H.tape, H.output, H.size, by
  rw [stars_append]; exact H.part⟩
theorem Sat.joins (H : Sat z w (m ++ l)) : Sat z w (stars m :: l) := ⟨H.os, H.tape, H.output, H.size, by
  have := H.part; rw [stars_append] at this; exact this⟩
/-- Set one part aside: the rest is one assertion. -/
theorem Sat.focus (H : Sat z w l) (p : l.Perm (A :: m)) : Sat z w [A, stars m] := by
  refine (Sat.joins (m := m) (l := [A]) (H.perm (p.trans ?_))).perm (.swap _ _ _)
  exact (List.perm_append_comm (l₁ := [A]) (l₂ := m))
theorem Sat.unfocus (H : Sat z w [A, stars m]) : Sat z w (A :: m) :=
  ((H.perm (.swap _ _ _)).splits).perm (List.perm_append_comm (l₁ := m) (l₂ := [A]))
/-- Nothing at hand but one assertion. -/
theorem Sat.all (H : Sat z w l) : Sat z w [stars l] := by
  have := Sat.joins (m := l) (l := []) (by simpa using H); exact this
theorem Sat.unall (H : Sat z w [stars l]) : Sat z w l := by simpa using H.splits

def pur (p : Prop) : HP := fun h => p ∧ h = nil_
theorem Sat.pur_ {p : Prop} (H : Sat z w (pur p :: l)) : p ∧ Sat z w l := by
  refine ⟨?_, H.drop⟩
  obtain ⟨h, hs, f, g, d, e, ⟨a, _⟩, r⟩ := H.part
  exact a
theorem Sat.mkpur {p : Prop} (H : Sat z w l) (hp : p) : Sat z w (pur p :: l) :=
  ⟨H.os, H.tape, H.output, H.size, by
    obtain ⟨h, hs, r⟩ := H.part; exact ⟨h, hs, nil_, h, Dis.nil_left _, rfl, ⟨hp, rfl⟩, r⟩⟩

/-- The block b is a row of cells, none frozen. -/
def blk (b : Nat) (T : TypeId) (c : List Value) : HP := fun h => h = fun i => if i = b then some (.cells c.toArray T (0, 0)) else none
/-- All blocks of a world are as they were. -/
def snap (w0 : World) : HP := fun h => h = fun i => w0.heap[i]?

theorem Sat.start (w : World) : Sat w w [snap w] := ⟨rfl, rfl, rfl, Nat.le_refl _, _, fun _ _ h => h, by
  show star (snap w) emp _
  rw [star_emp]; rfl⟩
theorem Sat.snap_ (H : Sat z w (snap z :: l)) : Go.RowKit.Below z.heap.size z w := by
  refine ⟨H.os, H.tape, H.output, H.size, fun k hk => ?_⟩
  obtain ⟨h, hs, f, g, d, e, rfl, r⟩ := H.part
  have hz : z.heap[k]? = some z.heap[k] := by simp [hk]
  rw [hz]
  exact hs k _ (by rw [e]; unfold uni; simp only [hz])

/-- What an assertion says of one block. -/
def Has (l : List HP) (b : Nat) (o : Obj) : Prop := ∀ h, stars l h → h b = some o
theorem Sat.has (H : Sat z w l) {b : Nat} {o : Obj} (k : Has l b o) : w.heap[b]? = some o := by
  obtain ⟨h, hs, r⟩ := H.part; exact hs _ _ (k h r)
theorem Has.head {b : Nat} {T : TypeId} {c : List Value} : Has (blk b T c :: l) b (.cells c.toArray T (0, 0)) := by
  rintro h ⟨f, g, d, rfl, rfl, r⟩; simp [uni]
theorem Has.of_snap {w0 : World} {b : Nat} {o : Obj} (h0 : w0.heap[b]? = some o) : Has (snap w0 :: l) b o := by
  rintro h ⟨f, g, d, rfl, rfl, r⟩; simp [uni, h0]
theorem Has.perm {b : Nat} {o : Obj} (k : Has m b o) (p : l.Perm m) : Has l b o := fun h r => k h (by rw [← stars_perm p]; exact r)
theorem Has.tail {b : Nat} {o : Obj} (k : Has l b o) : Has (A :: l) b o := by
  rintro h ⟨f, g, d, rfl, a, r⟩
  have e := k g r
  unfold uni
  rcases d b with e2 | e2
  · rw [e2]; exact e
  · rw [e2] at e; cases e
theorem Has.all {b : Nat} {o : Obj} (k : Has l b o) : Has [stars l] b o := by
  intro h r; refine k h ?_; simp only [stars, star_emp] at r; exact r
theorem Has.of_imp {b : Nat} {o : Obj} (k : ∀ h, A h → h b = some o) : Has (A :: l) b o := by
  rintro h ⟨f, g, d, rfl, a, r⟩; simp [uni, k f a]

theorem Sat.new (H : Sat z w l) (T : TypeId) (c : List Value) : Sat z { w with heap := w.heap.push (.cells c.toArray T (0, 0)) } (blk w.heap.size T c :: l) := by
  refine ⟨H.os, H.tape, H.output, by have := H.size; simp; omega, ?_⟩
  obtain ⟨h, hs, r⟩ := H.part
  have hlt : ∀ b o, h b = some o → b < w.heap.size := fun b o e => by
    have := hs b o e
    exact (Array.getElem?_eq_some_iff.1 this).1
  refine ⟨uni (fun i => if i = w.heap.size then some (.cells c.toArray T (0, 0)) else none) h, ?_, _, h, ?_, rfl, rfl, r⟩
  · intro b o e
    unfold uni at e
    by_cases hb : b = w.heap.size
    · subst hb
      simp at e; subst e; simp
    · simp only [hb, if_false] at e
      have hl := hlt b o e
      show (w.heap.push _)[b]? = _
      rw [Array.getElem?_push, if_neg hb]
      exact hs b o e
  · intro b
    by_cases hb : b = w.heap.size
    · subst hb
      refine .inr ?_
      cases hh : h w.heap.size with
      | none => rfl
      | some o => exact absurd (hlt _ _ hh) (Nat.lt_irrefl _)
    · exact .inl (by simp [hb])
theorem Sat.set {b : Nat} {T : TypeId} {c : List Value} (H : Sat z w (blk b T c :: l)) (off : Nat) (v : Value) :
    Sat z (w.setCell ⟨b, off, none⟩ v) (blk b T (c.set off v) :: l) := by
  refine ⟨H.os, H.tape, H.output, by simpa [World.setCell] using H.size, ?_⟩
  obtain ⟨h, hs, f, g, d, rfl, rfl, r⟩ := H.part
  refine ⟨uni (fun i => if i = b then some (.cells (c.set off v).toArray T (0, 0)) else none) g, ?_, _, g, ?_, rfl, rfl, r⟩
  · intro i o e
    simp only [World.setCell, Array.getElem?_modify]
    unfold uni at e
    by_cases hi : i = b
    · subst hi
      simp at e; subst e
      have := hs i (.cells c.toArray T (0, 0)) (by simp [uni])
      simp [this]
    · simp only [hi, if_false] at e
      rw [if_neg (fun h => hi h.symm)]
      refine hs i o ?_
      unfold uni; simp [hi, e]
  · intro i
    have := d i
    by_cases hi : i = b <;> simp_all
theorem Sat.drawn (H : Sat z w l) (n : Nat) : Sat z { w with drawn := n } l := ⟨H.os, H.tape, H.output, H.size, H.part⟩
theorem Sat.lt {b : Nat} {T : TypeId} {c : List Value} (H : Sat z w (blk b T c :: l)) : b < w.heap.size :=
  (Array.getElem?_eq_some_iff.1 (H.has Has.head)).1
theorem Sat.ne {b b' : Nat} {T T' : TypeId} {c c' : List Value} (H : Sat z w (blk b T c :: blk b' T' c' :: l)) : b ≠ b' := by
  rintro rfl
  obtain ⟨h, hs, f, g, d, rfl, rfl, f2, g2, d2, rfl, rfl, r⟩ := H.part
  rcases d b with e | e <;> simp [uni] at e
end
theorem p0 {A : HP} {l : List HP} : (A :: l).Perm (A :: l) := .refl _
theorem pS {A B : HP} {l m : List HP} (p : l.Perm (A :: m)) : (B :: l).Perm (A :: B :: m) := (p.cons B).trans (.swap _ _ _)
end Go.Proofs.YtgaabaohkpjllaaDoor.X
