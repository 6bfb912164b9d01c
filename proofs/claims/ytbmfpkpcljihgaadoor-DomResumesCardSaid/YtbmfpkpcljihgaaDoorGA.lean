/- The engine of this seat's proofs, part 1: assertions on parts of memory (separation), as lists; conditions: none. -/
import Derived.WalkKit
namespace Go.Proofs.YtbmfpkpcljihgaaDoor.X
open Go
abbrev Hp := Nat → Option Obj
abbrev HP := Hp → Prop

def Dis (g h : Hp) : Prop := ∀ b, g b = none ∨ h b = none
def uni (g h : Hp) : Hp := fun b => match g b with | some o => some o | none => h b
def nil_ : Hp := fun _ => none

theorem Dis.symm {g h : Hp} (d : Dis g h) : Dis h g := fun b => (d b).symm
theorem uni_comm {g h : Hp} (d : Dis g h) : uni g h = uni h g := by
  funext b; unfold uni
  rcases d b with e | e <;> rw [e] <;> cases g b <;> cases h b <;> simp_all
theorem uni_assoc (f g h : Hp) : uni (uni f g) h = uni f (uni g h) := by
  funext b; simp only [uni]; cases f b <;> rfl
theorem uni_none {g h : Hp} {b : Nat} : uni g h b = none ↔ g b = none ∧ h b = none := by
  unfold uni; cases g b <;> simp
theorem Dis.uni_left {f g h : Hp} : Dis (uni f g) h ↔ Dis f h ∧ Dis g h := by
  constructor
  · intro d
    refine ⟨fun b => ?_, fun b => ?_⟩ <;> rcases d b with e | e
    · exact .inl (uni_none.1 e).1
    · exact .inr e
    · exact .inl (uni_none.1 e).2
    · exact .inr e
  · rintro ⟨d1, d2⟩ b
    rcases d1 b with e | e
    · rcases d2 b with e2 | e2
      · exact .inl (uni_none.2 ⟨e, e2⟩)
      · exact .inr e2
    · exact .inr e
theorem Dis.nil_left (h : Hp) : Dis nil_ h := fun _ => .inl rfl

def star (A B : HP) : HP := fun h => ∃ f g, Dis f g ∧ h = uni f g ∧ A f ∧ B g
def emp : HP := fun h => h = nil_
def stars : List HP → HP
  | [] => emp
  | A :: l => star A (stars l)

theorem star_comm (A B : HP) : star A B = star B A := by
  funext h; apply propext; constructor <;> (rintro ⟨f, g, d, rfl, a, b⟩; exact ⟨g, f, d.symm, uni_comm d, b, a⟩)
theorem star_assoc (A B C : HP) : star (star A B) C = star A (star B C) := by
  funext h; apply propext; constructor
  · rintro ⟨fg, k, d, rfl, ⟨f, g, d2, rfl, a, b⟩, c⟩
    obtain ⟨d3, d4⟩ := Dis.uni_left.1 d
    exact ⟨f, uni g k, (Dis.uni_left.2 ⟨d2.symm, d3.symm⟩).symm, uni_assoc _ _ _, a, g, k, d4, rfl, b, c⟩
  · rintro ⟨f, gk, d, rfl, a, g, k, d2, rfl, b, c⟩
    obtain ⟨d3, d4⟩ := Dis.uni_left.1 d.symm
    exact ⟨uni f g, k, Dis.uni_left.2 ⟨d4.symm, d2⟩, (uni_assoc _ _ _).symm, ⟨f, g, d3.symm, rfl, a, b⟩, c⟩
theorem star_left_comm (A B C : HP) : star A (star B C) = star B (star A C) := by
  rw [← star_assoc, star_comm A B, star_assoc]
theorem emp_star (A : HP) : star emp A = A := by
  funext h; apply propext; constructor
  · rintro ⟨f, g, _, rfl, rfl, a⟩; exact a
  · intro a; exact ⟨nil_, h, Dis.nil_left _, rfl, rfl, a⟩
theorem star_emp (A : HP) : star A emp = A := by rw [star_comm, emp_star]
theorem stars_perm {l m : List HP} (p : l.Perm m) : stars l = stars m := by
  induction p with
  | nil => rfl
  | cons A _ ih => simp only [stars, ih]
  | swap A B l => simp only [stars]; exact star_left_comm _ _ _
  | trans _ _ i j => exact i.trans j
theorem stars_append (l m : List HP) : stars (l ++ m) = star (stars l) (stars m) := by
  induction l with
  | nil => simp [stars, emp_star]
  | cons A l ih => simp only [List.cons_append, stars, ih, star_assoc]

structure Sat (z w : World) (l : List HP) : Prop where
  os : w.os = z.os
  tape : w.tape = z.tape
  output : w.output = z.output
  size : z.heap.size ≤ w.heap.size
  part : ∃ h, (∀ b o, h b = some o → w.heap[b]? = some o) ∧ stars l h

section
variable {z w : World} {l m : List HP} {A B : HP}
theorem Sat.perm (H : Sat z w l) (p : l.Perm m) : Sat z w m := ⟨H.os, H.tape, H.output, H.size, by rw [← stars_perm p]; exact H.part⟩
theorem Sat.imp (H : Sat z w (A :: l)) (k : ∀ h, A h → B h) : Sat z w (B :: l) :=
  ⟨H.os, H.tape, H.output, H.size, by obtain ⟨h, hs, f, g, d, e, a, r⟩ := H.part; exact ⟨h, hs, f, g, d, e, k _ a, r⟩⟩
theorem Sat.drop (H : Sat z w (A :: l)) : Sat z w l :=
  ⟨H.os, H.tape, H.output, H.size, by
    obtain ⟨h, hs, f, g, d, e, a, r⟩ := H.part
    refine ⟨g, fun b o hb => hs b o ?_, r⟩
    rw [e]; unfold uni
    rcases d b with e2 | e2
    · rw [e2]; exact hb
    · rw [e2] at hb; cases hb⟩
theorem Sat.ex {X : Type} {A : X → HP} (H : Sat z w ((fun h => ∃ x, A x h) :: l)) : ∃ x, Sat z w (A x :: l) := by
  obtain ⟨h, hs, f, g, d, e, ⟨x, a⟩, r⟩ := H.part
  exact ⟨x, H.os, H.tape, H.output, H.size, h, hs, f, g, d, e, a, r⟩
theorem Sat.split (H : Sat z w (star A B :: l)) : Sat z w (A :: B :: l) := ⟨H.os, H.tape, H.output, H.size, by
  have := H.part; simp only [stars] at this ⊢; rw [← star_assoc]; exact this⟩
theorem Sat.join (H : Sat z w (A :: B :: l)) : Sat z w (star A B :: l) := ⟨H.os, H.tape, H.output, H.size, by
  have := H.part; simp only [stars] at this ⊢; rw [star_assoc]; exact this⟩
theorem Sat.splits (H : Sat z w (stars m :: l)) : Sat z w (m ++ l) := ⟨H.os, H.tape, H.output, H.size, by
  rw [stars_append]; exact H.part⟩
theorem Sat.joins (H : Sat z w (m ++ l)) : Sat z w (stars m :: l) := ⟨H.os, H.tape, H.output, H.size, by
  have := H.part; rw [stars_append] at this; exact this⟩
theorem Sat.all (H : Sat z w l) : Sat z w [stars l] := by
  have := Sat.joins (m := l) (l := []) (by simpa using H); exact this
def blk (b : Nat) (T : TypeId) (c : List Value) : HP := fun h => h = fun i => if i = b then some (.cells c.toArray T (0, 0)) else none
def snap (w0 : World) : HP := fun h => h = fun i => w0.heap[i]?

theorem Sat.start (w : World) : Sat w w [snap w] := ⟨rfl, rfl, rfl, Nat.le_refl _, _, fun _ _ h => h, by
  show star (snap w) emp _
  rw [star_emp]; rfl⟩
theorem Sat.snap_ (H : Sat z w (snap z :: l)) : Go.RowKit.Below z.heap.size z w := by
  refine ⟨H.os, H.tape, H.output, H.size, fun k hk => ?_⟩
  obtain ⟨h, hs, f, g, d, e, rfl, r⟩ := H.part
  have hz : z.heap[k]? = some z.heap[k] := by simp [hk]
  rw [hz]
  exact hs k _ (by rw [e]; unfold uni; simp only [hz])

def Has (l : List HP) (b : Nat) (o : Obj) : Prop := ∀ h, stars l h → h b = some o
theorem Sat.has (H : Sat z w l) {b : Nat} {o : Obj} (k : Has l b o) : w.heap[b]? = some o := by
  obtain ⟨h, hs, r⟩ := H.part; exact hs _ _ (k h r)
theorem Has.head {b : Nat} {T : TypeId} {c : List Value} : Has (blk b T c :: l) b (.cells c.toArray T (0, 0)) := by
  rintro h ⟨f, g, d, rfl, rfl, r⟩; simp [uni]
theorem Has.of_snap {w0 : World} {b : Nat} {o : Obj} (h0 : w0.heap[b]? = some o) : Has (snap w0 :: l) b o := by
  rintro h ⟨f, g, d, rfl, rfl, r⟩; simp [uni, h0]
theorem Has.perm {b : Nat} {o : Obj} (k : Has m b o) (p : l.Perm m) : Has l b o := fun h r => k h (by rw [← stars_perm p]; exact r)
theorem Has.tail {b : Nat} {o : Obj} (k : Has l b o) : Has (A :: l) b o := by
  rintro h ⟨f, g, d, rfl, a, r⟩
  have e := k g r
  unfold uni
  rcases d b with e2 | e2
  · rw [e2]; exact e
  · rw [e2] at e; cases e
theorem Has.all {b : Nat} {o : Obj} (k : Has l b o) : Has [stars l] b o := by
  intro h r; refine k h ?_; simp only [stars, star_emp] at r; exact r
theorem Sat.new (H : Sat z w l) (T : TypeId) (c : List Value) : Sat z { w with heap := w.heap.push (.cells c.toArray T (0, 0)) } (blk w.heap.size T c :: l) := by
  refine ⟨H.os, H.tape, H.output, by have := H.size; simp; omega, ?_⟩
  obtain ⟨h, hs, r⟩ := H.part
  have hlt : ∀ b o, h b = some o → b < w.heap.size := fun b o e => by
    have := hs b o e
    exact (Array.getElem?_eq_some_iff.1 this).1
  refine ⟨uni (fun i => if i = w.heap.size then some (.cells c.toArray T (0, 0)) else none) h, ?_, _, h, ?_, rfl, rfl, r⟩
  · intro b o e
    unfold uni at e
    by_cases hb : b = w.heap.size
    · subst hb
      simp at e; subst e; simp
    · simp only [hb, if_false] at e
      have hl := hlt b o e
      show (w.heap.push _)[b]? = _
      rw [Array.getElem?_push, if_neg hb]
      exact hs b o e
  · intro b
    by_cases hb : b = w.heap.size
    · subst hb
      refine .inr ?_
      cases hh : h w.heap.size with
      | none => rfl
      | some o => exact absurd (hlt _ _ hh) (Nat.lt_irrefl _)
    · exact .inl (by simp [hb])
theorem Sat.set {b : Nat} {T : TypeId} {c : List Value} (H : Sat z w (blk b T c :: l)) (off : Nat) (v : Value) :
    Sat z (w.setCell ⟨b, off, none⟩ v) (blk b T (c.set off v) :: l) := by
  refine ⟨H.os, H.tape, H.output, by simpa [World.setCell] using H.size, ?_⟩
  obtain ⟨h, hs, f, g, d, rfl, rfl, r⟩ := H.part
  refine ⟨uni (fun i => if i = b then some (.cells (c.set off v).toArray T (0, 0)) else none) g, ?_, _, g, ?_, rfl, rfl, r⟩
  · intro i o e
    simp only [World.setCell, Array.getElem?_modify]
    unfold uni at e
    by_cases hi : i = b
    · subst hi
      simp at e; subst e
      have := hs i (.cells c.toArray T (0, 0)) (by simp [uni])
      simp [this]
    · simp only [hi, if_false] at e
      rw [if_neg (fun h => hi h.symm)]
      refine hs i o ?_
      unfold uni; simp [hi, e]
  · intro i
    have := d i
    by_cases hi : i = b <;> simp_all
theorem Sat.drawn (H : Sat z w l) (n : Nat) : Sat z { w with drawn := n } l := ⟨H.os, H.tape, H.output, H.size, H.part⟩
end
theorem p0 {A : HP} {l : List HP} : (A :: l).Perm (A :: l) := .refl _
theorem pS {A B : HP} {l m : List HP} (p : l.Perm (A :: m)) : (B :: l).Perm (A :: B :: m) := (p.cons B).trans (.swap _ _ _)
theorem p1 {X0 A : HP} {l : List HP} : (X0 :: A :: l).Perm (A :: X0 :: l) := pS p0
theorem p2 {X0 X1 A : HP} {l : List HP} : (X0 :: X1 :: A :: l).Perm (A :: X0 :: X1 :: l) := pS (pS p0)
theorem p3 {X0 X1 X2 A : HP} {l : List HP} : (X0 :: X1 :: X2 :: A :: l).Perm (A :: X0 :: X1 :: X2 :: l) := pS (pS (pS p0))
theorem p4 {X0 X1 X2 X3 A : HP} {l : List HP} : (X0 :: X1 :: X2 :: X3 :: A :: l).Perm (A :: X0 :: X1 :: X2 :: X3 :: l) := pS (pS (pS (pS p0)))
theorem p5 {X0 X1 X2 X3 X4 A : HP} {l : List HP} : (X0 :: X1 :: X2 :: X3 :: X4 :: A :: l).Perm (A :: X0 :: X1 :: X2 :: X3 :: X4 :: l) := pS (pS (pS (pS (pS p0))))
theorem p6 {X0 X1 X2 X3 X4 X5 A : HP} {l : List HP} : (X0 :: X1 :: X2 :: X3 :: X4 :: X5 :: A :: l).Perm (A :: X0 :: X1 :: X2 :: X3 :: X4 :: X5 :: l) := pS (pS (pS (pS (pS (pS p0)))))
theorem p7 {X0 X1 X2 X3 X4 X5 X6 A : HP} {l : List HP} : (X0 :: X1 :: X2 :: X3 :: X4 :: X5 :: X6 :: A :: l).Perm (A :: X0 :: X1 :: X2 :: X3 :: X4 :: X5 :: X6 :: l) := pS (pS (pS (pS (pS (pS (pS p0))))))
theorem p8 {X0 X1 X2 X3 X4 X5 X6 X7 A : HP} {l : List HP} : (X0 :: X1 :: X2 :: X3 :: X4 :: X5 :: X6 :: X7 :: A :: l).Perm (A :: X0 :: X1 :: X2 :: X3 :: X4 :: X5 :: X6 :: X7 :: l) := pS (pS (pS (pS (pS (pS (pS (pS p0)))))))
theorem p9 {X0 X1 X2 X3 X4 X5 X6 X7 X8 A : HP} {l : List HP} : (X0 :: X1 :: X2 :: X3 :: X4 :: X5 :: X6 :: X7 :: X8 :: A :: l).Perm (A :: X0 :: X1 :: X2 :: X3 :: X4 :: X5 :: X6 :: X7 :: X8 :: l) := pS (pS (pS (pS (pS (pS (pS (pS (pS p0))))))))
theorem p10 {X0 X1 X2 X3 X4 X5 X6 X7 X8 X9 A : HP} {l : List HP} : (X0 :: X1 :: X2 :: X3 :: X4 :: X5 :: X6 :: X7 :: X8 :: X9 :: A :: l).Perm (A :: X0 :: X1 :: X2 :: X3 :: X4 :: X5 :: X6 :: X7 :: X8 :: X9 :: l) := pS (pS (pS (pS (pS (pS (pS (pS (pS (pS p0)))))))))
theorem p11 {X0 X1 X2 X3 X4 X5 X6 X7 X8 X9 X10 A : HP} {l : List HP} : (X0 :: X1 :: X2 :: X3 :: X4 :: X5 :: X6 :: X7 :: X8 :: X9 :: X10 :: A :: l).Perm (A :: X0 :: X1 :: X2 :: X3 :: X4 :: X5 :: X6 :: X7 :: X8 :: X9 :: X10 :: l) := pS (pS (pS (pS (pS (pS (pS (pS (pS (pS (pS p0))))))))))
section
variable {z w : World} {l : List HP} {A B C D E F G : HP}
theorem Sat.d2 (H : Sat z w (A :: B :: l)) : Sat z w l := H.drop.drop
theorem Sat.d3 (H : Sat z w (A :: B :: C :: l)) : Sat z w l := H.drop.drop.drop
theorem Sat.d4 (H : Sat z w (A :: B :: C :: D :: l)) : Sat z w l := H.drop.drop.drop.drop
theorem Sat.d5 (H : Sat z w (A :: B :: C :: D :: E :: l)) : Sat z w l := H.drop.drop.drop.drop.drop
theorem Sat.d6 (H : Sat z w (A :: B :: C :: D :: E :: F :: l)) : Sat z w l := H.drop.drop.drop.drop.drop.drop
theorem Sat.d7 (H : Sat z w (A :: B :: C :: D :: E :: F :: G :: l)) : Sat z w l := H.drop.drop.drop.drop.drop.drop.drop
end
end Go.Proofs.YtbmfpkpcljihgaaDoor.X
namespace Go.Proofs.YtbmfpkpcljihgaaDoor.X
open Go
set_option linter.unusedSimpArgs false
set_option linter.unusedVariables false
abbrev Env := Nat → Value
def upd (σ : Env) (d : Nat) (v : Value) : Env := fun i => bif Nat.beq i d then v else σ i
def ev (σ : Env) : Operand → Value
  | .tmp t => σ t
  | .const v => v
  | .global g => .pointer (some ⟨g, 0, none⟩)
  | .func f => .func (.func f) #[] #[]

structure Rel (N : Nat) (a : Act) (σ : Env) : Prop where
  size : a.tmps.size = N
  defers : a.defers = []
  val : ∀ i, a.tmps.getD i undef = σ i

theorem Rel.eval {N : Nat} {a : Act} {σ : Env} (R : Rel N a σ) : a.eval = ev σ := by
  funext x; cases x <;> simp [Act.eval, ev, R.val]
theorem Rel.put {N : Nat} {a : Act} {σ : Env} (R : Rel N a σ) (d : Nat) (v : Value) (hd : d < N) : Rel N (a.put (some d) v) (upd σ d v) := by
  refine ⟨by simp [Act.put, R.size], R.defers, fun i => ?_⟩
  simp only [Act.put, upd]
  have hv := R.val i
  rw [Array.getD_eq_getD_getElem?] at hv ⊢
  rw [Array.getElem?_setIfInBounds]
  by_cases h : i = d
  · subst h
    have : Nat.beq i i = true := by simp
    rw [if_pos rfl, if_pos (by rw [R.size]; exact hd), this]; rfl
  · have : Nat.beq i d = false := by
      cases hb : Nat.beq i d
      · rfl
      · exact absurd (Nat.eq_of_beq_eq_true hb) h
    rw [if_neg (fun e => h e.symm), this]; exact hv
theorem Rel.refl {N : Nat} {a : Act} {σ : Env} (R : Rel N a σ) {d : Nat} {v : Value} (h : σ d = v) : Rel N a (upd σ d v) := by
  refine ⟨R.size, R.defers, fun i => ?_⟩
  rw [R.val]; unfold upd
  cases hb : Nat.beq i d
  · rfl
  · rw [Nat.eq_of_beq_eq_true hb]; exact h

def putE (N : Nat) (σ : Env) (dst : Option Nat) (v : Value) : Option Env :=
  match dst with
  | none => some σ
  | some d => match Nat.blt d N with | true => some (upd σ d v) | false => none
theorem Rel.putE {N : Nat} {a : Act} {σ σ' : Env} {dst : Option Nat} {v : Value} (R : Rel N a σ) (h : putE N σ dst v = some σ') : Rel N (a.put dst v) σ' := by
  cases dst with
  | none => simp only [X.putE, Option.some.injEq] at h; subst h; exact R
  | some d =>
    simp only [X.putE] at h
    split at h
    · rename_i hb
      simp only [Option.some.injEq] at h; subst h
      exact R.put d v (Nat.le_of_ble_eq_true hb)
    · cases h

def force : Value → Option Value
  | .bool b => some (.bool b)
  | .int k n => some (.int k n)
  | .float k n => some (.float k n)
  | .complex k r i => some (.complex k r i)
  | .string s => some (.string s)
  | .pointer a => some (.pointer a)
  | .slice a l c => some (.slice a l c)
  | .map r => some (.map r)
  | .chan r => some (.chan r)
  | .func f a c => some (.func f a c)
  | .nilFunc => some .nilFunc
  | .iface t v => some (.iface t v)
  | .nilIface => some .nilIface
  | .agg c => some (.agg c)
  | .tuple v => some (.tuple v)
theorem force_eq (v : Value) : force v = some v := by cases v <;> rfl
def forceL {β : Type} (l : List Value) (k : List Value → Option β) : Option β :=
  match l with
  | [] => k []
  | a :: r => match force a with
    | some a' => forceL r fun r' => k (a' :: r')
    | none => none
theorem forceL_eq {β : Type} (l : List Value) : ∀ (k : List Value → Option β), forceL l k = k l := by
  induction l with
  | nil => intro k; rfl
  | cons a r ih => intro k; simp only [forceL, force_eq, ih]

structure Tab where
  kind : List Nat       -- 1 bool, 2 whole number, 3 string, 4 slice, 5 array, 6 struct, 7 interface, 8 pointer
  size : List Nat
  ik : List IntKind
  elem : List Nat
  alen : List Nat
  flds : List (List (Nat × Nat × Bool))   -- a struct's fields: where, how many cells, is it a struct or an array
  zero : List (List Value)

def veq : Value → Value → Bool
  | .bool a, .bool b => a == b
  | .int k a, .int k' b => decide (k = k') && a == b
  | .string a, .string b => a.data.isEmpty && b.data.isEmpty
  | .pointer none, .pointer none => true
  | .slice none 0 0, .slice none 0 0 => true
  | .nilIface, .nilIface => true
  | .nilFunc, .nilFunc => true
  | _, _ => false
theorem veq_eq {a b : Value} (h : veq a b = true) : a = b := by
  unfold veq at h
  split at h <;> first | rfl | (cases h; done) | skip
  · simp at h; rw [h]
  · simp at h; rw [h.1, h.2]
  · rename_i a b
    simp at h
    cases a; cases b; simp_all
def veqL : List Value → List Value → Bool
  | [], [] => true
  | a :: l, b :: m => veq a b && veqL l m
  | _, _ => false
theorem veqL_eq : ∀ {l m : List Value}, veqL l m = true → l = m
  | [], [], _ => rfl
  | a :: l, b :: m, h => by
    simp only [veqL, Bool.and_eq_true] at h
    rw [veq_eq h.1, veqL_eq h.2]
  | [], _ :: _, h => by simp [veqL] at h
  | _ :: _, [], h => by simp [veqL] at h

def okZero (isAgg : Bool) (z : Option Value) (l : List Value) : Bool :=
  match z, isAgg with
  | some (.agg c), true => veqL c.toList l
  | some v, false => match l with | [u] => veq v u | _ => false
  | _, _ => false
def aggB (P : Program) (t : TypeId) : Bool := match P.underlying t with | some (.struct _) | some (.array _ _) => true | _ => false
def okDesc (T : Tab) (P : Program) (t k : Nat) (d : TypeDesc) : Bool :=
  match d with
        | .bool => k == 1
        | .int kk => k == 2 && decide (T.ik.getD t .i64 = kk)
        | .string => k == 3
        | .slice e => k == 4 && T.elem.getD t 0 == e
        | .array n e => k == 5 && T.elem.getD t 0 == e && T.alen.getD t 0 == n
        | .struct fs => k == 6 && (T.flds.getD t [] == fs.toList.map fun f => (f.offset, P.cellsOf f.type, aggB P f.type)) && fs.toList.all fun f => (P.info? f.type).isSome && (P.underlying f.type).isSome && P.cellsOf f.type != 0
        | .interface _ => k == 7
        | .pointer e => k == 8 && T.elem.getD t 0 == e
        | _ => false
def Tab.okAt (T : Tab) (P : Program) (t : Nat) : Bool :=
  match T.kind.getD t 0 with
  | 0 => true
  | k => match P.info? t, P.underlying t with
    | some i, some d => i.size == T.size.getD t 0 && okZero (k == 5 || k == 6) i.zero (T.zero.getD t []) &&
      okDesc T P t k d
    | _, _ => false
def Tab.ok (T : Tab) (P : Program) : Bool := (List.range T.kind.length).all (T.okAt P)

theorem Tab.ok_at {T : Tab} {P : Program} (h : T.ok P = true) (t : Nat) : T.okAt P t = true := by
  unfold Tab.ok at h
  by_cases ht : t < T.kind.length
  · exact List.all_eq_true.1 h t (List.mem_range.2 ht)
  · unfold Tab.okAt
    have : T.kind.getD t 0 = 0 := by rw [List.getD_eq_getElem?_getD, List.getElem?_eq_none (by omega)]; rfl
    simp only [this]

def TypeOk (T : Tab) (P : Program) (t : Nat) (k : Nat) : Prop :=
  ∃ (i : TypeInfo) (d : TypeDesc), P.info? t = some i ∧ P.underlying t = some d ∧ i.size = T.size.getD t 0 ∧
    okZero (k == 5 || k == 6) i.zero (T.zero.getD t []) = true ∧ okDesc T P t k d = true
theorem Tab.at_ {T : Tab} {P : Program} (h : T.ok P = true) {t k : Nat} (hk : T.kind.getD t 0 = k) (h0 : k ≠ 0) : TypeOk T P t k := by
  have := T.ok_at h t
  unfold Tab.okAt at this
  rw [hk] at this
  split at this
  · exact absurd rfl h0
  · split at this
    · rename_i i d hi hd
      simp only [Bool.and_eq_true, beq_iff_eq] at this
      exact ⟨i, d, hi, hd, this.1.1, this.1.2, this.2⟩
    · cases this
section
variable {T : Tab} {P : Program} (h : T.ok P = true) {t : Nat}
include h
theorem Tab.slice_ (hk : T.kind.getD t 0 = 4) : P.underlying t = some (.slice (T.elem.getD t 0)) := by
  obtain ⟨i, d, hi, hd, hs, hz, k⟩ := Tab.at_ h hk (by decide)
  cases d <;> simp [okDesc] at k
  simp [hd, k]
theorem Tab.array_ (hk : T.kind.getD t 0 = 5) : P.underlying t = some (.array (T.alen.getD t 0) (T.elem.getD t 0)) := by
  obtain ⟨i, d, hi, hd, hs, hz, k⟩ := Tab.at_ h hk (by decide)
  cases d <;> simp [okDesc] at k
  simp [hd, k.1, k.2]
theorem Tab.int_ (hk : T.kind.getD t 0 = 2) : P.underlying t = some (.int (T.ik.getD t .i64)) := by
  obtain ⟨i, d, hi, hd, hs, hz, k⟩ := Tab.at_ h hk (by decide)
  cases d <;> simp [okDesc] at k
  simp [hd, k]
theorem Tab.bool_ (hk : T.kind.getD t 0 = 1) : P.underlying t = some .bool := by
  obtain ⟨i, d, hi, hd, hs, hz, k⟩ := Tab.at_ h hk (by decide)
  cases d <;> simp [okDesc] at k
  rw [hd]
theorem Tab.string_ (hk : T.kind.getD t 0 = 3) : P.underlying t = some .string := by
  obtain ⟨i, d, hi, hd, hs, hz, k⟩ := Tab.at_ h hk (by decide)
  cases d <;> simp [okDesc] at k
  rw [hd]
theorem Tab.iface_ (hk : T.kind.getD t 0 = 7) : ∃ ms, P.underlying t = some (.interface ms) := by
  obtain ⟨i, d, hi, hd, hs, hz, k⟩ := Tab.at_ h hk (by decide)
  cases d <;> simp [okDesc] at k
  exact ⟨_, hd⟩
theorem Tab.ptr_ (hk : T.kind.getD t 0 = 8) : P.underlying t = some (.pointer (T.elem.getD t 0)) := by
  obtain ⟨i, d, hi, hd, hs, hz, k⟩ := Tab.at_ h hk (by decide)
  cases d <;> simp [okDesc] at k
  simp [hd, k]
theorem Tab.struct_ (hk : T.kind.getD t 0 = 6) : ∃ fs : Array Field, P.underlying t = some (.struct fs) ∧ T.flds.getD t [] = fs.toList.map (fun f => (f.offset, P.cellsOf f.type, aggB P f.type)) ∧ ∀ f ∈ fs.toList, ((P.info? f.type).isSome ∧ (P.underlying f.type).isSome) ∧ P.cellsOf f.type ≠ 0 := by
  obtain ⟨i, d, hi, hd, hs, hz, k⟩ := Tab.at_ h hk (by decide)
  cases d <;> simp [okDesc] at k
  rename_i fs
  refine ⟨fs, hd, by simpa using k.1, ?_⟩
  intro f hf
  obtain ⟨j, hj, e⟩ := Array.getElem_of_mem (Array.mem_toList_iff.1 hf)
  have := k.2 j hj
  rw [e] at this
  exact this
theorem Tab.info_ {k : Nat} (hk : T.kind.getD t 0 = k) (h0 : k ≠ 0) : ∃ i, P.info? t = some i ∧ i.size = T.size.getD t 0 := by
  obtain ⟨i, d, hi, hd, hs, hz, k⟩ := Tab.at_ h hk h0
  exact ⟨i, hi, hs⟩
end
def Tab.isAgg (T : Tab) (t : Nat) : Bool := match T.kind.getD t 0 with | 5 => true | 6 => true | _ => false
def Tab.zeroV (T : Tab) (t : Nat) : Value :=
  match T.isAgg t with
  | true => .agg (T.zero.getD t []).toArray
  | false => match T.zero.getD t [] with | [v] => v | _ => undef
theorem Tab.zero_ {T : Tab} {P : Program} (h : T.ok P = true) {t k : Nat} (hk : T.kind.getD t 0 = k) (h0 : k ≠ 0) : ∃ i, P.info? t = some i ∧ i.size = T.size.getD t 0 ∧ i.zero = some (T.zeroV t) := by
  obtain ⟨i, d, hi, hd, hs, hz, k2⟩ := Tab.at_ h hk h0
  refine ⟨i, hi, hs, ?_⟩
  have ha : T.isAgg t = (k == 5 || k == 6) := by
    unfold Tab.isAgg; rw [hk]
    split
    · simp
    · simp
    · rename_i n5 n6
      have a5 : (k == 5) = false := by simpa using n5
      have a6 : (k == 6) = false := by simpa using n6
      rw [a5, a6]; rfl
  unfold okZero at hz
  unfold Tab.zeroV
  rw [ha]
  split at hz
  · rename_i c e1 e2
    rw [e2, e1]
    have := veqL_eq hz
    show some (Value.agg c) = some (.agg (T.zero.getD t []).toArray)
    rw [← this]
  · split at hz
    · rename_i v e1 e2 e3 u e4
      have := veq_eq hz
      rw [e2, e1]
      show some v = some u
      rw [this]
    · cases hz
  · cases hz
theorem Tab.run_isAgg {T : Tab} {P : Program} (h : T.ok P = true) {t k : Nat} (hk : T.kind.getD t 0 = k) (h0 : k ≠ 0) (w : World) : (Go.isAgg t).run P w = .ok (T.isAgg t) w := by
  obtain ⟨i, d, hi, hd, hs, hz, k2⟩ := Tab.at_ h hk h0
  unfold Tab.isAgg; rw [hk]
  cases d <;> simp [okDesc] at k2 <;> simp [Go.isAgg, underlying, program, Sem.run, hd, bind, Sem.bind, pure, k2]

def intV (op : BinOp) (k k' : IntKind) (a b : Int) : Option Value :=
  match decide (k = k') with
  | false => none
  | true => match op with
    | .add => some (.int k (k.wrap (a + b)))
    | .sub => some (.int k (k.wrap (a - b)))
    | .mul => some (.int k (k.wrap (a * b)))
    | .quo => match b == 0 with | false => some (.int k (k.wrap (a.tdiv b))) | true => none
    | .rem => match b == 0 with | false => some (.int k (a.tmod b)) | true => none
    | .and => some (.int k (bits .and k a b))
    | .or => some (.int k (bits .or k a b))
    | .xor => some (.int k (bits .xor k a b))
    | .andNot => some (.int k (bits .andNot k a b))
    | .eql => some (.bool (a == b))
    | .neq => some (.bool (a != b))
    | .lss => some (.bool (decide (a < b)))
    | .leq => some (.bool (decide (a ≤ b)))
    | .gtr => some (.bool (decide (a > b)))
    | .geq => some (.bool (decide (a ≥ b)))
    | _ => none
def isC : Operand → Bool
  | .const _ => true
  | _ => false
def binV (T : Tab) (op : BinOp) (t : TypeId) (x y : Operand) (vx vy : Value) : Option Value :=
  match vx with
  | .int k a => match vy with
    | .int k' b => match op with
      | .shl => match decide (b < 0) with | false => some (.int k (k.wrap (a * 2 ^ min b.toNat k.bits))) | true => none
      | .shr => match decide (b < 0) with | false => some (.int k (a.fdiv (2 ^ min b.toNat k.bits))) | true => none
      | _ => intV op k k' a b
    | _ => none
  | .bool a => match vy, T.kind.getD t 0, op with
    | .bool b, 1, .eql => some (.bool (a == b))
    | .bool b, 1, .neq => some (.bool (!(a == b)))
    | _, _, _ => none
  | .string a => match vy, op with
    | .string b, .eql => some (.bool (a.toList == b.toList))
    | .string b, .neq => some (.bool (!(a.toList == b.toList)))
    | _, _ => none
  | .pointer none => match vy, T.kind.getD t 0, op with
    | .pointer b, 8, .eql => some (.bool b.isNone)
    | .pointer b, 8, .neq => some (.bool (!b.isNone))
    | _, _, _ => none
  | .pointer (some _) => match vy, T.kind.getD t 0, op with
    | .pointer none, 8, .eql => some (.bool false)
    | .pointer none, 8, .neq => some (.bool true)
    | _, _, _ => none
  | .nilIface => match vy, T.kind.getD t 0, op, (isC x || isC y) with
    | .nilIface, 7, .eql, true => some (.bool true)
    | .nilIface, 7, .neq, true => some (.bool false)
    | .iface _ _, 7, .eql, _ => some (.bool false)
    | .iface _ _, 7, .neq, _ => some (.bool true)
    | _, _, _, _ => none
  | .iface _ _ => match vy, T.kind.getD t 0, op with
    | .nilIface, 7, .eql => some (.bool false)
    | .nilIface, 7, .neq => some (.bool true)
    | _, _, _ => none
  | .slice a _ _ => match vy, T.kind.getD t 0, op with
    | .slice none _ _, 4, .eql => some (.bool a.isNone)
    | .slice none _ _, 4, .neq => some (.bool (!a.isNone))
    | _, _, _ => none
  | _ => none

theorem run_und {P : Program} {t : TypeId} {d : TypeDesc} (h : P.underlying t = some d) (w : World) : (underlying t).run P w = .ok d w := by
  simp [underlying, program, Sem.run, h, bind, Sem.bind, pure]

theorem intV_run {op : BinOp} {k k' : IntKind} {a b : Int} {v : Value} (hop : op ≠ .shl ∧ op ≠ .shr) (h : intV op k k' a b = some v) (P : Program) (t : TypeId) (w : World) :
    (binOp op t (.int k a) (.int k' b)).run P w = .ok v w := by
  unfold intV at h
  split at h
  · cases h
  · rename_i hk
    have hk := of_decide_eq_true hk
    subst hk
    cases op <;> simp at h hop <;> simp [binOp, Op.intArith, Op.intBits, Op.intCmp, Sem.run, pure, bits, ← h]
    · split at h
      · rename_i e
        have e : b ≠ 0 := by simpa using e
        simp at h
        simp [Op.intDiv, Sem.run, pure, e, ← h]
      · cases h
    · split at h
      · rename_i e
        have e : b ≠ 0 := by simpa using e
        simp at h
        simp [Op.intDiv, Sem.run, pure, e, ← h]
      · cases h
theorem run_bind {α β : Type} (s : Sem α) (f : α → Sem β) (P : Program) (w w' : World) (a : α) (h : s.run P w = .ok a w') : (s >>= f).run P w = (f a).run P w' := by
  show (Sem.bind s f).run P w = _
  induction s generalizing w with
  | pure a' => simp [Sem.run] at h; obtain ⟨rfl, rfl⟩ := h; rfl
  | load m ad k ih =>
    simp only [Sem.bind, Sem.run] at h ⊢
    split at h
    · exact ih _ _ h
    · split at h
      · exact ih _ _ h
      · cases h
  | store m ad v k ih =>
    cases v <;> simp only [Sem.bind, Sem.run] at h ⊢ <;> first | (cases h; done) | skip
    all_goals
      split at h
      · split at h
        · cases h
        · rename_i hf; simp only [hf]; exact ih _ h
      · split at h
        · exact ih _ h
        · cases h
  | new o k ih => exact ih _ _ h
  | shape r k ih => exact ih _ _ h
  | freeze ad n k ih => exact ih _ h
  | frozen ad k ih => exact ih _ _ h
  | getObj r k ih =>
    simp only [Sem.bind, Sem.run] at h ⊢
    split at h <;> first | (cases h; done) | exact ih _ _ h
  | setObj r o k ih =>
    simp only [Sem.bind, Sem.run] at h ⊢
    split at h <;> first | (cases h; done) | exact ih _ h
  | choose q k ih =>
    simp only [Sem.bind, Sem.run] at h ⊢
    split at h
    · rename_i hq; simp only [hq]; exact ih _ _ h
    · rename_i hq; simp only [hq]; exact ih _ _ h
  | sys c k ih => exact ih _ _ h
  | program k ih => exact ih _ _ h
  | mark m k ih => exact ih _ h
  | halt hh => simp [Sem.run] at h

theorem eq_bool {P : Program} {t : TypeId} (a b : Bool) (hu : P.underlying t = some .bool) (w : World) : (Op.equal t (.bool a) (.bool b)).run P w = .ok (a == b) w := by
  rw [show Op.equal t (.bool a) (.bool b) = Op.equalIn (9999 + 1) t (.bool a) (.bool b) from rfl, Op.equalIn, run_bind _ _ _ _ _ _ (run_und hu w)]
  rfl
theorem eq_pn {P : Program} {t : TypeId} {e : TypeId} (b : Option Addr) (hu : P.underlying t = some (.pointer e)) (w : World) : (Op.equal t (.pointer none) (.pointer b)).run P w = .ok b.isNone w := by
  rw [show Op.equal t (.pointer none) (.pointer b) = Op.equalIn (9999 + 1) t (.pointer none) (.pointer b) from rfl, Op.equalIn, run_bind _ _ _ _ _ _ (run_und hu w)]
  rfl
theorem eq_ps {P : Program} {t : TypeId} {e : TypeId} (a : Addr) (hu : P.underlying t = some (.pointer e)) (w : World) : (Op.equal t (.pointer (some a)) (.pointer none)).run P w = .ok false w := by
  rw [show Op.equal t (.pointer (some a)) (.pointer none) = Op.equalIn (9999 + 1) t (.pointer (some a)) (.pointer none) from rfl, Op.equalIn, run_bind _ _ _ _ _ _ (run_und hu w)]
  rfl
theorem eq_nn {P : Program} {t : TypeId} {e : Array (String × TypeId)} (hu : P.underlying t = some (.interface e)) (w : World) : (Op.equal t .nilIface .nilIface).run P w = .ok true w := by
  rw [show Op.equal t .nilIface .nilIface = Op.equalIn (9999 + 1) t .nilIface .nilIface from rfl, Op.equalIn, run_bind _ _ _ _ _ _ (run_und hu w)]
  rfl
theorem eq_ni {P : Program} {t : TypeId} {e : Array (String × TypeId)} (u : TypeId) (v : Value) (hu : P.underlying t = some (.interface e)) (w : World) : (Op.equal t .nilIface (.iface u v)).run P w = .ok false w := by
  rw [show Op.equal t .nilIface (.iface u v) = Op.equalIn (9999 + 1) t .nilIface (.iface u v) from rfl, Op.equalIn, run_bind _ _ _ _ _ _ (run_und hu w)]
  rfl
theorem eq_in {P : Program} {t : TypeId} {e : Array (String × TypeId)} (u : TypeId) (v : Value) (hu : P.underlying t = some (.interface e)) (w : World) : (Op.equal t (.iface u v) .nilIface).run P w = .ok false w := by
  rw [show Op.equal t (.iface u v) .nilIface = Op.equalIn (9999 + 1) t (.iface u v) .nilIface from rfl, Op.equalIn, run_bind _ _ _ _ _ _ (run_und hu w)]
  rfl
theorem eq_sn {P : Program} {t : TypeId} {e : TypeId} (l c l' c' : Nat) (hu : P.underlying t = some (.slice e)) (w : World) : (Op.equal t (.slice none l c) (.slice none l' c')).run P w = .ok true w := by
  rw [show Op.equal t (.slice none l c) (.slice none l' c') = Op.equalIn (9999 + 1) t (.slice none l c) (.slice none l' c') from rfl, Op.equalIn, run_bind _ _ _ _ _ _ (run_und hu w)]
  rfl
theorem eq_ss {P : Program} {t : TypeId} {e : TypeId} (a : Addr) (l c l' c' : Nat) (hu : P.underlying t = some (.slice e)) (w : World) : (Op.equal t (.slice (some a) l c) (.slice none l' c')).run P w = .ok false w := by
  rw [show Op.equal t (.slice (some a) l c) (.slice none l' c') = Op.equalIn (9999 + 1) t (.slice (some a) l c) (.slice none l' c') from rfl, Op.equalIn, run_bind _ _ _ _ _ _ (run_und hu w)]
  rfl

theorem guard_noneq {op : BinOp} {t : TypeId} {x y : Operand} {a b : Value} (P : Program) (w : World) (h : a ≠ .nilIface ∨ b ≠ .nilIface ∨ isC x = true ∨ isC y = true)
    (h2 : ∀ c, a ≠ .agg c) : (eqGuard op t x y a b).run P w = .ok () w := by
  unfold eqGuard
  cases op <;> try rfl
  all_goals
    cases a <;> cases b <;> try rfl
    all_goals first
      | exact absurd rfl (h2 _)
      | (cases x <;> cases y <;> simp [isC] at h <;> rfl)
theorem bin_eql {P : Program} {t : TypeId} {a b : Value} {v : Bool} {w : World} (h : (Op.equal t a b).run P w = .ok v w) : (do pure (Value.bool (← Op.equal t a b)) : Sem Value).run P w = .ok (.bool v) w := by
  show (Op.equal t a b >>= fun r => pure (Value.bool r)).run P w = _
  rw [run_bind _ _ _ _ _ _ h]; rfl
theorem bin_neq {P : Program} {t : TypeId} {a b : Value} {v : Bool} {w : World} (h : (Op.equal t a b).run P w = .ok v w) : (do pure (Value.bool (!(← Op.equal t a b))) : Sem Value).run P w = .ok (.bool !v) w := by
  show (Op.equal t a b >>= fun r => pure (Value.bool !r)).run P w = _
  rw [run_bind _ _ _ _ _ _ h]; rfl
theorem binV_run {T : Tab} {P : Program} (hT : T.ok P = true) {op : BinOp} {t : TypeId} {x y : Operand} {vx vy v : Value} (h : binV T op t x y vx vy = some v) (w : World) :
    (do eqGuard op t x y vx vy; binOp op t vx vy).run P w = .ok v w := by
  have hg : (eqGuard op t x y vx vy).run P w = .ok () w := by
    refine guard_noneq P w ?_ ?_
    · by_cases ex : vx = .nilIface
      case neg => exact .inl ex
      by_cases ey : vy = .nilIface
      case neg => exact .inr (.inl ey)
      subst ex; subst ey
      cases hx : isC x
      · cases hy : isC y
        · simp [binV, hx, hy] at h
        · exact .inr (.inr (.inr rfl))
      · exact .inr (.inr (.inl rfl))
    · rintro c rfl; simp [binV] at h
  rw [run_bind _ _ _ _ _ _ hg]
  unfold binV at h
  split at h
  · rename_i k a
    split at h
    · rename_i k' b
      split at h
      · split at h
        · rename_i e
          have e := of_decide_eq_false e
          simp at h
          simp [binOp, Op.shift, if_neg e, Sem.run, pure, ← h]
        · cases h
      · split at h
        · rename_i e
          have e := of_decide_eq_false e
          simp at h
          simp [binOp, Op.shift, if_neg e, Sem.run, pure, ← h]
        · cases h
      · rename_i h1 h2
        exact intV_run ⟨h1, h2⟩ h P t w
    · cases h
  · rename_i a
    split at h <;> first | (cases h; done) | skip
    · rename_i b hk
      simp only [Option.some.injEq] at h; subst h
      exact bin_eql (eq_bool _ _ (Tab.bool_ hT hk) w)
    · rename_i b hk
      simp only [Option.some.injEq] at h; subst h
      exact bin_neq (eq_bool _ _ (Tab.bool_ hT hk) w)
  · rename_i a
    split at h <;> first | (cases h; done) | (simp only [Option.some.injEq] at h; subst h; simp [binOp, Op.stringOp, Sem.run, pure])
  · split at h <;> first | (cases h; done) | skip
    · rename_i b hk
      simp only [Option.some.injEq] at h; subst h
      exact bin_eql (eq_pn _ (Tab.ptr_ hT hk) w)
    · rename_i b hk
      simp only [Option.some.injEq] at h; subst h
      exact bin_neq (eq_pn _ (Tab.ptr_ hT hk) w)
  · split at h <;> first | (cases h; done) | skip
    · rename_i hk
      simp only [Option.some.injEq] at h; subst h
      exact bin_eql (eq_ps _ (Tab.ptr_ hT hk) w)
    · rename_i hk
      simp only [Option.some.injEq] at h; subst h
      exact bin_neq (eq_ps _ (Tab.ptr_ hT hk) w)
  · split at h <;> first | (cases h; done) | skip
    · rename_i hk hc
      simp only [Option.some.injEq] at h; subst h
      obtain ⟨ms, hu⟩ := Tab.iface_ hT hk
      exact bin_eql (eq_nn hu w)
    · rename_i hk hc
      simp only [Option.some.injEq] at h; subst h
      obtain ⟨ms, hu⟩ := Tab.iface_ hT hk
      exact bin_neq (eq_nn hu w)
    · rename_i hk
      simp only [Option.some.injEq] at h; subst h
      obtain ⟨ms, hu⟩ := Tab.iface_ hT hk
      exact bin_eql (eq_ni _ _ hu w)
    · rename_i hk
      simp only [Option.some.injEq] at h; subst h
      obtain ⟨ms, hu⟩ := Tab.iface_ hT hk
      exact bin_neq (eq_ni _ _ hu w)
  · split at h <;> first | (cases h; done) | skip
    · rename_i hk
      simp only [Option.some.injEq] at h; subst h
      obtain ⟨ms, hu⟩ := Tab.iface_ hT hk
      exact bin_eql (eq_in _ _ hu w)
    · rename_i hk
      simp only [Option.some.injEq] at h; subst h
      obtain ⟨ms, hu⟩ := Tab.iface_ hT hk
      exact bin_neq (eq_in _ _ hu w)
  · rename_i a _ _
    split at h <;> first | (cases h; done) | skip
    · rename_i hk
      simp only [Option.some.injEq] at h; subst h
      cases a
      · exact bin_eql (eq_sn _ _ _ _ (Tab.slice_ hT hk) w)
      · exact bin_eql (eq_ss _ _ _ _ _ (Tab.slice_ hT hk) w)
    · rename_i hk
      simp only [Option.some.injEq] at h; subst h
      cases a
      · exact bin_neq (eq_sn _ _ _ _ (Tab.slice_ hT hk) w)
      · exact bin_neq (eq_ss _ _ _ _ _ (Tab.slice_ hT hk) w)
  · cases h
end Go.Proofs.YtbmfpkpcljihgaaDoor.X
namespace Go.Proofs.YtbmfpkpcljihgaaDoor.X
open Go
set_option linter.unusedSimpArgs false
set_option linter.unusedVariables false
def splice (l : List Value) (off : Nat) : List Value → List Value
  | [] => l
  | v :: r => splice (l.set off v) (off + 1) r
def fillK (place : Nat → Option (Nat × Nat)) (cells : List Value) : List (Nat × Value) → Option Value
  | [] => forceL cells fun l => some (.agg l.toArray)
  | (i, v) :: r => match place i with
    | none => none
    | some (off, size) => match v.cells.toList.length == size && Nat.ble (off + size) cells.length with
      | true => fillK place (splice cells off v.cells.toList) r
      | false => none
def fk (k : IntKind) : Option IntKind :=
  match k with
  | .i8 => some .i8 | .i16 => some .i16 | .i32 => some .i32 | .i64 => some .i64 | .u8 => some .u8 | .u16 => some .u16 | .u32 => some .u32 | .u64 => some .u64
theorem fk_eq (k : IntKind) : fk k = some k := by cases k <;> rfl
def mapE (σ : Env) : List Operand → List Value
  | [] => []
  | x :: l => ev σ x :: mapE σ l
def mapP (σ : Env) : List (Nat × Operand) → List (Nat × Value)
  | [] => []
  | (i, x) :: l => (i, ev σ x) :: mapP σ l
theorem mapE_eq (σ : Env) (l : List Operand) : mapE σ l = l.map (ev σ) := by induction l <;> simp_all [mapE]
theorem mapP_eq (σ : Env) (l : List (Nat × Operand)) : mapP σ l = l.map (fun (i, x) => (i, ev σ x)) := by induction l <;> simp_all [mapP]

def plc (l : List (Nat × Nat × Bool)) (i : Nat) : Option (Nat × Nat) := match l[i]? with | some (o, n, _) => some (o, n) | none => none
def pureV (T : Tab) (σ : Env) : Op → Option Value
  | .move x => force (ev σ x)
  | .assign x => force (ev σ x)
  | .pick c a b => match ev σ c with
    | .bool true => force (ev σ a)
    | .bool false => force (ev σ b)
    | _ => none
  | .nilCheck x => match ev σ x with
    | .pointer (some a) => some (.pointer (some a))
    | .iface t v => some (.iface t v)
    | .func (.func f) a b => some (.func (.func f) a b)
    | _ => none
  | .binOp op t x y _ => binV T op t x y (ev σ x) (ev σ y)
  | .unOp op _ x => match op, ev σ x with
    | .not, .bool b => some (.bool (!b))
    | .neg, .int k n => some (.int k (k.wrap (0 - n)))
    | .xor, .int k n => some (.int k (bits .xor k (if k.signed then -1 else k.max) n))
    | _, _ => none
  | .convert src dst x => match ev σ x with
    | .int _ n => match T.kind.getD src 0, T.kind.getD dst 0, fk (T.ik.getD dst .i64) with
      | 2, 2, some k => some (.int k (k.wrap n))
      | _, _, _ => none
    | _ => none
  | .makeInterface t x => match T.kind.getD t 0 with
    | 7 => none
    | 0 => none
    | _ => match force (ev σ x) with
      | some v => some (.iface t v)
      | none => none
  | .makeFunc fn first cap => forceL (mapE σ first.toList) fun a => forceL (mapE σ cap.toList) fun c => some (.func fn a.toArray c.toArray)
  | .fieldAddr s x f => match ev σ x with
    | .pointer (some ⟨b, off, none⟩) => match T.kind.getD s 0 with
      | 6 => match (T.flds.getD s [])[f]? with
        | some (o, _, _) => some (.pointer (some ⟨b, off + o, none⟩))
        | none => none
      | _ => none
    | _ => none
  | .field s x f => match ev σ x with
    | .agg cs => match T.kind.getD s 0 with
      | 6 => match (T.flds.getD s [])[f]? with
        | some (o, n, true) => forceL ((cs.toList.drop o).take n) fun l => some (.agg l.toArray)
        | some (o, _, false) => match cs.toList[o]? with
          | some v => force v
          | none => none
        | none => none
      | _ => none
    | _ => none
  | .extract x i => match ev σ x with
    | .tuple vs => match vs.toList[i]? with
      | some v => force v
      | none => none
    | _ => none
  | .build t parts => match T.kind.getD t 0 with
    | 6 => fillK (plc (T.flds.getD t [])) (T.zero.getD t []) (mapP σ parts.toList)
    | 5 => match T.kind.getD (T.elem.getD t 0) 0 with
      | 0 => none
      | _ => fillK (fun i => some (i * T.size.getD (T.elem.getD t 0) 0, T.size.getD (T.elem.getD t 0) 0)) (T.zero.getD t []) (mapP σ parts.toList)
    | _ => none
  | .call ⟨.builtin .len, args, ts⟩ => match args.toList, ts.toList with
    | [x], [t] => match ev σ x with
      | .slice _ n _ => match T.kind.getD t 0 with
        | 4 => some (.int .i64 n)
        | _ => none
      | .string s => match T.kind.getD t 0 with
        | 3 => some (.int .i64 s.size)
        | _ => none
      | _ => none
    | _, _ => none
  | _ => none

theorem splice_length (vs : List Value) : ∀ (l : List Value) (off : Nat), (splice l off vs).length = l.length := by
  induction vs with
  | nil => intro l off; rfl
  | cons v r ih => intro l off; rw [splice, ih, List.length_set]
theorem foldl_splice (vs : List Value) : ∀ (cs : Array Value) (off k : Nat),
    (vs.zipIdx k).foldl (fun cs (p : Value × Nat) => cs.setIfInBounds (off + p.2) p.1) cs = (splice cs.toList (off + k) vs).toArray := by
  induction vs with
  | nil => intro cs off k; rfl
  | cons v r ih =>
    intro cs off k
    rw [List.zipIdx_cons, List.foldl_cons, ih]
    simp only [splice, Array.toList_setIfInBounds]
    rfl
theorem fill_run (place : Nat → Option (Nat × Nat)) : ∀ (parts : List (Nat × Value)) (cells : List Value) (v : Value), fillK place cells parts = some v →
    ∃ c, Instr.fill place cells.toArray parts = some c ∧ v = .agg c := by
  intro parts
  induction parts with
  | nil => intro cells v h; simp only [fillK, forceL_eq, Option.some.injEq] at h; exact ⟨_, rfl, h.symm⟩
  | cons p r ih =>
    obtain ⟨i, u⟩ := p
    intro cells v h
    simp only [fillK] at h
    split at h
    · cases h
    · rename_i off size hp
      split at h
      · rename_i hb
        simp only [Bool.and_eq_true, beq_iff_eq] at hb
        have h2 := Nat.le_of_ble_eq_true hb.2
        have h1 : u.cells.size = size := by simpa using hb.1
        obtain ⟨c, hc, e⟩ := ih _ _ h
        refine ⟨c, ?_, e⟩
        simp only [Instr.fill, hp]
        rw [if_neg (by simp [h1]; exact h2)]
        rw [← hc]
        congr 1
        have := foldl_splice u.cells.toList cells.toArray off 0
        simp only [Nat.add_zero] at this
        rw [← this, ← Array.foldl_toList, Array.toList_zipIdx]
      · cases h
theorem run_typeInfo {P : Program} {t : TypeId} {i : TypeInfo} (h : P.info? t = some i) (w : World) : (typeInfo t).run P w = .ok i w := by
  simp [typeInfo, program, Sem.run, h, bind, Sem.bind, pure]
theorem run_sizeOf {P : Program} {t : TypeId} {i : TypeInfo} (h : P.info? t = some i) (w : World) : (sizeOf t).run P w = .ok i.size w := by
  rw [sizeOf, X.run_bind _ _ _ _ _ _ (run_typeInfo h w)]; rfl
theorem run_zeroValue {P : Program} {t : TypeId} {i : TypeInfo} {z : Value} (h : P.info? t = some i) (hz : i.zero = some z) (w : World) : (zeroValue t).run P w = .ok z w := by
  rw [zeroValue, X.run_bind _ _ _ _ _ _ (run_typeInfo h w), hz]; rfl
theorem run_places {P : Program} (w : World) (l : List Field) (h : ∀ f ∈ l, (P.info? f.type).isSome) :
    (l.mapM (m := Sem) fun f => do pure (f.offset, ← sizeOf f.type)).run P w = .ok (l.map fun f => (f.offset, P.cellsOf f.type)) w := by
  induction l with
  | nil => rfl
  | cons f l ih =>
    obtain ⟨i, hi⟩ := Option.isSome_iff_exists.1 (h f (List.mem_cons_self ..))
    rw [List.mapM_cons]
    have e1 : (do pure (f.offset, ← sizeOf f.type) : Sem (Nat × Nat)).run P w = .ok (f.offset, P.cellsOf f.type) w := by
      show (sizeOf f.type >>= fun r => pure (f.offset, r)).run P w = _
      rw [X.run_bind _ _ _ _ _ _ (run_sizeOf hi w)]; simp [Program.cellsOf, hi]
    rw [X.run_bind _ _ _ _ _ _ e1, X.run_bind _ _ _ _ _ _ (ih fun g hg => h g (List.mem_cons_of_mem _ hg))]
    rfl
theorem isAggOf {P : Program} {t : TypeId} {d : TypeDesc} (h : P.underlying t = some d) (w : World) : (Go.isAgg t).run P w = .ok (aggB P t) w := by
  rw [Go.isAgg, X.run_bind _ _ _ _ _ _ (run_und h w)]; unfold aggB; rw [h]; cases d <;> rfl
theorem run_part {P : Program} {t : TypeId} (h : (P.info? t).isSome ∧ (P.underlying t).isSome) (cs : Array Value) (off : Nat) (w : World) {v : Value}
    (hv : (if aggB P t then some (Value.agg (cs.extract off (off + P.cellsOf t))) else cs[off]?) = some v) : (part t cs off).run P w = .ok v w := by
  obtain ⟨d, hd⟩ := Option.isSome_iff_exists.1 h.2
  obtain ⟨i, hi⟩ := Option.isSome_iff_exists.1 h.1
  rw [part, X.run_bind _ _ _ _ _ _ (isAggOf hd w)]
  by_cases hb : aggB P t = true
  · rw [if_pos hb] at hv ⊢
    rw [X.run_bind _ _ _ _ _ _ (run_sizeOf hi w)]
    simp [Program.cellsOf, hi] at hv
    rw [← hv]; rfl
  · rw [if_neg hb] at hv ⊢
    rw [hv]; rfl
end Go.Proofs.YtbmfpkpcljihgaaDoor.X
namespace Go.Proofs.YtbmfpkpcljihgaaDoor.X
open Go
set_option linter.unusedSimpArgs false
set_option linter.unusedVariables false
theorem run_v {P : Program} {s : Sem Value} {v : Value} {w w' : World} (h : s.run P w = .ok v w') : ((do pure (.value (← s)) : Sem Next)).run P w = .ok (.value v) w' := by
  show (s >>= fun r => pure (Next.value r)).run P w = _
  rw [X.run_bind _ _ _ _ _ _ h]; rfl
theorem und_of {T : Tab} {P : Program} (h : T.ok P = true) {t k : Nat} (hk : T.kind.getD t 0 = k) (h0 : k ≠ 0) : ∃ d, P.underlying t = some d := by
  obtain ⟨i, d, hi, hd, _, _, _⟩ := Tab.at_ h hk h0; exact ⟨d, hd⟩
theorem conc_of {T : Tab} {P : Program} (h : T.ok P = true) {t k : Nat} (hk : T.kind.getD t 0 = k) (h0 : k ≠ 0) (h7 : k ≠ 7) : ∃ d, P.underlying t = some d ∧ ∀ ms, d ≠ .interface ms := by
  obtain ⟨i, d, hi, hd, _, _, hk2⟩ := Tab.at_ h hk h0
  refine ⟨d, hd, ?_⟩
  rintro ms rfl
  simp [okDesc] at hk2
  exact h7 hk2
theorem run_mkIface {P : Program} {t : TypeId} {d : TypeDesc} (hd : P.underlying t = some d) (hn : ∀ ms, d ≠ .interface ms) (x : Value) (w : World) : (Instr.makeInterface t x).run P w = .ok (.iface t x) w := by
  rw [Instr.makeInterface, X.run_bind _ _ _ _ _ _ (run_und hd w)]
  cases d <;> first | rfl | exact absurd rfl (hn _)

section
variable {T : Tab} {P : Program} (hT : T.ok P = true)
include hT
theorem fieldAddr_run {s : TypeId} {f b off o n : Nat} {g : Bool} (hk : T.kind.getD s 0 = 6) (hf : (T.flds.getD s [])[f]? = some (o, n, g)) (w : World) :
    (Instr.fieldAt s (.pointer (some ⟨b, off, none⟩)) f).run P w = .ok (.pointer (some ⟨b, off + o, none⟩)) w := by
  obtain ⟨fs, hu, hfl, hs⟩ := Tab.struct_ hT hk
  rw [Instr.fieldAt, X.run_bind _ _ _ _ _ _ (run_und hu w)]
  rw [hfl, List.getElem?_map] at hf
  obtain ⟨fd, hfd, e⟩ := Option.map_eq_some_iff.1 hf
  have hfd' : fs[f]? = some fd := by rw [← Array.getElem?_toList]; exact hfd
  obtain ⟨⟨h1, _⟩, h2⟩ := hs fd (List.mem_of_getElem? hfd)
  obtain ⟨i, hi⟩ := Option.isSome_iff_exists.1 h1
  have hsz : i.size ≠ 0 := by simpa [Program.cellsOf, hi] using h2
  simp only [Prod.mk.injEq] at e
  simp only [hfd']
  have e1 : (fieldPlace ⟨b, off, none⟩ fd).run P w = .ok ⟨b, off + o, none⟩ w := by
    rw [fieldPlace, X.run_bind _ _ _ _ _ _ (run_sizeOf hi w), if_neg hsz, e.1]
    simp only [Addr.add]
    split
    · rename_i h0; subst h0; rfl
    · rfl
  show (Instr.sureAddr _ >>= fun a => (fieldPlace a fd) >>= fun r => pure (Value.pointer (some r))).run P w = _
  rw [X.run_bind _ _ _ _ _ _ (show (Instr.sureAddr (.pointer (some ⟨b, off, none⟩))).run P w = .ok ⟨b, off, none⟩ w from rfl), X.run_bind _ _ _ _ _ _ e1]
  rfl
theorem field_run {s : TypeId} {f o n : Nat} {g : Bool} {cs : Array Value} {v : Value} (hk : T.kind.getD s 0 = 6) (hf : (T.flds.getD s [])[f]? = some (o, n, g))
    (hv : (if g then some (Value.agg ((cs.toList.drop o).take n).toArray) else cs.toList[o]?) = some v) (w : World) : (Instr.field s (.agg cs) f).run P w = .ok v w := by
  obtain ⟨fs, hu, hfl, hs⟩ := Tab.struct_ hT hk
  rw [Instr.field, X.run_bind _ _ _ _ _ _ (run_und hu w)]
  rw [hfl, List.getElem?_map] at hf
  obtain ⟨fd, hfd, e⟩ := Option.map_eq_some_iff.1 hf
  have hfd' : fs[f]? = some fd := by rw [← Array.getElem?_toList]; exact hfd
  obtain ⟨h1, h2⟩ := hs fd (List.mem_of_getElem? hfd)
  simp only [Prod.mk.injEq] at e
  obtain ⟨e1, e2, e3⟩ := e
  simp only [hfd']
  show (asAgg (.agg cs) >>= fun a => part fd.type a fd.offset).run P w = _
  rw [X.run_bind _ _ _ _ _ _ (show (asAgg (.agg cs)).run P w = .ok cs w from rfl)]
  refine run_part h1 _ _ _ ?_
  rw [← hv, e3, e1, e2]
  split
  · congr 2
    apply Array.ext'
    simp only [Array.toList_extract, List.extract_eq_take_drop, Nat.add_sub_cancel_left]
  · rw [← Array.getElem?_toList]
theorem build_run {t : TypeId} {σ : Env} {parts : Array (Nat × Operand)} {v : Value} (h : pureV T σ (.build t parts) = some v) (w : World) :
    (Instr.build t (parts.map fun (i, x) => (i, ev σ x))).run P w = .ok v w := by
  have hp : (parts.map fun (i, x) => (i, ev σ x)).toList = mapP σ parts.toList := by rw [mapP_eq, Array.toList_map]
  simp only [pureV] at h
  split at h
  · rename_i hk
    obtain ⟨fs, hu, hfl, hs⟩ := Tab.struct_ hT hk
    obtain ⟨i, hi, hsz, hz⟩ := Tab.zero_ hT hk (by decide)
    have hzv : T.zeroV t = .agg (T.zero.getD t []).toArray := by
      unfold Tab.zeroV Tab.isAgg; rw [hk]; rfl
    rw [hzv] at hz
    obtain ⟨c, hc, e⟩ := fill_run _ _ _ _ h
    have hm : (fs.mapM (m := Sem) fun f => do pure (f.offset, ← sizeOf f.type)).run P w = .ok ((fs.toList.map fun f => (f.offset, P.cellsOf f.type)).toArray) w := by
      rw [Array.mapM_eq_mapM_toList, Sem.run_map, run_places w fs.toList (fun f hf => (hs f hf).1.1)]
      rfl
    rw [Instr.build, X.run_bind _ _ _ _ _ _ (run_zeroValue hi hz w), X.run_bind _ _ _ _ _ _ (run_und hu w)]
    dsimp only
    rw [X.run_bind _ _ _ _ _ _ hm, hp]
    have hpl : (fun (i : Nat) => (fs.toList.map fun f => (f.offset, P.cellsOf f.type)).toArray[i]?) = plc (T.flds.getD t []) := by
      funext i
      unfold plc
      rw [hfl, List.getElem?_toArray, List.getElem?_map, List.getElem?_map]
      cases fs.toList[i]? <;> rfl
    simp only [hpl]
    simp only [Value.cells, hc, e]
    rfl
  · rename_i hk
    split at h
    · cases h
    · rename_i k hk0 hk1
      have hu := Tab.array_ hT hk
      obtain ⟨i, hi, hsz, hz⟩ := Tab.zero_ hT hk (by decide)
      have hzv : T.zeroV t = .agg (T.zero.getD t []).toArray := by
        unfold Tab.zeroV Tab.isAgg; rw [hk]; rfl
      rw [hzv] at hz
      obtain ⟨ie, hie, hse⟩ := Tab.info_ hT (rfl : T.kind.getD (T.elem.getD t 0) 0 = _) (by assumption)
      rw [← hse] at h
      obtain ⟨c, hc, e⟩ := fill_run _ _ _ _ h
      rw [Instr.build, X.run_bind _ _ _ _ _ _ (run_zeroValue hi hz w), X.run_bind _ _ _ _ _ _ (run_und hu w)]
      dsimp only
      rw [X.run_bind _ _ _ _ _ _ (run_sizeOf hie w), hp]
      simp only [Value.cells, hc, e]
      rfl
  · cases h
theorem pureV_run {σ : Env} {op : Op} {v : Value} (h : pureV T σ op = some v) (dst : Option Tmp) (ty : TypeId) (pos : String) (af : Array Edge) (g : Option (Nat × Bool)) (w : World) :
    (execOp (ev σ) ⟨dst, op, ty, pos, af, g⟩).run P w = .ok (.value v) w := by
  cases op with
  | move x => simp only [pureV, force_eq, Option.some.injEq] at h; rw [← h]; rfl
  | assign x => simp only [pureV, force_eq, Option.some.injEq] at h; rw [← h]; rfl
  | pick c a b =>
    simp only [pureV, force_eq] at h
    split at h
    · rename_i e; simp only [Option.some.injEq] at h; simp [execOp, e, asBool, h]
    · rename_i e; simp only [Option.some.injEq] at h; simp [execOp, e, asBool, h]
    · cases h
  | nilCheck x =>
    simp only [pureV] at h
    split at h
    all_goals first | (cases h; done) | skip
    all_goals
      rename_i e
      simp only [Option.some.injEq] at h
      simp only [execOp, e]
      rw [← h]
      rfl
  | binOp o t x y yt => exact run_v (binV_run hT h w)
  | unOp o t x =>
    simp only [pureV] at h
    split at h
    all_goals first | (cases h; done) | skip
    all_goals
      rename_i e
      simp only [Option.some.injEq] at h
      refine run_v (w' := w) ?_
      rw [e, ← h]
      rfl
  | convert src dst x =>
    simp only [pureV, fk_eq] at h
    split at h
    · rename_i kk n e
      split at h
      · rename_i k h1 h2 h3
        simp only [Option.some.injEq] at h h3
        refine run_v (w' := w) ?_
        obtain ⟨d1, hd1⟩ := und_of hT h1 (by decide)
        rw [e, Go.convert, X.run_bind _ _ _ _ _ _ (run_und hd1 w), X.run_bind _ _ _ _ _ _ (run_und (Tab.int_ hT h2) w), h3, ← h]
        rfl
      · cases h
    · cases h
  | makeInterface t x =>
    simp only [pureV, force_eq] at h
    split at h
    · cases h
    · cases h
    · rename_i k h7 h0
      simp only [Option.some.injEq] at h
      obtain ⟨d, hd, hn⟩ := conc_of hT (rfl : T.kind.getD t 0 = _) (by assumption) (by assumption)
      rw [← h]
      exact run_v (run_mkIface hd hn _ w)
  | makeFunc fn first cap =>
    simp only [pureV, forceL_eq, Option.some.injEq] at h
    rw [← h]
    refine run_v (w' := w) ?_
    simp only [Instr.makeFunc, mapE_eq]
    have e1 : (first.toList.map (ev σ)).toArray = first.map (ev σ) := by rw [← Array.toList_map]
    have e2 : (cap.toList.map (ev σ)).toArray = cap.map (ev σ) := by rw [← Array.toList_map]
    rw [e1, e2]
    rfl
  | fieldAddr s x f =>
    simp only [pureV] at h
    split at h
    · rename_i b off e
      split at h
      · rename_i hk
        split at h
        · rename_i o n g' hf
          simp only [Option.some.injEq] at h
          rw [← h]
          refine run_v (w' := w) ?_
          rw [e]
          exact fieldAddr_run hT hk hf w
        · cases h
      · cases h
    · cases h
  | field s x f =>
    simp only [pureV, forceL_eq, force_eq] at h
    split at h
    · rename_i cs e
      split at h
      · rename_i hk
        split at h
        · rename_i o n hf
          refine run_v (w' := w) ?_
          rw [e]
          exact field_run hT hk hf (by simpa using h) w
        · rename_i o n hf
          refine run_v (w' := w) ?_
          rw [e]
          refine field_run hT hk hf ?_ w
          split at h
          · rename_i u hu
            simp only [Option.some.injEq] at h
            simp [hu, h]
          · cases h
        · cases h
      · cases h
    · cases h
  | extract x i =>
    simp only [pureV, force_eq] at h
    split at h
    · rename_i vs e
      split at h
      · rename_i u hu
        simp only [Option.some.injEq] at h
        refine run_v (w' := w) ?_
        rw [e]
        have : vs[i]? = some u := by rw [← Array.getElem?_toList]; exact hu
        simp [Instr.extract, this, h]
      · cases h
    · cases h
  | build t parts => exact run_v (build_run hT h w)
  | call c =>
    obtain ⟨cl, args, ts⟩ := c
    cases cl with
    | builtin bi =>
      cases bi <;> first | (simp [pureV] at h; done) | skip
      simp only [pureV] at h
      split at h
      · rename_i x t ha ht
        obtain rfl : args = #[x] := by cases args; simp_all
        obtain rfl : ts = #[t] := by cases ts; simp_all
        split at h
        · rename_i a n cp e
          split at h
          · rename_i hk
            simp only [Option.some.injEq] at h
            have hu := Tab.slice_ hT hk
            simp [execOp, resolve, invoke, builtin, Builtin.len_, e, underlying, program, Sem.run, hu, goInt, bind, Sem.bind, pure, ← h]
          · cases h
        · rename_i s e
          split at h
          · rename_i hk
            simp only [Option.some.injEq] at h
            have hu := Tab.string_ hT hk
            simp [execOp, resolve, invoke, builtin, Builtin.len_, e, underlying, program, Sem.run, hu, goInt, bind, Sem.bind, pure, ← h]
          · cases h
        · cases h
      · cases h
    | value f => simp [pureV] at h
    | invoke r m => simp [pureV] at h
  | _ => simp [pureV] at h
end
end Go.Proofs.YtbmfpkpcljihgaaDoor.X
namespace Go.Proofs.YtbmfpkpcljihgaaDoor.X
open Go
set_option linter.unusedSimpArgs false
set_option linter.unusedVariables false
structure Cfg where
  P : Program
  T : Tab
  ok : T.ok P = true

def OpsW (C : Cfg) (N : Nat) (gd : List (Option Nat)) (l : List Oper) (σ : Env) (w : World) (Q : Env → World → Prop) : Prop :=
  ∀ (ops : Array Oper) (is : List Nat) (a : Act) (Q' : Exit → Act → World → Prop), is.map (fun i => ops[i]?) = l.map some → ops.toList.map (·.dst) = gd → Rel N a σ →
    (∀ a' σ' w', Rel N a' σ' → Q σ' w' → Q' .normal a' w') → wpOps C.P ops Q' is a w

def wan (gd : List (Option Nat)) (σ : Env) : Option (Nat × Bool) → Option Bool
  | none => some true
  | some (j, want) => match gd.getD j none with
    | none => none
    | some d => match σ d with
      | .bool b => match b, want with
        | true, true => some true
        | false, false => some true
        | true, false => some false
        | false, true => some false
      | _ => some false
def stepE (T : Tab) (N : Nat) (gd : List (Option Nat)) (σ : Env) : Oper → Option Env
  | ⟨dst, op, _, _, _, g⟩ => match wan gd σ g with
    | some true => match pureV T σ op with
      | some v => putE N σ dst v
      | none => none
    | some false => putE N σ dst undef
    | none => none

section
variable {C : Cfg} {N : Nat} {gd : List (Option Nat)} {r : List Oper} {σ σ' : Env} {w : World} {Q : Env → World → Prop}
theorem wan_eq {o : Oper} {ops : Array Oper} {a : Act} {b : Bool} (h : wan gd σ o.guard = some b) (hm : ops.toList.map (·.dst) = gd) (R : Rel N a σ) :
    Region.wanted o (yielded ops a.tmps) = b := by
  unfold Region.wanted
  unfold wan at h
  split at h
  · rename_i e; rw [e]; simpa using h
  · rename_i j want e
    rw [e]
    split at h
    · cases h
    · rename_i d hd
      split at h
      · rename_i b' hb
        have hy : yielded ops a.tmps j = some b' := by
          have h1 : (ops[j]?).bind (·.dst) = some d := by
            rw [← hm, List.getD_eq_getElem?_getD, List.getElem?_map, Array.getElem?_toList] at hd
            cases hj : ops[j]? with
            | none => rw [hj] at hd; simp at hd
            | some o' => rw [hj] at hd; simpa using hd
          have h2 : a.tmps[d]? = some (.bool b') := by
            have := R.val d
            rw [hb, Array.getD_eq_getD_getElem?] at this
            cases hd2 : a.tmps[d]? with
            | none => rw [hd2] at this; simp [undef] at this
            | some v => rw [hd2] at this; simpa using this
          unfold yielded; rw [h1]; simp [h2]
        simp only [hy]
        cases b' <;> cases want <;> simp at h <;> subst h <;> rfl
      · rename_i hnb
        have hy : yielded ops a.tmps j = none := by
          have h1 : (ops[j]?).bind (·.dst) = some d := by
            rw [← hm, List.getD_eq_getElem?_getD, List.getElem?_map, Array.getElem?_toList] at hd
            cases hj : ops[j]? with
            | none => rw [hj] at hd; simp at hd
            | some o' => rw [hj] at hd; simpa using hd
          have h2 := R.val d
          rw [Array.getD_eq_getD_getElem?] at h2
          unfold yielded; rw [h1]; simp only [Option.bind_some]
          split
          · rename_i b' hb'
            rw [hb'] at h2
            exact absurd h2.symm (hnb b')
          · rfl
        simp only [hy]
        simp at h; subst h; rfl

theorem OpsW.go {o : Oper} {r : List Oper} (h : OpsW C N gd (o :: r) σ w Q) : OpsW C N gd (o :: r) σ w Q := h
theorem OpsW.goCall {dst : Option Nat} {c : Call} {ty : TypeId} {pos : String} {af : Array Edge} {g : Option (Nat × Bool)} {r : List Oper} (h : OpsW C N gd (⟨dst, .call c, ty, pos, af, g⟩ :: r) σ w Q) : OpsW C N gd (⟨dst, .call c, ty, pos, af, g⟩ :: r) σ w Q := h
theorem OpsW.nil (h : Q σ w) : OpsW C N gd [] σ w Q := by
  intro ops is a Q' hi _ R hq
  cases is with
  | nil => exact hq _ _ _ R h
  | cons i is => simp at hi
theorem is_cons {ops : Array Oper} {is : List Nat} {o : Oper} (h : is.map (fun i => ops[i]?) = (o :: r).map some) : ∃ i is', is = i :: is' ∧ ops[i]? = some o ∧ is'.map (fun i => ops[i]?) = r.map some := by
  cases is with
  | nil => simp at h
  | cons i is =>
    simp only [List.map_cons, List.cons.injEq] at h
    exact ⟨i, is, rfl, h.1, h.2⟩
theorem OpsW.val {o : Oper} {v : Value} {w' : World} (hg : wan gd σ o.guard = some true) (hr : (execOp (ev σ) o).run C.P w = .ok (.value v) w')
    (hp : putE N σ o.dst v = some σ') (k : OpsW C N gd r σ' w' Q) : OpsW C N gd (o :: r) σ w Q := by
  intro ops is a Q' hd hm R hq
  obtain ⟨i, is, rfl, h1, h2⟩ := is_cons hd
  simp only [wpOps, h1, wan_eq hg hm R, if_true]
  refine .inl ?_
  simp only [Oper.wp, R.eval, hr, Oper.upon]
  exact k ops is _ Q' h2 hm (R.putE hp) hq
theorem OpsW.unit {o : Oper} {w' : World} (hg : wan gd σ o.guard = some true) (hr : (execOp (ev σ) o).run C.P w = .ok .skip w')
    (hp : o.dst = none) (k : OpsW C N gd r σ w' Q) : OpsW C N gd (o :: r) σ w Q := by
  intro ops is a Q' hd hm R hq
  obtain ⟨i, is, rfl, h1, h2⟩ := is_cons hd
  simp only [wpOps, h1, wan_eq hg hm R, if_true]
  refine .inl ?_
  simp only [Oper.wp, R.eval, hr, Oper.upon]
  refine k ops is _ Q' h2 hm ?_ hq
  rw [hp]; exact R
theorem OpsW.skp {o : Oper} (hg : wan gd σ o.guard = some false) (hp : putE N σ o.dst undef = some σ') (k : OpsW C N gd r σ' w Q) : OpsW C N gd (o :: r) σ w Q := by
  intro ops is a Q' hd hm R hq
  obtain ⟨i, is, rfl, h1, h2⟩ := is_cons hd
  simp only [wpOps, h1, wan_eq hg hm R, if_false, Bool.false_eq_true]
  exact k ops is _ Q' h2 hm (R.putE hp) hq
theorem OpsW.st {o : Oper} (h : stepE C.T N gd σ o = some σ') (k : OpsW C N gd r σ' w Q) : OpsW C N gd (o :: r) σ w Q := by
  obtain ⟨dst, op, ty, pos, af, g⟩ := o
  simp only [stepE] at h
  split at h
  · rename_i hg
    split at h
    · rename_i v hv
      exact .val hg (pureV_run C.ok hv dst ty pos af g w) h k
    · cases h
  · rename_i hg
    exact .skp hg h k
  · cases h
theorem OpsW.gs {o : Oper} {j d : Nat} {want b : Bool} (hj : o.guard = some (j, want)) (hd : gd.getD j none = some d) (hb : σ d = .bool b)
    (ht : b = true → OpsW C N gd (o :: r) (upd σ d (.bool true)) w Q) (hf : b = false → OpsW C N gd (o :: r) (upd σ d (.bool false)) w Q) : OpsW C N gd (o :: r) σ w Q := by
  intro ops i a Q' h1 h2 R hq
  cases b
  · exact hf rfl ops i a Q' h1 h2 (R.refl hb) hq
  · exact ht rfl ops i a Q' h1 h2 (R.refl hb) hq
theorem OpsW.mono {Q₂ : Env → World → Prop} {l : List Oper} (h : OpsW C N gd l σ w Q) (k : ∀ σ w, Q σ w → Q₂ σ w) : OpsW C N gd l σ w Q₂ :=
  fun ops i a Q' h1 h2 R hq => h ops i a Q' h1 h2 R fun a' σ' w' R' q => hq a' σ' w' R' (k _ _ q)

def Spec (C : Cfg) (f : FuncId) (args : Array Value) (w : World) (R : Value → World → Prop) : Prop :=
  (∃ fn, C.P.funcs[f]? = some fn ∧ fn.body.isSome = true ∧ (fn.name == "runtime.NumGoroutine") = false) ∧ Calls C.P f args w fun e w' => ∃ v, e = .returned v ∧ R v w'
theorem Spec.mono {f : FuncId} {args : Array Value} {R R' : Value → World → Prop} (h : Spec C f args w R) (k : ∀ v w', R v w' → R' v w') : Spec C f args w R' :=
  ⟨h.1, h.2.mono fun _ _ ⟨v, e, r⟩ => ⟨v, e, k _ _ r⟩⟩
theorem callFunc_run {f : FuncId} {fn : Func} (P : Program) (hf : P.funcs[f]? = some fn) (hb : fn.body.isSome = true) (hn : (fn.name == "runtime.NumGoroutine") = false) (args : Array Value) (w : World) :
    (callFunc f args).run P w = .ok (.enter f args) w := by
  have hn' : fn.name ≠ "runtime.NumGoroutine" := by simpa using hn
  cases hc : fn.body with
  | none => rw [hc] at hb; cases hb
  | some c => simp [callFunc, program, Sem.run, hf, hn', hc, bind, Sem.bind, pure]
theorem OpsW.enter {o : Oper} {f : FuncId} {args : Array Value} {R : Value → World → Prop} (hg : wan gd σ o.guard = some true)
    (hr : (execOp (ev σ) o).run C.P w = .ok (.enter f args) w) (hs : Calls C.P f args w fun e w' => ∃ v, e = .returned v ∧ R v w')
    (k : ∀ v w', R v w' → ∃ σ', putE N σ o.dst v = some σ' ∧ OpsW C N gd r σ' w' Q) : OpsW C N gd (o :: r) σ w Q := by
  intro ops is a Q' hd hm R' hq
  obtain ⟨i, is, rfl, h1, h2⟩ := is_cons hd
  simp only [wpOps, h1, wan_eq hg hm R', if_true]
  refine .inl ?_
  simp only [Oper.wp, R'.eval, hr, Oper.upon]
  refine hs.mono ?_
  rintro e w' ⟨v, rfl, hv⟩
  obtain ⟨σ', hp, hk⟩ := k v w' hv
  exact hk ops is _ Q' h2 hm (R'.putE hp) hq
theorem map_toArray_eq {α β : Type} (f : α → β) (a : Array α) : a.map f = (a.toList.map f).toArray := by rw [← Array.toList_map]
theorem OpsW.call {f : FuncId} {args : Array Operand} {vs : List Value} {ts : Array TypeId} {d : Nat} {ty : TypeId} {pos : String} {af : Array Edge} {g : Option (Nat × Bool)} {R : Value → World → Prop}
    (hg : wan gd σ g = some true) (ha : forceL (mapE σ args.toList) some = some vs) (hd : Nat.blt d N = true) (hs : Spec C f vs.toArray w R)
    (k : ∀ v w', R v w' → OpsW C N gd r (upd σ d v) w' Q) : OpsW C N gd (⟨some d, .call ⟨.value (.func f), args, ts⟩, ty, pos, af, g⟩ :: r) σ w Q := by
  obtain ⟨⟨fn, hf, hb, hn⟩, hs⟩ := hs
  rw [forceL_eq, Option.some.injEq] at ha
  refine .enter (f := f) (args := vs.toArray) hg ?_ hs fun v w' hv => ⟨_, ?_, k v w' hv⟩
  · rw [← ha, mapE_eq, ← map_toArray_eq]
    show (resolve (ev σ) _ ty >>= fun d => invoke d.target d.args).run C.P w = _
    simp [resolve, Deferred.ofValue, ev, invoke, callFunc_run C.P hf hb hn]
  · simp [putE, hd]
theorem cell_blk {b off : Nat} {c : Array Value} {T : TypeId} {fr : Nat × Nat} (h : w.heap[b]? = some (.cells c T fr)) : w.cell? ⟨b, off, none⟩ = c[off]? := by
  simp [World.cell?, h]
theorem add_off (b off n : Nat) : (⟨b, off, none⟩ : Addr).add n = ⟨b, off + n, none⟩ := by
  simp only [Addr.add]; split
  · rename_i h; subst h; rfl
  · rfl
theorem loadVar1 {T : Tab} {P : Program} (hT : T.ok P = true) {t b off : Nat} {c : Array Value} {E : TypeId} {fr : Nat × Nat} {v : Value} (hk : T.isAgg t = false) (h0 : Nat.blt 0 (T.kind.getD t 0) = true)
    (h : w.heap[b]? = some (.cells c E fr)) (hv : c[off]? = some v) : (loadVar t ⟨b, off, none⟩).run P w = .ok v w := by
  have := Tab.run_isAgg hT (rfl : T.kind.getD t 0 = _) (by have := Nat.le_of_ble_eq_true h0; omega) w
  rw [loadVar, X.run_bind _ _ _ _ _ _ this, hk]
  have hc := cell_blk (off := off) h
  simp [load, Sem.run, hc, hv]
theorem loadVarA {T : Tab} {P : Program} (hT : T.ok P = true) {t b off : Nat} {c : Array Value} {E : TypeId} {fr : Nat × Nat} {vs : List Value} (hk : T.isAgg t = true)
    (h : w.heap[b]? = some (.cells c E fr)) (hl : vs.length = T.size.getD t 0) (hv : ∀ j v, vs[j]? = some v → c[off + j]? = some v) : (loadVar t ⟨b, off, none⟩).run P w = .ok (.agg vs.toArray) w := by
  have h0 : T.kind.getD t 0 ≠ 0 := by intro e; unfold Tab.isAgg at hk; rw [e] at hk; simp at hk
  have := Tab.run_isAgg hT (rfl : T.kind.getD t 0 = _) h0 w
  obtain ⟨i, hi, hs⟩ := Tab.info_ hT (rfl : T.kind.getD t 0 = _) h0
  rw [loadVar, X.run_bind _ _ _ _ _ _ this, hk]
  have e : (loadCells ⟨b, off, none⟩ vs.length).run P w = .ok vs.toArray w := by
    refine run_loadCells_list (cs := vs) (a := ⟨b, off, none⟩) (h := fun j v hj => ?_)
    rw [add_off, cell_blk h]; exact hv j v hj
  simp only [if_true]
  rw [X.run_bind _ _ _ _ _ _ (run_sizeOf hi w), hs, ← hl, X.run_bind _ _ _ _ _ _ e]
  rfl
def scal : Value → Bool
  | .agg _ => false
  | .tuple _ => false
  | _ => true
theorem storeCells_run {P : Program} {z : World} {l : List HP} {b : Nat} {T : TypeId} (vs : List Value) : ∀ {w : World} {c : List Value} {off : Nat} (i : Nat), Sat z w (blk b T c :: l) → off + i + vs.length ≤ c.length → vs.all scal = true →
    ∃ w', (storeCells ⟨b, off, none⟩ vs i).run P w = .ok () w' ∧ Sat z w' (blk b T (splice c (off + i) vs) :: l) := by
  induction vs with
  | nil => intro w c off i H _ _; exact ⟨w, rfl, H⟩
  | cons v r ih =>
    intro w c off i H hl hs
    simp only [List.all_cons, Bool.and_eq_true] at hs
    have hb := H.has Has.head
    have hc : w.cell? ⟨b, off + i, none⟩ = some (c[off + i]'(by simp at hl; omega)) := by
      rw [cell_blk hb, List.getElem?_toArray, List.getElem?_eq_getElem]
    have hf : w.frozen? ⟨b, off + i, none⟩ = false := by simp [World.frozen?, hb]
    have e1 : (store (⟨b, off, none⟩ : Addr) v .plain).run P w = .ok () (w.setCell ⟨b, off, none⟩ v) ∨ True := .inr trivial
    have e2 : (store ((⟨b, off, none⟩ : Addr).add i) v).run P w = .ok () (w.setCell ⟨b, off + i, none⟩ v) := by
      rw [add_off]
      cases v <;> simp [scal] at hs <;> simp [store, Sem.run, hc, hf]
    obtain ⟨w', hw, H'⟩ := ih (off := off) (i + 1) (H.set (off + i) v) (by simp at hl ⊢; omega) hs.2
    refine ⟨w', ?_, ?_⟩
    · rw [storeCells, X.run_bind _ _ _ _ _ _ e2]; exact hw
    · simpa [splice, Nat.add_assoc] using H'

variable {z : World} {As Rs : List HP} {b off d : Nat} {l : List Value} {E t : TypeId} {x y : Operand} {ty : TypeId} {pos : String} {af : Array Edge} {g : Option (Nat × Bool)} {v : Value}
theorem OpsW.box (H : Sat z w As) (hg : wan gd σ g = some true) (hc : forceL (ev σ x).cells.toList some = some l) (hd : Nat.blt d N = true)
    (k : ∀ b w', Sat z w' (blk b E l :: As) → OpsW C N gd r (upd σ d (.pointer (some ⟨b, 0, none⟩))) w' Q) : OpsW C N gd (⟨some d, .box E x, ty, pos, af, g⟩ :: r) σ w Q := by
  rw [forceL_eq, Option.some.injEq] at hc
  refine .val (v := .pointer (some ⟨w.heap.size, 0, none⟩)) (w' := { w with heap := w.heap.push (.cells (ev σ x).cells E) }) hg ?_ (by simp only [putE, hd]) (k w.heap.size _ ?_)
  · exact run_v rfl
  · have e : l.toArray = (ev σ x).cells := by rw [← hc]
    rw [← e]; exact H.new E l
theorem OpsW.alloc (H : Sat z w As) (hg : wan gd σ g = some true) (hk : Nat.blt 0 (C.T.kind.getD E 0) = true) (hc : forceL (C.T.zeroV E).cells.toList some = some l) (hd : Nat.blt d N = true)
    (k : ∀ b w', Sat z w' (blk b E l :: As) → OpsW C N gd r (upd σ d (.pointer (some ⟨b, 0, none⟩))) w' Q) : OpsW C N gd (⟨some d, .alloc E, ty, pos, af, g⟩ :: r) σ w Q := by
  rw [forceL_eq, Option.some.injEq] at hc
  obtain ⟨i, hi, hs, hz⟩ := Tab.zero_ C.ok (rfl : C.T.kind.getD E 0 = _) (by have := Nat.le_of_ble_eq_true hk; omega)
  refine .val (v := .pointer (some ⟨w.heap.size, 0, none⟩)) (w' := { w with heap := w.heap.push (.cells (C.T.zeroV E).cells E) }) hg ?_ (by simp only [putE, hd]) (k w.heap.size _ ?_)
  · refine run_v ?_
    rw [Instr.alloc, X.run_bind _ _ _ _ _ _ (run_zeroValue hi hz w)]
    rfl
  · have e : l.toArray = (C.T.zeroV E).cells := by rw [← hc]
    rw [← e]; exact H.new E l
theorem OpsW.ldh {c : Array Value} {fr : Nat × Nat} (h : w.heap[b]? = some (.cells c E fr)) (hg : wan gd σ g = some true) (ha : ev σ x = .pointer (some ⟨b, off, none⟩)) (hk : C.T.isAgg t = false) (h0 : Nat.blt 0 (C.T.kind.getD t 0) = true)
    (hv : c[off]? = some v) (hd : Nat.blt d N = true) (k : OpsW C N gd r (upd σ d v) w Q) : OpsW C N gd (⟨some d, .load t x, ty, pos, af, g⟩ :: r) σ w Q := by
  refine .val (v := v) (w' := w) hg (run_v ?_) (by simp [putE, hd]) k
  rw [ha]
  show (Instr.sureAddr _ >>= fun a => loadVar t a).run C.P w = _
  rw [X.run_bind _ _ _ _ _ _ (show (Instr.sureAddr (.pointer (some ⟨b, off, none⟩))).run C.P w = .ok ⟨b, off, none⟩ w from rfl)]
  exact loadVar1 C.ok hk h0 h hv
theorem OpsW.ld (H : Sat z w As) (hp : As.Perm (blk b E l :: Rs)) (hg : wan gd σ g = some true) (ha : ev σ x = .pointer (some ⟨b, off, none⟩)) (hk : C.T.isAgg t = false) (h0 : Nat.blt 0 (C.T.kind.getD t 0) = true)
    (hv : l[off]? = some v) (hd : Nat.blt d N = true) (k : OpsW C N gd r (upd σ d v) w Q) : OpsW C N gd (⟨some d, .load t x, ty, pos, af, g⟩ :: r) σ w Q :=
  .ldh (c := l.toArray) (fr := (0, 0)) ((H.perm hp).has Has.head) hg ha hk h0 (by simpa using hv) hd k
def takeK {β : Type} : Nat → List Value → (List Value → Option β) → Option β
  | 0, _, k => k []
  | n + 1, a :: r, k => match force a with
    | some a' => takeK n r fun l => k (a' :: l)
    | none => none
  | _ + 1, [], _ => none
theorem takeK_eq {β : Type} : ∀ (n : Nat) (l : List Value) (k : List Value → Option β) (v : β), takeK n l k = some v → n ≤ l.length ∧ k (l.take n) = some v
  | 0, _, k, v, h => ⟨Nat.zero_le _, by simpa [takeK] using h⟩
  | n + 1, a :: r, k, v, h => by
    simp only [takeK, force_eq] at h
    obtain ⟨h1, h2⟩ := takeK_eq n r _ v h
    exact ⟨by simp; omega, by simpa using h2⟩
  | _ + 1, [], _, _, h => by simp [takeK] at h
theorem OpsW.ldAh {c : Array Value} {fr : Nat × Nat} {vs : List Value} (h : w.heap[b]? = some (.cells c E fr)) (hg : wan gd σ g = some true) (ha : ev σ x = .pointer (some ⟨b, off, none⟩)) (hk : C.T.isAgg t = true)
    (hl : vs.length = C.T.size.getD t 0) (hv : ∀ j v, vs[j]? = some v → c[off + j]? = some v) (hd : Nat.blt d N = true) (k : OpsW C N gd r (upd σ d (.agg vs.toArray)) w Q) : OpsW C N gd (⟨some d, .load t x, ty, pos, af, g⟩ :: r) σ w Q := by
  refine .val (v := .agg vs.toArray) (w' := w) hg (run_v ?_) (by simp [putE, hd]) k
  rw [ha]
  show (Instr.sureAddr _ >>= fun a => loadVar t a).run C.P w = _
  rw [X.run_bind _ _ _ _ _ _ (show (Instr.sureAddr (.pointer (some ⟨b, off, none⟩))).run C.P w = .ok ⟨b, off, none⟩ w from rfl)]
  exact loadVarA C.ok hk h hl hv
theorem take_get {l vs : List Value} {n off : Nat} (h : takeK n (l.drop off) some = some vs) : vs.length = n ∧ ∀ j v, vs[j]? = some v → l[off + j]? = some v := by
  obtain ⟨h1, h2⟩ := takeK_eq _ _ _ _ h
  simp only [Option.some.injEq] at h2
  subst h2
  refine ⟨by simp at h1 ⊢; omega, fun j v hj => ?_⟩
  rw [List.getElem?_take] at hj
  split at hj
  · simpa using hj
  · cases hj
theorem OpsW.ldA {vs : List Value} (H : Sat z w As) (hp : As.Perm (blk b E l :: Rs)) (hg : wan gd σ g = some true) (ha : ev σ x = .pointer (some ⟨b, off, none⟩)) (hk : C.T.isAgg t = true)
    (hv : takeK (C.T.size.getD t 0) (l.drop off) some = some vs) (hd : Nat.blt d N = true) (k : OpsW C N gd r (upd σ d (.agg vs.toArray)) w Q) : OpsW C N gd (⟨some d, .load t x, ty, pos, af, g⟩ :: r) σ w Q :=
  .ldAh (c := l.toArray) (fr := (0, 0)) ((H.perm hp).has Has.head) hg ha hk (take_get hv).1 (by simpa using (take_get hv).2) hd k
theorem storeVar_run {T : Tab} {P : Program} (hT : T.ok P = true) {c : List Value} (H : Sat z w (blk b E c :: Rs)) (h0 : Nat.blt 0 (T.kind.getD t 0) = true) {v : Value} (hs : v.cells.toList.all scal = true) (hl : v.cells.toList.length = T.size.getD t 0)
    (ho : off + v.cells.toList.length ≤ c.length) : ∃ w', (storeVar t ⟨b, off, none⟩ v).run P w = .ok () w' ∧ Sat z w' (blk b E (splice c off v.cells.toList) :: Rs) := by
  obtain ⟨i, hi, hs'⟩ := Tab.info_ hT (rfl : T.kind.getD t 0 = _) (by have := Nat.le_of_ble_eq_true h0; omega)
  obtain ⟨w', h1, h2⟩ := storeCells_run (P := P) v.cells.toList (off := off) 0 H (by simpa using ho) hs
  refine ⟨w', ?_, by simpa using h2⟩
  rw [storeVar, X.run_bind _ _ _ _ _ _ (run_sizeOf hi w), hs', ← hl]
  simpa using h1
theorem OpsW.str (H : Sat z w As) (hp : As.Perm (blk b E l :: Rs)) (hg : wan gd σ g = some true) (ha : ev σ x = .pointer (some ⟨b, off, none⟩)) (hx : force (ev σ y) = some v) (hs : scal v = true) (h0 : Nat.blt 0 (C.T.kind.getD t 0) = true) (hz : Nat.beq (C.T.size.getD t 0) 1 = true)
    (ho : off < l.length) (k : ∀ w', Sat z w' (blk b E (l.set off v) :: Rs) → OpsW C N gd r σ w' Q) : OpsW C N gd (⟨none, .store t x y, ty, pos, af, g⟩ :: r) σ w Q := by
  rw [force_eq, Option.some.injEq] at hx
  have hc : v.cells.toList = [v] := by cases v <;> first | rfl | (simp [scal] at hs)
  obtain ⟨w', h1, h2⟩ := storeVar_run C.ok (t := t) (off := off) (v := v) (H.perm hp) h0 (by rw [hc]; simp [hs]) (by rw [hc, Nat.eq_of_beq_eq_true hz]; rfl) (by rw [hc]; exact ho)
  rw [hc] at h2
  refine .unit (w' := w') hg ?_ rfl (k w' h2)
  simp only [execOp, ha, hx]
  show (Instr.storeAt t _ v >>= fun _ => pure Next.skip).run C.P w = _
  rw [X.run_bind _ _ _ _ _ _ (show (Instr.storeAt t (.pointer (some ⟨b, off, none⟩)) v).run C.P w = .ok () w' from h1)]
  rfl
theorem OpsW.strA {vs : List Value} (H : Sat z w As) (hp : As.Perm (blk b E l :: Rs)) (hg : wan gd σ g = some true) (ha : ev σ x = .pointer (some ⟨b, off, none⟩)) (hx : forceL (ev σ y).cells.toList some = some vs) (hs : vs.all scal = true) (h0 : Nat.blt 0 (C.T.kind.getD t 0) = true)
    (hz : vs.length = C.T.size.getD t 0) (ho : off + vs.length ≤ l.length) (k : ∀ w', Sat z w' (blk b E (splice l off vs) :: Rs) → OpsW C N gd r σ w' Q) : OpsW C N gd (⟨none, .store t x y, ty, pos, af, g⟩ :: r) σ w Q := by
  rw [forceL_eq, Option.some.injEq] at hx
  obtain ⟨w', h1, h2⟩ := storeVar_run C.ok (t := t) (off := off) (v := ev σ y) (H.perm hp) h0 (by rw [hx]; exact hs) (by rw [hx]; exact hz) (by rw [hx]; exact ho)
  rw [hx] at h2
  refine .unit (w' := w') hg ?_ rfl (k w' h2)
  simp only [execOp, ha]
  show (Instr.storeAt t _ _ >>= fun _ => pure Next.skip).run C.P w = _
  rw [X.run_bind _ _ _ _ _ _ (show (Instr.storeAt t (.pointer (some ⟨b, off, none⟩)) (ev σ y)).run C.P w = .ok () w' from h1)]
  rfl
theorem OpsW.ix {kd : IntKind} {i : Int} {len cap n sz : Nat} (hg : wan gd σ g = some true) (hx : ev σ x = .slice (some ⟨b, off, none⟩) len cap) (hy : ev σ y = .int kd i) (hk : Nat.beq (C.T.kind.getD t 0) 4 = true) (he : Nat.blt 0 (C.T.kind.getD (C.T.elem.getD t 0) 0) = true)
    (hsz : C.T.size[C.T.elem.getD t 0]? = some sz) (hn : i = n) (hl : n < len) (hd : Nat.blt d N = true) (k : OpsW C N gd r (upd σ d (.pointer (some ⟨b, off + n * sz, none⟩))) w Q) : OpsW C N gd (⟨some d, .indexAddr t x y, ty, pos, af, g⟩ :: r) σ w Q := by
  have hsz' : C.T.size.getD (C.T.elem.getD t 0) 0 = sz := by rw [List.getD_eq_getElem?_getD, hsz]; rfl
  refine .val (v := .pointer (some ⟨b, off + n * sz, none⟩)) (w' := w) hg (run_v ?_) (by simp only [putE, hd]) k
  have hu := Tab.slice_ C.ok (Nat.eq_of_beq_eq_true hk)
  obtain ⟨ie, hie, hse⟩ := Tab.info_ C.ok (rfl : C.T.kind.getD (C.T.elem.getD t 0) 0 = _) (by have := Nat.le_of_ble_eq_true he; omega)
  subst hn
  simp only [Instr.indexAt, hx, hy, asIntOf, Sem.run_bind, Sem.run_pure, Result.andThen_ok, run_und hu]
  rw [if_pos ⟨by omega, by omega⟩]
  simp only [Sem.run_bind, run_sizeOf hie, Result.andThen_ok, Sem.run_pure, add_off, hse, hsz']
  simp
end
end Go.Proofs.YtbmfpkpcljihgaaDoor.X
namespace Go.Proofs.YtbmfpkpcljihgaaDoor.X
open Go
set_option linter.unusedSimpArgs false
set_option linter.unusedVariables false
abbrev Post := Exit → Env → World → Prop
def CW (C : Cfg) (N : Nat) (c : Code) (σ : Env) (w : World) (Q : Post) : Prop :=
  ∀ a, Rel N a σ → Code.wp C.P c (fun e a' w' => ∃ σ', Rel N a' σ' ∧ Q e σ' w') a w
def thenQ (K : Env → World → Prop) (Q : Post) : Post := fun e σ w => match e with
  | .normal => K σ w
  | .exit i => Q (.exit i) σ w
  | .goto l => Q (.goto l) σ w
  | .ret => Q .ret σ w
  | .panic c => Q (.panic c) σ w
  | .outgrown => Q .outgrown σ w
def blkQ (id : Nat) (Q : Post) : Post := fun e σ w => match e with
  | .normal => Q .normal σ w
  | .exit i => match Nat.beq i id with | true => Q .normal σ w | false => Q (.exit i) σ w
  | .goto l => Q (.goto l) σ w
  | .ret => Q .ret σ w
  | .panic c => Q (.panic c) σ w
  | .outgrown => Q .outgrown σ w

section
variable {C : Cfg} {N : Nat} {σ : Env} {w : World} {Q : Post} {x y : Code}
theorem CW.mono {Q' : Post} (h : CW C N x σ w Q) (k : ∀ e σ w, Q e σ w → Q' e σ w) : CW C N x σ w Q' :=
  fun a R => wp_mono (h a R) fun e a w ⟨σ', R', q⟩ => ⟨σ', R', k _ _ _ q⟩
theorem CW.seq (h : ∀ K : Env → World → Prop, (∀ σ w, CW C N y σ w Q → K σ w) → CW C N x σ w (thenQ K Q)) : CW C N (.seq x y) σ w Q := by
  intro a R
  refine wp_seq (wp_mono (h _ (fun _ _ h => h) a R) ?_)
  rintro e a w ⟨σ', R', q⟩
  cases e <;> first | exact q a R' | exact ⟨σ', R', q⟩
theorem CW.seqD (h : CW C N x σ w (thenQ (fun σ w => CW C N y σ w Q) Q)) : CW C N (.seq x y) σ w Q := by
  intro a R
  refine wp_seq (wp_mono (h a R) ?_)
  rintro e a w ⟨σ', R', q⟩
  cases e <;> first | exact q a R' | exact ⟨σ', R', q⟩
theorem CW.go (h : CW C N x σ w Q) : CW C N x σ w Q := h
theorem CW.skip (h : Q .normal σ w) : CW C N .skip σ w Q := fun a R => wp_skip ⟨σ, R, h⟩
theorem CW.exit {id : Nat} (h : Q (.exit id) σ w) : CW C N (.exit id) σ w Q := fun a R => wp_exit ⟨σ, R, h⟩
theorem CW.ret (h : Q .ret σ w) : CW C N .ret σ w Q := fun a R => wp_ret ⟨σ, R, h⟩
theorem CW.block {id : Nat} (h : CW C N x σ w (blkQ id Q)) : CW C N (.block id x) σ w Q := by
  intro a R
  refine wp_block (wp_mono (h a R) ?_)
  rintro e a w ⟨σ', R', q⟩
  cases e with
  | exit i =>
    simp only [Exit.inBlock]
    simp only [blkQ] at q
    split at q
    · rename_i hb; rw [if_pos (Nat.eq_of_beq_eq_true hb)]; exact ⟨σ', R', q⟩
    · rename_i hb
      have : i ≠ id := by intro e; subst e; simp at hb
      rw [if_neg this]; exact ⟨σ', R', q⟩
  | _ => exact ⟨σ', R', q⟩
theorem CW.region {id : Nat} {l : List Oper} (h : OpsW C N (l.map (·.dst)) l σ w (fun σ w => Q .normal σ w)) : CW C N (.region id l.toArray false) σ w Q := by
  intro a R
  refine wp_region ?_
  refine h l.toArray _ a (fun e a' w' => ∃ σ', Rel N a' σ' ∧ Q e σ' w') ?_ (by simp) R (fun a' σ' w' R' q => ⟨σ', R', q⟩)
  apply List.ext_getElem?
  intro i
  rw [List.getElem?_map, List.getElem?_map]
  by_cases hi : i < l.length
  · rw [List.getElem?_range (by simpa using hi)]; simp [hi]
  · rw [List.getElem?_eq_none (by simpa using hi), List.getElem?_eq_none (by simpa using hi)]; rfl
theorem CW.seqR {id : Nat} {l : List Oper} (h : OpsW C N (l.map (·.dst)) l σ w (fun σ w => CW C N y σ w Q)) : CW C N (.seq (.region id l.toArray false) y) σ w Q :=
  .seqD (.region h)
theorem CW.cond {c : Operand} {t : Bool} (hc : ev σ c = .bool t) (ht : t = true → CW C N x σ w Q) (hf : t = false → CW C N y σ w Q) : CW C N (.cond c x y) σ w Q := by
  intro a R
  refine wp_cond_split (t := t) (by rw [R.eval, hc]) (fun h => ht h a R) (fun h => hf h a R)
theorem CW.condT {c : Operand} (hc : ev σ c = .bool true) (h : CW C N x σ w Q) : CW C N (.cond c x y) σ w Q := .cond hc (fun _ => h) (fun e => by cases e)
theorem CW.condF {c : Operand} (hc : ev σ c = .bool false) (h : CW C N y σ w Q) : CW C N (.cond c x y) σ w Q := .cond hc (fun e => by cases e) (fun _ => h)
theorem CW.loop {X : Type} (I : X → Env → World → Prop) (m : X → Nat) (g : X) (h0 : I g σ w)
    (round : ∀ g σ w, I g σ w → CW C N x σ w (thenQ (fun σ' w' => ∃ g', I g' σ' w' ∧ m g' < m g) Q)) : CW C N (.loop x) σ w Q := by
  intro a R b k cs
  have key : ∀ n g σ w a, m g = n → I g σ w → Rel N a σ →
      ∃ e a' w', (∃ σ', Rel N a' σ' ∧ Q e σ' w') ∧ Arrives C.P (lone (b.at a (.code x :: .inLoop x :: k)) cs w) b k cs e a' w' := by
    intro n
    induction n using Nat.strongRecOn with
    | _ n ih =>
      intro g σ w a hn hI R
      obtain ⟨e, a₁, w₁, ⟨σ₁, R₁, hq⟩, harr⟩ := round g σ w hI a R b (.inLoop x :: k) cs
      cases e with
      | normal =>
        obtain ⟨g', hI', hlt⟩ := hq
        obtain ⟨e₂, a₂, w₂, hq₂, harr₂⟩ := ih (m g') (hn ▸ hlt) g' σ₁ w₁ a₁ rfl hI' R₁
        exact ⟨e₂, a₂, w₂, hq₂, .of_steps (Steps.trans harr (.one step_inLoop)) harr₂⟩
      | exit id => exact ⟨_, a₁, w₁, ⟨σ₁, R₁, hq⟩, .pass (x := .inLoop x) rfl (fun _ _ => .inl (by simp)) harr⟩
      | goto l => exact ⟨_, a₁, w₁, ⟨σ₁, R₁, hq⟩, .pass (x := .inLoop x) rfl (fun _ _ => .inl (by simp)) harr⟩
      | ret => exact ⟨_, a₁, w₁, ⟨σ₁, R₁, hq⟩, .pass (x := .inLoop x) rfl (fun _ _ => .inl (by simp)) harr⟩
      | panic ch => exact ⟨_, a₁, w₁, ⟨σ₁, R₁, hq⟩, .pass (x := .inLoop x) rfl (fun _ _ => .inl (by simp)) harr⟩
      | outgrown => exact ⟨_, a₁, w₁, ⟨σ₁, R₁, hq⟩, .pass (x := .inLoop x) rfl (fun _ _ => .inl (by simp)) harr⟩
  obtain ⟨e, a', w', hq, harr⟩ := key _ g σ w a rfl h0 R
  exact ⟨e, a', w', hq, .of_steps (.one step_loop) harr⟩

def ResV (P : Program) (σ : Env) (w : World) : ResultVar → Value → Prop
  | .tmp t, v => force (σ t) = some v
  | .cell t T, v => ∃ a, σ t = .pointer (some a) ∧ (loadVar T a).run P w = .ok v w
def ResL (P : Program) (σ : Env) (w : World) : List ResultVar → List Value → Prop
  | [], [] => True
  | r :: rs, v :: vs => ResV P σ w r v ∧ ResL P σ w rs vs
  | _, _ => False
def tupV : List Value → Value
  | [v] => v
  | l => .tuple l.toArray
def RetW (C : Cfg) (rs : List ResultVar) (σ : Env) (w : World) (R : Value → World → Prop) : Prop :=
  ∃ vs, ResL C.P σ w rs vs ∧ R (tupV vs) w
theorem results_run {rs : List ResultVar} {vs : List Value} {a : Act} (R : Rel N a σ) (h : ResL C.P σ w rs vs) :
    (rs.mapM (m := Sem) fun | .tmp t => pure (a.tmps.getD t undef) | .cell d t => do loadVar t (← asAddr (a.tmps.getD d undef))).run C.P w = .ok vs w := by
  induction rs generalizing vs with
  | nil => cases vs with
    | nil => rfl
    | cons => exact h.elim
  | cons r rs ih =>
    cases vs with
    | nil => exact h.elim
    | cons v vs =>
    obtain ⟨h1, h2⟩ := h
    rw [List.mapM_cons]
    have e : ((fun | .tmp t => pure (a.tmps.getD t undef) | .cell d t => do loadVar t (← asAddr (a.tmps.getD d undef)) : ResultVar → Sem Value) r).run C.P w = .ok v w := by
      cases r with
      | tmp t =>
        simp only [ResV, force_eq, Option.some.injEq] at h1
        simp only [R.val, h1]; rfl
      | cell d t =>
        obtain ⟨ad, h3, h4⟩ := h1
        simp only [R.val, h3]
        rw [X.run_bind _ _ _ _ _ _ (show (asAddr (.pointer (some ad))).run C.P w = .ok ad w from rfl)]
        exact h4
    rw [X.run_bind _ _ _ _ _ _ e, X.run_bind _ _ _ _ _ _ (ih h2)]
    rfl
def endQ (C : Cfg) (rs : List ResultVar) (R : Value → World → Prop) : Post := fun e σ w => match e with
  | .normal => RetW C rs σ w R
  | .ret => RetW C rs σ w R
  | _ => False
theorem RetW.results {fn : Func} {rs : List ResultVar} {a : Act} {R : Value → World → Prop} (hr : fn.results = rs.toArray) (Ra : Rel N a σ) (h : RetW C rs σ w R) :
    ∃ v, (results fn a.tmps).run C.P w = .ok v w ∧ R v w := by
  obtain ⟨vs, h1, h2⟩ := h
  have hm := results_run Ra h1
  refine ⟨tupV vs, ?_, h2⟩
  have hm' : (fn.results.mapM (m := Sem) fun | .tmp t => pure (a.tmps.getD t undef) | .cell d t => do loadVar t (← asAddr (a.tmps.getD d undef))).run C.P w = .ok vs.toArray w := by
    rw [hr, Array.mapM_eq_mapM_toList, Sem.run_map]
    rw [hm]; rfl
  refine (X.run_bind _ _ _ _ _ _ hm').trans ?_
  match vs with
  | [] => rfl
  | [v] => rfl
  | v :: u :: l => simp [tupV]

def env0 : List Value → Env
  | [], _ => undef
  | a :: _, 0 => a
  | _ :: l, i + 1 => env0 l i
theorem env0_get (l : List Value) : ∀ i, env0 l i = l[i]?.getD undef := by
  induction l with
  | nil => intro i; rfl
  | cons a l ih => intro i; cases i with
    | zero => rfl
    | succ i => simp [env0, ih]
theorem enter {f : FuncId} {fn : Func} {c : Code} {rs : List ResultVar} {l : List Value} {R : Value → World → Prop} (hf : C.P.funcs[f]? = some fn) (hb : fn.body = some c)
    (hn : (fn.name == "runtime.NumGoroutine") = false) (hr : fn.results = rs.toArray) (hN : fn.ntmps = N) (hl : Nat.ble l.length N = true)
    (k : CW C N c (env0 l) w (endQ C rs R)) : Spec C f l.toArray w R := by
  refine ⟨⟨fn, hf, by rw [hb]; rfl, hn⟩, calls_of_wp hf hb ?_⟩
  have hl' := Nat.le_of_ble_eq_true hl
  have R0 : Rel N { tmps := l.toArray ++ Array.replicate (fn.ntmps - l.toArray.size) undef, defers := [] } (env0 l) := by
    refine ⟨by simp; omega, rfl, fun i => ?_⟩
    rw [env0_get, Array.getD_eq_getD_getElem?, Array.getElem?_append]
    split
    · simp
    · rename_i h
      rw [List.getElem?_eq_none (by simpa using h)]
      rw [Array.getElem?_replicate]
      split <;> rfl
  refine wp_mono (k _ R0) ?_
  rintro e a' w' ⟨σ', R', q⟩
  cases e with
  | normal =>
    obtain ⟨v, h1, h2⟩ := RetW.results hr R' q
    exact ⟨R'.defers, v, h1, v, rfl, h2⟩
  | ret =>
    obtain ⟨v, h1, h2⟩ := RetW.results hr R' q
    exact ⟨R'.defers, v, h1, v, rfl, h2⟩
  | exit => exact q.elim
  | goto => exact q.elim
  | panic => exact q.elim
  | outgrown => exact q.elim
theorem ret1 {t : Nat} {v : Value} {R : Value → World → Prop} (h : force (σ t) = some v) (hR : R v w) : RetW C [.tmp t] σ w R := ⟨[v], ⟨h, trivial⟩, hR⟩
theorem ret2 {t u : Nat} {v v' : Value} {R : Value → World → Prop} (h : force (σ t) = some v) (h' : force (σ u) = some v') (hR : R (.tuple #[v, v']) w) : RetW C [.tmp t, .tmp u] σ w R := ⟨[v, v'], ⟨h, h', trivial⟩, hR⟩
theorem ret3 {t u s : Nat} {v v' v'' : Value} {R : Value → World → Prop} (h : force (σ t) = some v) (h' : force (σ u) = some v') (h'' : force (σ s) = some v'') (hR : R (.tuple #[v, v', v'']) w) : RetW C [.tmp t, .tmp u, .tmp s] σ w R :=
  ⟨[v, v', v''], ⟨h, h', h'', trivial⟩, hR⟩
theorem resA {z : World} {As Rs : List HP} {b off t : Nat} {E T : TypeId} {l vs : List Value} (H : Sat z w As) (hp : As.Perm (blk b E l :: Rs)) (ha : σ t = .pointer (some ⟨b, off, none⟩)) (hk : C.T.isAgg T = true)
    (hv : takeK (C.T.size.getD T 0) (l.drop off) some = some vs) : ResV C.P σ w (.cell t T) (.agg vs.toArray) :=
  ⟨_, ha, loadVarA C.ok hk ((H.perm hp).has Has.head) (take_get hv).1 (by simpa using (take_get hv).2)⟩
theorem ret1c {T t : Nat} {v : Value} {R : Value → World → Prop} (h : ResV C.P σ w (.cell t T) v) (hR : R v w) : RetW C [.cell t T] σ w R := ⟨[v], ⟨h, trivial⟩, hR⟩
theorem ret2c {r r' : ResultVar} {v v' : Value} {R : Value → World → Prop} (h : ResV C.P σ w r v) (h' : ResV C.P σ w r' v') (hR : R (.tuple #[v, v']) w) : RetW C [r, r'] σ w R := ⟨[v, v'], ⟨h, h', trivial⟩, hR⟩
end
end Go.Proofs.YtbmfpkpcljihgaaDoor.X
namespace Go.Proofs.YtbmfpkpcljihgaaDoor.X
open Go
set_option linter.unusedSimpArgs false
set_option linter.unusedVariables false
section
variable {C : Cfg} {N : Nat} {gd : List (Option Nat)} {r : List Oper} {σ σ' : Env} {w z : World} {Q : Env → World → Prop} {As Rs : List HP} {b off d : Nat} {l vs : List Value} {E t : TypeId} {x y : Operand} {ty : TypeId} {pos : String} {af : Array Edge} {g : Option (Nat × Bool)} {v : Value}
theorem zA {o : Oper} (h : OpsW C N gd (o :: r) σ w Q) : OpsW C N gd (o :: r) σ w Q := h
theorem zB {o : Oper} (k : OpsW C N gd r σ' w Q) (h : stepE C.T N gd σ o = some σ' := by exact rfl) : OpsW C N gd (o :: r) σ w Q := .st h k
theorem zC (H : Sat z w As) (k : OpsW C N gd r (upd σ d v) w Q) (hg : wan gd σ g = some true := by exact rfl) (ha : ev σ x = .pointer (some ⟨b, off, none⟩) := by exact rfl) (hk : C.T.isAgg t = false := by exact rfl) (h0 : Nat.blt 0 (C.T.kind.getD t 0) = true := by exact rfl)
    (hp : As.Perm (blk b E l :: Rs) := by first | exact p0 | exact p1 | exact p2 | exact p3 | exact p4 | exact p5 | exact p6 | exact p7) (hv : l[off]? = some v := by rfl) (hd : Nat.blt d N = true := by exact rfl) : OpsW C N gd (⟨some d, .load t x, ty, pos, af, g⟩ :: r) σ w Q :=
  .ld H hp hg ha hk h0 hv hd k
theorem zD (H : Sat z w As) (k : OpsW C N gd r (upd σ d (.agg vs.toArray)) w Q) (hg : wan gd σ g = some true := by exact rfl) (ha : ev σ x = .pointer (some ⟨b, off, none⟩) := by exact rfl) (hk : C.T.isAgg t = true := by exact rfl)
    (hp : As.Perm (blk b E l :: Rs) := by first | exact p0 | exact p1 | exact p2 | exact p3 | exact p4 | exact p5 | exact p6 | exact p7) (hv : takeK (C.T.size.getD t 0) (l.drop off) some = some vs := by rfl) (hd : Nat.blt d N = true := by exact rfl) : OpsW C N gd (⟨some d, .load t x, ty, pos, af, g⟩ :: r) σ w Q :=
  .ldA H hp hg ha hk hv hd k
theorem zE (H : Sat z w As) (k : ∀ b w', Sat z w' (blk b E l :: As) → OpsW C N gd r (upd σ d (.pointer (some ⟨b, 0, none⟩))) w' Q) (hg : wan gd σ g = some true := by exact rfl) (hc : forceL (ev σ x).cells.toList some = some l := by exact rfl) (hd : Nat.blt d N = true := by exact rfl) : OpsW C N gd (⟨some d, .box E x, ty, pos, af, g⟩ :: r) σ w Q :=
  .box H hg hc hd k
theorem zF (H : Sat z w As) (k : ∀ b w', Sat z w' (blk b E l :: As) → OpsW C N gd r (upd σ d (.pointer (some ⟨b, 0, none⟩))) w' Q) (hg : wan gd σ g = some true := by exact rfl) (hk : Nat.blt 0 (C.T.kind.getD E 0) = true := by exact rfl) (hc : forceL (C.T.zeroV E).cells.toList some = some l := by exact rfl) (hd : Nat.blt d N = true := by exact rfl) : OpsW C N gd (⟨some d, .alloc E, ty, pos, af, g⟩ :: r) σ w Q :=
  .alloc H hg hk hc hd k
theorem zG (H : Sat z w As) (k : ∀ w', Sat z w' (blk b E (l.set off v) :: Rs) → OpsW C N gd r σ w' Q) (hg : wan gd σ g = some true := by exact rfl) (ha : ev σ x = .pointer (some ⟨b, off, none⟩) := by exact rfl) (hx : force (ev σ y) = some v := by exact rfl) (hs : scal v = true := by exact rfl) (h0 : Nat.blt 0 (C.T.kind.getD t 0) = true := by exact rfl) (hz : Nat.beq (C.T.size.getD t 0) 1 = true := by exact rfl)
    (hp : As.Perm (blk b E l :: Rs) := by first | exact p0 | exact p1 | exact p2 | exact p3 | exact p4 | exact p5 | exact p6 | exact p7) (ho : off < l.length := by first | decide | (simp; done) | (simp; omega)) : OpsW C N gd (⟨none, .store t x y, ty, pos, af, g⟩ :: r) σ w Q :=
  .str H hp hg ha hx hs h0 hz ho k
theorem zH (H : Sat z w As) (k : ∀ w', Sat z w' (blk b E (splice l off vs) :: Rs) → OpsW C N gd r σ w' Q) (hg : wan gd σ g = some true := by exact rfl) (ha : ev σ x = .pointer (some ⟨b, off, none⟩) := by exact rfl) (hx : forceL (ev σ y).cells.toList some = some vs := by exact rfl) (hs : vs.all scal = true := by exact rfl) (h0 : Nat.blt 0 (C.T.kind.getD t 0) = true := by exact rfl) (hz : vs.length = C.T.size.getD t 0 := by exact rfl)
    (hp : As.Perm (blk b E l :: Rs) := by first | exact p0 | exact p1 | exact p2 | exact p3 | exact p4 | exact p5 | exact p6 | exact p7) (ho : off + vs.length ≤ l.length := by first | decide | (simp; done) | (simp; omega)) : OpsW C N gd (⟨none, .store t x y, ty, pos, af, g⟩ :: r) σ w Q :=
  .strA H hp hg ha hx hs h0 hz ho k
end
section
variable {C : Cfg} {N : Nat} {σ : Env} {w : World} {Q : Post} {x y : Code}
theorem zI (h : CW C N x σ w Q) : CW C N x σ w Q := h
theorem zJ {c : Operand} (h : CW C N x σ w Q) (hc : ev σ c = .bool true := by exact rfl) : CW C N (.cond c x y) σ w Q := .condT hc h
theorem zK {c : Operand} (h : CW C N y σ w Q) (hc : ev σ c = .bool false := by exact rfl) : CW C N (.cond c x y) σ w Q := .condF hc h
theorem zL {id : Nat} {l : List Oper} (h : OpsW C N (l.map (·.dst)) l σ w (fun σ w => CW C N y σ w Q)) : CW C N (.seq (.region id l.toArray false) y) σ w Q := .seqR h
theorem zM (h : CW C N x σ w (thenQ (fun σ w => CW C N y σ w Q) Q)) : CW C N (.seq x y) σ w Q := .seqD h
theorem zN {id : Nat} (h : CW C N x σ w (blkQ id Q)) : CW C N (.block id x) σ w Q := .block h
theorem zO {id : Nat} {l : List Oper} (h : OpsW C N (l.map (·.dst)) l σ w (fun σ w => Q .normal σ w)) : CW C N (.region id l.toArray false) σ w Q := .region h
theorem zP (h : Q .ret σ w) : CW C N .ret σ w Q := .ret h
theorem zQ {id : Nat} (h : Q (.exit id) σ w) : CW C N (.exit id) σ w Q := .exit h
theorem zR (h : Q .normal σ w) : CW C N .skip σ w Q := .skip h
end
theorem zS {C : Cfg} {N : Nat} {gd : List (Option Nat)} {σ : Env} {w : World} {Q : Env → World → Prop} (h : Q σ w) : OpsW C N gd [] σ w Q := .nil h
end Go.Proofs.YtbmfpkpcljihgaaDoor.X
