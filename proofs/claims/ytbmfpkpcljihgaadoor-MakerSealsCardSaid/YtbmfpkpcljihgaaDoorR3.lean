/- What an argument of any shape is (numbers, truths, texts, structs of these, rows of these), in the engine's words; conditions: none. -/
import Derived.Test.YtbmfpkpcljihgaaDoorR0
namespace Go.Proofs.YtbmfpkpcljihgaaDoor.X
open Go Go.ChangeShapes Go.WideShapes Go.Deep Go.RowKit
set_option linter.unusedSimpArgs false
set_option linter.unusedVariables false
inductive Sh where
  | int (k : IntKind)
  | bool
  | str
  | nil
  | pair (a b : Sh)
  | sl (s : Sh)
  | arr (n : Nat) (s : Sh)
structure SlT (α : Type) where
  a : Option Addr
  cap : Nat
  l : List α
@[reducible] def Sh.T : Sh → Type
  | .int _ => Int
  | .bool => Bool
  | .str => ByteArray
  | .nil => Unit
  | .pair a b => a.T × b.T
  | .sl s => SlT s.T
  | .arr _ s => List s.T
def Sh.sz : Sh → Nat
  | .int _ => 1
  | .bool => 1
  | .str => 1
  | .nil => 0
  | .pair a b => a.sz + b.sz
  | .sl _ => 1
  | .arr n s => n * s.sz
def Sh.cells : (s : Sh) → s.T → List Value
  | .int k, n => [.int k n]
  | .bool, b => [.bool b]
  | .str, s => [.string s]
  | .nil, _ => []
  | .pair a b, x => a.cells x.1 ++ b.cells x.2
  | .sl _, x => [.slice x.a x.l.length x.cap]
  | .arr _ s, x => List.flatMap s.cells x
def Sh.good (W : World) : (s : Sh) → s.T → Prop
  | .int k, n => (Lit.int k n).wf = true
  | .bool, _ => True
  | .str, s => s.size ≤ maxLen
  | .nil, _ => True
  | .pair a b, x => a.good W x.1 ∧ b.good W x.2
  | .sl s, x => x.l.length ≤ maxLen ∧ (∀ y ∈ x.l, s.good W y) ∧ SlR [snap W] (.slice x.a x.l.length x.cap) s.sz x.l.length (x.l.flatMap s.cells)
  | .arr n s, x => List.length x = n ∧ ∀ y ∈ x, s.good W y
def Sh.ok (P : Program) : Sh → (TypeId → Bool) × (List Field → Nat → Bool)
  | .int k => (fun t => match P.underlying t with | some (.int k') => decide (k' = k) | _ => false, fun _ _ => false)
  | .bool => (fun t => match P.underlying t with | some .bool => true | _ => false, fun _ _ => false)
  | .str => (fun t => match P.underlying t with | some .string => true | _ => false, fun _ _ => false)
  | .nil => (fun _ => false, fun fs _ => fs.isEmpty)
  | .pair a b => (fun t => match P.underlying t with
      | some (.struct fs) => (match fs.toList with
        | f :: r => Nat.beq f.offset 0 && Nat.beq (P.cellsOf f.type) a.sz && (ok P a).1 f.type && (ok P b).2 r a.sz
        | [] => false) && Nat.beq (P.cellsOf t) (a.sz + b.sz)
      | _ => false,
    fun fs off => match fs with
      | f :: r => Nat.beq f.offset off && Nat.beq (P.cellsOf f.type) a.sz && (ok P a).1 f.type && (ok P b).2 r (off + a.sz)
      | [] => false)
  | .sl s => (fun t => match P.underlying t with | some (.slice e) => Nat.beq (P.cellsOf e) s.sz && Nat.blt 0 s.sz && (ok P s).1 e | _ => false, fun _ _ => false)
  | .arr n s => (fun t => match P.underlying t with | some (.array m e) => Nat.beq m n && Nat.beq (P.cellsOf e) s.sz && Nat.beq (P.cellsOf t) (n * s.sz) && (ok P s).1 e | _ => false, fun _ _ => false)
section
variable {H : Type} {enc : TypeId × Value → H} {P : Program} {w : World} {base : Nat} {spare : Nat → Bool} {held : Bool}
theorem rows_of {α : Type} {c : α → List Value} {G : α → Prop} : ∀ {rows : List (List Value)}, (∀ r ∈ rows, ∃ y, r = c y ∧ G y) → ∃ l : List α, l.length = rows.length ∧ rows.flatten = l.flatMap c ∧ ∀ y ∈ l, G y := by
  intro rows
  induction rows with
  | nil => intro _; exact ⟨[], rfl, rfl, by simp⟩
  | cons r rows ih =>
    intro h
    obtain ⟨n, e, hw⟩ := h r (List.mem_cons_self ..)
    obtain ⟨l, h1, h2, h3⟩ := ih (fun r hr => h r (List.mem_cons_of_mem _ hr))
    refine ⟨n :: l, by simp [h1], by simp [e, h2], ?_⟩
    intro m hm
    rcases List.mem_cons.1 hm with rfl | hm
    · exact hw
    · exact h3 m hm
theorem chunks_of {α : Type} {c : α → List Value} {G : α → Prop} {sz : Nat} : ∀ (n : Nat) (cs : List Value), cs.length = n * sz → (∀ i, i < n → ∃ y, (cs.drop (i * sz)).take sz = c y ∧ G y) → ∃ l : List α, l.length = n ∧ cs = l.flatMap c ∧ ∀ y ∈ l, G y
  | 0, cs, h, _ => ⟨[], rfl, by simpa using h, by simp⟩
  | n + 1, cs, h, k => by
    obtain ⟨y, e, g⟩ := k 0 (Nat.succ_pos n)
    rw [Nat.zero_mul, List.drop_zero] at e
    obtain ⟨l, h1, h2, h3⟩ := chunks_of (c := c) (G := G) (sz := sz) n (cs.drop sz) (by rw [List.length_drop, h, Nat.succ_mul]; omega) (fun i hi => by
      obtain ⟨y, e, g⟩ := k (i + 1) (by omega)
      refine ⟨y, ?_, g⟩
      rw [List.drop_drop, ← e, Nat.succ_mul, Nat.add_comm (i * sz) sz])
    refine ⟨y :: l, by simp [h1], ?_, ?_⟩
    · rw [List.flatMap_cons, ← e, ← h2, List.take_append_drop]
    · intro m hm
      rcases List.mem_cons.1 hm with rfl | hm
      · exact g
      · exact h3 m hm
theorem Sh.row_of (sh : Sh) : (∀ (t n : Nat) (cs : List Value) (x : DataW H × List MemPlace), (sh.ok P).1 t = true → DataW.trod enc P w base spare held n t cs = some x → ∃ y : sh.T, cs = sh.cells y ∧ sh.good w y) ∧
    (∀ (fs : List Field) (off n : Nat) (cs : List Value), (sh.ok P).2 fs off = true → (∀ (i : Nat) (f : Field), fs[i]? = some f → ∃ x, DataW.trod enc P w base spare held n f.type ((cs.drop f.offset).take (P.cellsOf f.type)) = some x) → cs.length = off + sh.sz →
      ∃ y : sh.T, cs.drop off = sh.cells y ∧ sh.good w y) := by
  induction sh with
  | int k =>
    refine ⟨fun t n cs x hok h => ?_, fun fs off n cs hok => by cases hok⟩
    simp only [Sh.ok] at hok
    split at hok
    · rename_i k' hu
      obtain rfl : k' = k := by simpa using hok
      obtain ⟨m, e1, _, e3⟩ := DataW.trod_int hu h
      exact ⟨m, e1, e3⟩
    · cases hok
  | bool =>
    refine ⟨fun t n cs x hok h => ?_, fun fs off n cs hok => by cases hok⟩
    simp only [Sh.ok] at hok
    split at hok
    · rename_i hu
      obtain ⟨m, e1, _⟩ := DataW.trod_bool hu h
      exact ⟨m, e1, trivial⟩
    · cases hok
  | str =>
    refine ⟨fun t n cs x hok h => ?_, fun fs off n cs hok => by cases hok⟩
    simp only [Sh.ok] at hok
    split at hok
    · rename_i hu
      obtain ⟨m, e1, _, e3⟩ := DataW.trod_string hu h
      exact ⟨m, e1, e3⟩
    · cases hok
  | nil =>
    refine ⟨fun t n cs x hok h => (by cases hok), fun fs off n cs hok hg hl => ⟨(), ?_, trivial⟩⟩
    exact List.drop_of_length_le (by simp only [Sh.sz] at hl; omega)
  | pair a b iha ihb =>
    have key : ∀ (fs : List Field) (off n : Nat) (cs : List Value), (Sh.ok P (.pair a b)).2 fs off = true → (∀ (i : Nat) (f : Field), fs[i]? = some f → ∃ x, DataW.trod enc P w base spare held n f.type ((cs.drop f.offset).take (P.cellsOf f.type)) = some x) → cs.length = off + (a.sz + b.sz) →
        ∃ y : (Sh.pair a b).T, cs.drop off = (Sh.pair a b).cells y ∧ (Sh.pair a b).good w y := by
      intro fs off n cs hok hg hl
      cases fs with
      | nil => cases hok
      | cons f r =>
        simp only [Sh.ok, Bool.and_eq_true] at hok
        obtain ⟨⟨⟨h1, h2⟩, h3⟩, h4⟩ := hok
        have h1 := Nat.eq_of_beq_eq_true h1
        have h2 := Nat.eq_of_beq_eq_true h2
        obtain ⟨x, hx⟩ := hg 0 f rfl
        rw [h1, h2] at hx
        obtain ⟨y1, e1, g1⟩ := iha.1 _ _ _ _ h3 hx
        obtain ⟨y2, e2, g2⟩ := ihb.2 r (off + a.sz) n cs h4 (fun i f hf => hg (i + 1) f (by simpa using hf)) (by omega)
        refine ⟨(y1, y2), ?_, g1, g2⟩
        show cs.drop off = a.cells y1 ++ b.cells y2
        rw [← e1, ← e2, ← List.drop_drop, List.take_append_drop]
    refine ⟨fun t n cs x hok h => ?_, fun fs off n cs hok hg hl => key fs off n cs hok hg hl⟩
    simp only [Sh.ok] at hok
    split at hok
    · rename_i fs hu
      rw [Bool.and_eq_true] at hok
      obtain ⟨h1, h2⟩ := hok
      have h2 := Nat.eq_of_beq_eq_true h2
      obtain ⟨xs, n', _, _, hlen, hxl, hg⟩ := DataW.trod_struct hu h
      have hok2 : (Sh.ok P (.pair a b)).2 fs.toList 0 = true := by
        simp only [Sh.ok]
        split at h1
        · rename_i f r e
          first | (rw [e]; simpa using h1) | simpa using h1
        · cases h1
      obtain ⟨y, e, g⟩ := key fs.toList 0 n' cs hok2 (fun i f hf => by
        have hf' : fs[i]? = some f := by rw [← Array.getElem?_toList]; exact hf
        have := hg i f hf'
        have hi : i < xs.length := by rw [hxl]; exact (Array.getElem?_eq_some_iff.1 hf').1
        rw [List.getElem?_eq_getElem hi] at this
        exact ⟨_, this⟩) (by rw [hlen, h2]; omega)
      exact ⟨y, by simpa using e, g⟩
    · cases hok
  | sl s ih =>
    refine ⟨fun t n cs x hok h => ?_, fun fs off n cs hok => by cases hok⟩
    simp only [Sh.ok] at hok
    split at hok
    · rename_i e hu
      simp only [Bool.and_eq_true] at hok
      obtain ⟨⟨h1, h2⟩, h3⟩ := hok
      have h1 := Nat.eq_of_beq_eq_true h1
      have h2 : 0 < s.sz := Nat.le_of_ble_eq_true h2
      have hcs : ∃ a m cap, cs = [.slice a m cap] := by
        rcases open_slice hu h with ⟨e, _⟩ | ⟨a, len, cap, _, _, _, _, e, _⟩
        · exact ⟨_, _, _, e⟩
        · exact ⟨_, _, _, e⟩
      obtain ⟨a, m, cap, rfl⟩ := hcs
      obtain ⟨hm, rows, e1, e2, _, e4⟩ := open_sl (E := fun r => ∃ y, r = s.cells y ∧ s.good w y) (a := a) (n := m) (cap := cap) (d := x.1) (p := x.2) hu h1 h2 (fun n cs x _ hx => ih.1 _ _ _ _ h3 hx) ⟨n, h⟩
      obtain ⟨l, l1, l2, l3⟩ := rows_of e2
      have hl : l.length = m := l1.trans e1
      refine ⟨⟨a, cap, l⟩, by show _ = [Value.slice a l.length cap]; rw [hl], ?_⟩
      show l.length ≤ maxLen ∧ _ ∧ _
      rw [hl]
      exact ⟨hm, l3, l2 ▸ e4⟩
    · cases hok
  | arr m s ih =>
    refine ⟨fun t n cs x hok h => ?_, fun fs off n cs hok => by cases hok⟩
    simp only [Sh.ok] at hok
    split at hok
    · rename_i m' e hu
      simp only [Bool.and_eq_true] at hok
      obtain ⟨⟨⟨h0, h1⟩, h2⟩, h3⟩ := hok
      obtain rfl := Nat.eq_of_beq_eq_true h0
      have h1 := Nat.eq_of_beq_eq_true h1
      have h2 := Nat.eq_of_beq_eq_true h2
      obtain ⟨xs, n', _, _, hlen, hxl, hg⟩ := DataW.trod_array hu h
      obtain ⟨l, l1, l2, l3⟩ := chunks_of (c := s.cells) (G := s.good w) (sz := s.sz) m' cs (by rw [hlen, h2]) (fun i hi => by
        have := hg i hi
        have hi' : i < xs.length := by rw [hxl]; exact hi
        rw [List.getElem?_eq_getElem hi', h1] at this
        exact ih.1 _ _ _ _ h3 this)
      exact ⟨l, l2, l1, l3⟩
    · cases hok
/-- A row of any shape that came in. -/
theorem Sh.open_rows (sh : Sh) {t e : TypeId} {a : Option Addr} {n cap : Nat} {d : DataW H} {p : List MemPlace} (ht : P.underlying t = some (.slice e)) (hok : (sh.ok P).1 e = true) (hC : Nat.beq (P.cellsOf e) sh.sz = true) (h0 : Nat.blt 0 sh.sz = true)
    (h : DataW.Trod enc P w base spare held t (.slice a n cap) d p) :
    n ≤ maxLen ∧ ∃ l : List sh.T, l.length = n ∧ (∀ y ∈ l, sh.good w y) ∧ SlR [snap w] (.slice a n cap) sh.sz n (l.flatMap sh.cells) := by
  obtain ⟨h1, rows, h2, h3, _, h4⟩ := open_sl (E := fun r => ∃ y, r = sh.cells y ∧ sh.good w y) ht (Nat.eq_of_beq_eq_true hC) (Nat.le_of_ble_eq_true h0) (fun n cs x hl hx => (sh.row_of (P := P)).1 _ _ _ _ hok hx) h
  obtain ⟨l, e1, e2, e3⟩ := rows_of h3
  exact ⟨h1, l, by rw [e1, h2], e3, e2 ▸ h4⟩
/-- A struct of any shape that came in. -/
theorem Sh.open_rec (sh : Sh) {r : Reach} {b0 : Nat} {t : TypeId} {fs : Array Field} {v : Value} {d : DataW H} {p : List MemPlace} (ht : P.underlying t = some (.struct fs)) (hok : (sh.ok P).1 t = true) (hv : Value.okWide P w r b0 t v)
    (h : DataW.Trod enc P w base spare held t v d p) : ∃ y : sh.T, v = .agg (sh.cells y).toArray ∧ sh.good w y := by
  obtain ⟨cs, rfl, hsz⟩ := okWide_struct ht hv
  obtain ⟨fuel, hf⟩ := h
  obtain ⟨y, e, g⟩ := (sh.row_of (P := P)).1 _ _ _ _ hok hf
  refine ⟨y, ?_, g⟩
  have e2 : cs = (sh.cells y).toArray := by
    apply Array.ext'; simpa [Value.cells] using e
  rw [e2]
end
end Go.Proofs.YtbmfpkpcljihgaaDoor.X
