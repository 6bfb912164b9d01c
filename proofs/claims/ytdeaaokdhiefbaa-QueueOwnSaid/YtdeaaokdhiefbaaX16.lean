/- The engine of this seat's proofs, part 17: rows of structs; cells of globals; conditions: none. -/
import Derived.Test.YtdeaaokdhiefbaaX15
namespace Go.Proofs.Ytdeaaokdhiefbaa.X
open Go
set_option linter.unusedSimpArgs false
set_option linter.unusedVariables false
section
variable {α : Type} (c : α → List Value) (sz : Nat) (hc : ∀ x, (c x).length = sz)
include hc
theorem fl_length (l : List α) : (l.flatMap c).length = l.length * sz := by
  induction l with
  | nil => simp
  | cons x l ih => rw [List.flatMap_cons, List.length_append, ih, hc, List.length_cons, Nat.succ_mul, Nat.add_comm]
omit hc in
theorem fl_split (l : List α) (i : Nat) (hi : i < l.length) : l.flatMap c = (l.take i).flatMap c ++ (c l[i] ++ (l.drop (i + 1)).flatMap c) := by
  conv => lhs; rw [← List.take_append_drop i l, List.drop_eq_getElem_cons hi]
  rw [List.flatMap_append, List.flatMap_cons]
theorem fl_get (l : List α) (rest : List Value) (i o : Nat) (hi : i < l.length) (ho : o < sz) : (l.flatMap c ++ rest)[i * sz + o]? = (c l[i])[o]? := by
  have h1 : ((l.take i).flatMap c).length = i * sz := by rw [fl_length c sz hc, List.length_take, Nat.min_eq_left (by omega)]
  rw [fl_split c l i hi, List.append_assoc, List.getElem?_append_right (by omega), h1, Nat.add_sub_cancel_left, List.append_assoc, List.getElem?_append_left (by rw [hc]; exact ho)]
theorem fl_set (l : List α) (rest : List Value) (i o : Nat) (hi : i < l.length) (ho : o < sz) (v : Value) (x : α) (hx : c x = (c l[i]).set o v) : (l.flatMap c ++ rest).set (i * sz + o) v = (l.set i x).flatMap c ++ rest := by
  have h1 : ((l.take i).flatMap c).length = i * sz := by rw [fl_length c sz hc, List.length_take, Nat.min_eq_left (by omega)]
  have e : (l.set i x).flatMap c = (l.take i).flatMap c ++ (c x ++ (l.drop (i + 1)).flatMap c) := by
    rw [List.set_eq_take_append_cons_drop, if_pos hi, List.flatMap_append, List.flatMap_cons]
  rw [e, fl_split c l i hi, List.append_assoc, List.set_append_right _ _ (by omega), h1, Nat.add_sub_cancel_left, List.append_assoc, List.set_append_left _ _ (by rw [hc]; exact ho), hx]
  simp
theorem fl_take (l : List α) (rest : List Value) (i : Nat) (hi : i < l.length) : ((l.flatMap c ++ rest).drop (i * sz)).take sz = c l[i] := by
  have h1 : ((l.take i).flatMap c).length = i * sz := by rw [fl_length c sz hc, List.length_take, Nat.min_eq_left (by omega)]
  rw [fl_split c l i hi, List.append_assoc, ← h1, List.drop_left, List.append_assoc]
  have h2 : sz = (c l[i]).length := (hc _).symm
  conv => lhs; rw [h2]
  rw [List.take_left]
end
/-! ### Rows by their places -/
def mk {α : Type} (N : Nat) (f : Nat → α) : List α := (List.range N).map f
section
variable {α : Type} {N : Nat} {f g : Nat → α}
theorem mk_length : (mk N f).length = N := by simp [mk]
theorem mk_get {i : Nat} (h : i < (mk N f).length) : (mk N f)[i] = f i := by simp [mk]
theorem mk_get? {i : Nat} (h : i < N) : (mk N f)[i]? = some (f i) := by simp [mk, h]
theorem mk_getD {i : Nat} {d : α} (h : i < N) : (mk N f).getD i d = f i := by simp [mk, h]
theorem mk_getD_out {i : Nat} {d : α} (h : N ≤ i) : (mk N f).getD i d = d := by
  rw [List.getD_eq_getElem?_getD, List.getElem?_eq_none (by rw [mk_length]; exact h)]; rfl
theorem mk_congr (h : ∀ j, j < N → f j = g j) : mk N f = mk N g := List.map_congr_left fun j hj => h j (List.mem_range.1 hj)
theorem mk_set {i : Nat} {x : α} : (mk N f).set i x = mk N fun j => if j = i then x else f j := by
  apply List.ext_getElem
  · simp [mk]
  · intro j h1 h2
    rw [List.getElem_set, mk_get, mk_get]
    by_cases e : i = j
    · subst e; simp
    · rw [if_neg e, if_neg (fun h => e h.symm)]
theorem mk_rep {x : α} : List.replicate N x = mk N fun _ => x := by
  apply List.ext_getElem
  · simp [mk]
  · intro j h1 h2; rw [mk_get]; simp
theorem mk_map {β : Type} (k : α → β) : (mk N f).map k = mk N fun j => k (f j) := by simp [mk]
theorem mk_find {p : α → Bool} {i : Nat} (hi : i < N) (h1 : p (f i) = true) (h2 : ∀ j, j < i → p (f j) = false) : (mk N f).findIdx? p = some i := by
  rw [List.findIdx?_eq_some_iff_getElem]
  refine ⟨by rw [mk_length]; exact hi, by rw [mk_get]; exact h1, fun j hj => ?_⟩
  rw [mk_get, h2 j hj]; simp
theorem mk_find_none {p : α → Bool} (h2 : ∀ j, j < N → p (f j) = false) : (mk N f).findIdx? p = none := by
  rw [List.findIdx?_eq_none_iff]
  intro x hx
  obtain ⟨j, hj, rfl⟩ := List.mem_map.1 hx
  exact h2 j (List.mem_range.1 hj)
theorem mk_count0 {p : α → Bool} (h2 : ∀ j, j < N → p (f j) = false) : (mk N f).countP p = 0 := by
  rw [List.countP_eq_zero]
  intro x hx
  obtain ⟨j, hj, rfl⟩ := List.mem_map.1 hx
  rw [h2 j (List.mem_range.1 hj)]; simp
theorem mk_countN {p : α → Bool} (h2 : ∀ j, j < N → p (f j) = true) : (mk N f).countP p = N := by
  have : (mk N f).countP p = (mk N f).length := by
    rw [List.countP_eq_length]
    intro x hx
    obtain ⟨j, hj, rfl⟩ := List.mem_map.1 hx
    exact h2 j (List.mem_range.1 hj)
  rw [this, mk_length]
/-- The least place, or none. -/
theorem least (p : Nat → Bool) : ∀ N : Nat, (∃ i, i < N ∧ p i = true ∧ ∀ j, j < i → p j = false) ∨ ∀ j, j < N → p j = false
  | 0 => .inr fun j h => absurd h (Nat.not_lt_zero j)
  | N + 1 => by
    rcases least p N with ⟨i, h1, h2, h3⟩ | h
    · exact .inl ⟨i, by omega, h2, h3⟩
    · cases e : p N with
      | true => exact .inl ⟨N, by omega, e, h⟩
      | false =>
        refine .inr fun j hj => ?_
        by_cases hjN : j = N
        · subst hjN; exact e
        · exact h j (by omega)
end
/-! ### A slice that is read, opened -/
theorem SlR.at_ {As : List HP} {a : Option Addr} {n cap sz : Nat} {c : List Value} (h : SlR As (.slice a n cap) sz n c) (h0 : 0 < n) :
    ∃ b off m E fr, a = some ⟨b, off, none⟩ ∧ Has As b (.cells m E fr) ∧ ∀ i o, i < n → o < sz → m[off + i * sz + o]? = c[i * sz + o]? := by
  obtain ⟨h1, a', cap', e, hcp, h2⟩ := h
  simp only [Value.slice.injEq] at e
  obtain ⟨rfl, -, rfl⟩ := e
  rcases h2 with h2 | ⟨b, off, m, E, fr, h3, h4, h5⟩
  · omega
  · refine ⟨b, off, m, E, fr, h3, h4, fun i o hi ho => ?_⟩
    have hle : (i + 1) * sz ≤ n * sz := Nat.mul_le_mul_right _ hi
    rw [Nat.succ_mul] at hle
    rw [Nat.add_assoc]
    exact h5 _ (by omega)
/-! ### Loops in loops -/
theorem Agree.mixL {D D' : Nat → Bool} {τ σ σ₀ : Env} (h : Agree D σ σ₀) (hd : ∀ j, D' j = true → D j = true) : ∀ {l : List (Nat × Value)}, l.all (fun p => D p.1) = true → Agree D (upds (X.mix D' τ σ) l) σ₀ := by
  have key : ∀ (l : List (Nat × Value)) (σ : Env), Agree D σ σ₀ → l.all (fun p => D p.1) = true → Agree D (upds σ l) σ₀ := by
    intro l
    induction l with
    | nil => intro σ h _; exact h
    | cons p l ih =>
      intro σ h hl
      obtain ⟨d, v⟩ := p
      rw [List.all_cons, Bool.and_eq_true] at hl
      exact Agree.upd (ih σ h hl.2) hl.1
  intro l hl
  exact key l _ (Agree.mix h hd) hl
/-! ### Globals -/
def GlobV (As : List HP) (g : Nat) (v : Value) : Prop := ∃ (c : Array Value) (E : TypeId) (fr : Nat × Nat), Has As g (.cells c E fr) ∧ c[0]? = some v
theorem GlobV.tail {A : HP} {As : List HP} {g : Nat} {v : Value} (h : GlobV As g v) : GlobV (A :: As) g v := by
  obtain ⟨c, E, fr, h1, h2⟩ := h; exact ⟨c, E, fr, h1.tail, h2⟩
theorem GlobV.perm {As Bs : List HP} {g : Nat} {v : Value} (h : GlobV As g v) (p : Bs.Perm As) : GlobV Bs g v := by
  obtain ⟨c, E, fr, h1, h2⟩ := h; exact ⟨c, E, fr, h1.perm p, h2⟩
theorem GlobV.of_cell {w : World} {g : Nat} {v : Value} (h : w.cell? ⟨g, 0, none⟩ = some v) : GlobV [snap w] g v := by
  simp only [World.cell?] at h
  cases ho : w.heap[g]? with
  | none => rw [ho] at h; simp at h
  | some o =>
    rw [ho] at h
    cases o with
    | cells c E fr => exact ⟨c, E, fr, Has.of_snap ho, by simpa using h⟩
    | _ => simp at h
section
variable {C : Cfg} {N : Nat} {gd : List (Option Nat)} {r : List Oper} {σ : Env} {w z : World} {Q : Env → World → Prop} {As : List HP} {x : Operand} {d t gl : Nat} {ty : TypeId} {pos : String} {af : Array Edge} {g : Option (Nat × Bool)} {v : Value}
theorem OpsW.ldg (H : Sat z w As) (hG : GlobV As gl v) (hg : wan gd σ g = some true) (ha : ev σ x = .pointer (some ⟨gl, 0, none⟩)) (hk : C.T.isAgg t = false) (h0 : Nat.blt 0 (C.T.kind.getD t 0) = true)
    (hd : Nat.blt d N = true) (k : OpsW C N gd r (upd σ d v) w Q) : OpsW C N gd (⟨some d, .load t x, ty, pos, af, g⟩ :: r) σ w Q := by
  obtain ⟨c, E, fr, h1, h2⟩ := hG
  exact .ldh (H.has h1) hg ha hk h0 h2 hd k
end
end Go.Proofs.Ytdeaaokdhiefbaa.X
