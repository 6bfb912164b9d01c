/- The engine of this seat's proofs, part 17: rows of structs; cells of globals; conditions: none. -/
import Derived.Test.YtgaabaohkpjllaaDoorX15
namespace Go.Proofs.YtgaabaohkpjllaaDoor.X
open Go
set_option linter.unusedSimpArgs false
set_option linter.unusedVariables false
section
variable {α : Type} (c : α → List Value) (sz : Nat) (hc : ∀ x, (c x).length = sz)
include hc
theorem fl_length (l : List α) : (l.flatMap c).length = l.length * sz := by
  induction l with
  | nil => simp
  | cons x l ih => rw [List.flatMap_cons, List.length_append, ih, hc, List.length_cons, Nat.succ_mul, Nat.add_comm]
omit hc in
theorem fl_split (l : List α) (i : Nat) (hi : i < l.length) : l.flatMap c = (l.take i).flatMap c ++ (c l[i] ++ (l.drop (i + 1)).flatMap c) := by
  conv => lhs; rw [← List.take_append_drop i l, List.drop_eq_getElem_cons hi]
  rw [List.flatMap_append, List.flatMap_cons]
theorem fl_get (l : List α) (rest : List Value) (i o : Nat) (hi : i < l.length) (ho : o < sz) : (l.flatMap c ++ rest)[i * sz + o]? = (c l[i])[o]? := by
  have h1 : ((l.take i).flatMap c).length = i * sz := by rw [fl_length c sz hc, List.length_take, Nat.min_eq_left (by omega)]
  rw [fl_split c l i hi, List.append_assoc, List.getElem?_append_right (by omega), h1, Nat.add_sub_cancel_left, List.append_assoc, List.getElem?_append_left (by rw [hc]; exact ho)]
theorem fl_set (l : List α) (rest : List Value) (i o : Nat) (hi : i < l.length) (ho : o < sz) (v : Value) (x : α) (hx : c x = (c l[i]).set o v) : (l.flatMap c ++ rest).set (i * sz + o) v = (l.set i x).flatMap c ++ rest := by
  have h1 : ((l.take i).flatMap c).length = i * sz := by rw [fl_length c sz hc, List.length_take, Nat.min_eq_left (by omega)]
  have e : (l.set i x).flatMap c = (l.take i).flatMap c ++ (c x ++ (l.drop (i + 1)).flatMap c) := by
    rw [List.set_eq_take_append_cons_drop, if_pos hi, List.flatMap_append, List.flatMap_cons]
  rw [e, fl_split c l i hi, List.append_assoc, List.set_append_right _ _ (by omega), h1, Nat.add_sub_cancel_left, List.append_assoc, List.set_append_left _ _ (by rw [hc]; exact ho), hx]
  simp
theorem fl_take (l : List α) (rest : List Value) (i : Nat) (hi : i < l.length) : ((l.flatMap c ++ rest).drop (i * sz)).take sz = c l[i] := by
  have h1 : ((l.take i).flatMap c).length = i * sz := by rw [fl_length c sz hc, List.length_take, Nat.min_eq_left (by omega)]
  rw [fl_split c l i hi, List.append_assoc, ← h1, List.drop_left, List.append_assoc]
  have h2 : sz = (c l[i]).length := (hc _).symm
  conv => lhs; rw [h2]
  rw [List.take_left]
end
/-! ### Rows by their places -/
def mk {α : Type} (N : Nat) (f : Nat → α) : List α := (List.range N).map f
section
variable {α : Type} {N : Nat} {f g : Nat → α}
theorem mk_length : (mk N f).length = N := by simp [mk]
theorem mk_get {i : Nat} (h : i < (mk N f).length) : (mk N f)[i] = f i := by simp [mk]
theorem mk_get? {i : Nat} (h : i < N) : (mk N f)[i]? = some (f i) := by simp [mk, h]
theorem mk_getD {i : Nat} {d : α} (h : i < N) : (mk N f).getD i d = f i := by simp [mk, h]
theorem mk_getD_out {i : Nat} {d : α} (h : N ≤ i) : (mk N f).getD i d = d := by
  rw [List.getD_eq_getElem?_getD, List.getElem?_eq_none (by rw [mk_length]; exact h)]; rfl
theorem mk_congr (h : ∀ j, j < N → f j = g j) : mk N f = mk N g := List.map_congr_left fun j hj => h j (List.mem_range.1 hj)
theorem mk_set {i : Nat} {x : α} : (mk N f).set i x = mk N fun j => if j = i then x else f j := by
  apply List.ext_getElem
  · simp [mk]
  · intro j h1 h2
    rw [List.getElem_set, mk_get, mk_get]
    by_cases e : i = j
    · subst e; simp
    · rw [if_neg e, if_neg (fun h => e h.symm)]
theorem mk_rep {x : α} : List.replicate N x = mk N fun _ => x := by
  apply List.ext_getElem
  · simp [mk]
  · intro j h1 h2; rw [mk_get]; simp
theorem mk_map {β : Type} (k : α → β) : (mk N f).map k = mk N fun j => k (f j) := by simp [mk]
theorem mk_find {p : α → Bool} {i : Nat} (hi : i < N) (h1 : p (f i) = true) (h2 : ∀ j, j < i → p (f j) = false) : (mk N f).findIdx? p = some i := by
  rw [List.findIdx?_eq_some_iff_getElem]
  refine ⟨by rw [mk_length]; exact hi, by rw [mk_get]; exact h1, fun j hj => ?_⟩
  rw [mk_get, h2 j hj]; simp
theorem mk_find_none {p : α → Bool} (h2 : ∀ j, j < N → p (f j) = false) : (mk N f).findIdx? p = none := by
  rw [List.findIdx?_eq_none_iff]
  intro x hx
  obtain ⟨j, hj, rfl⟩ := List.mem_map.1 hx
  exact h2 j (List.mem_range.1 hj)
theorem mk_count0 {p : α → Bool} (h2 : ∀ j, j < N → p (f j) = false) : (mk N f).countP p = 0 := by
  rw [List.countP_eq_zero]
  intro x hx
  obtain ⟨j, hj, rfl⟩ := List.mem_map.1 hx
  rw [h2 j (List.mem_range.1 hj)]; simp
theorem mk_countN {p : α → Bool} (h2 : ∀ j, j < N → p (f j) = true) : (mk N f).countP p = N := by
  have : (mk N f).countP p = (mk N f).length := by
    rw [List.countP_eq_length]
    intro x hx
    obtain ⟨j, hj, rfl⟩ := List.mem_map.1 hx
    exact h2 j (List.mem_range.1 hj)
  rw [this, mk_length]
/-- The least place, or none. -/
theorem least (p : Nat → Bool) : ∀ N : Nat, (∃ i, i < N ∧ p i = true ∧ ∀ j, j < i → p j = false) ∨ ∀ j, j < N → p j = false
  | 0 => .inr fun j h => absurd h (Nat.not_lt_zero j)
  | N + 1 => by
    rcases least p N with ⟨i, h1, h2, h3⟩ | h
    · exact .inl ⟨i, by omega, h2, h3⟩
    · cases e : p N with
      | true => exact .inl ⟨N, by omega, e, h⟩
      | false =>
        refine .inr fun j hj => ?_
        by_cases hjN : j = N
        · subst hjN; exact e
        · exact h j (by omega)
end
/-! ### A slice that is read, opened -/
theorem SlR.at_ {As : List HP} {a : Option Addr} {n cap sz : Nat} {c : List Value} (h : SlR As (.slice a n cap) sz n c) (h0 : 0 < n) :
    ∃ b off m E fr, a = some ⟨b, off, none⟩ ∧ Has As b (.cells m E fr) ∧ ∀ i o, i < n → o < sz → m[off + i * sz + o]? = c[i * sz + o]? := by
  obtain ⟨h1, a', cap', e, hcp, h2⟩ := h
  simp only [Value.slice.injEq] at e
  obtain ⟨rfl, -, rfl⟩ := e
  rcases h2 with h2 | ⟨b, off, m, E, fr, h3, h4, h5⟩
  · omega
  · refine ⟨b, off, m, E, fr, h3, h4, fun i o hi ho => ?_⟩
    have hle : (i + 1) * sz ≤ n * sz := Nat.mul_le_mul_right _ hi
    rw [Nat.succ_mul] at hle
    rw [Nat.add_assoc]
    exact h5 _ (by omega)
/-! ### Loops in loops -/
theorem Agree.mixL {D D' : Nat → Bool} {τ σ σ₀ : Env} (h : Agree D σ σ₀) (hd : ∀ j, D' j = true → D j = true) : ∀ {l : List (Nat × Value)}, l.all (fun p => D p.1) = true → Agree D (upds (X.mix D' τ σ) l) σ₀ := by
  have key : ∀ (l : List (Nat × Value)) (σ : Env), Agree D σ σ₀ → l.all (fun p => D p.1) = true → Agree D (upds σ l) σ₀ := by
    intro l
    induction l with
    | nil => intro σ h _; exact h
    | cons p l ih =>
      intro σ h hl
      obtain ⟨d, v⟩ := p
      rw [List.all_cons, Bool.and_eq_true] at hl
      exact Agree.upd (ih σ h hl.2) hl.1
  intro l hl
  exact key l _ (Agree.mix h hd) hl
/-! ### append of whatever, none too -/
section
variable {C : Cfg} {N : Nat} {gd : List (Option Nat)} {r : List Oper} {σ : Env} {w z : World} {Q : Env → World → Prop} {As Rs : List HP} {x y : Operand} {d t b off n1 cap1 n2 sz : Nat} {ty : TypeId} {pos : String} {af : Array Edge} {g : Option (Nat × Bool)} {v2 : Value} {c c1 c2 rest : List Value} {a : Option Addr}
theorem OpsW.vappz (H : Sat z w As) (h2 : SlR As v2 sz 0 c2) (hcap : n1 ≤ cap1)
    (hg : wan gd σ g = some true) (hx : ev σ x = .slice a n1 cap1) (hy : ev σ y = v2) (hk : Nat.beq (C.T.kind.getD t 0) 4 = true) (he : Nat.blt 0 (C.T.kind.getD (C.T.elem.getD t 0) 0) = true)
    (hsz : C.T.size.getD (C.T.elem.getD t 0) 0 = sz) (hd : Nat.blt d N = true)
    (K : OpsW C N gd r (upd σ d (.slice a n1 cap1)) w Q) :
    OpsW C N gd (⟨some d, .call ⟨.builtin .append, #[x, y], #[t, t]⟩, ty, pos, af, g⟩ :: r) σ w Q := by
  have hu := Tab.slice_ C.ok (Nat.eq_of_beq_eq_true hk)
  obtain ⟨i, hi, hs⟩ := Tab.info_ C.ok (rfl : C.T.kind.getD (C.T.elem.getD t 0) 0 = _) (by have := Nat.le_of_ble_eq_true he; omega)
  have hf := first_run (P := C.P) H h2
  have hc2 : c2 = [] := List.length_eq_zero_iff.1 (by rw [h2.1, Nat.zero_mul])
  subst hc2
  obtain ⟨a2, cp2, rfl⟩ := lenW h2
  refine .val (v := .slice a n1 cap1) (w' := w) hg ?_ (by simp only [putE, hd]) K
  refine run_v ?_
  have e : (#[x, y] : Array Operand).map (ev σ) = #[ev σ x, ev σ y] := by simp
  show (Builtin.append_ #[t, t] ty ((#[x, y] : Array Operand).map (ev σ))).run C.P w = _
  rw [e, hx, hy]
  have hs' : i.size = sz := hs.trans hsz
  clear K hsz hs
  subst hs'
  generalize C.T.elem.getD t 0 = E at *
  have hst : ∀ a : Addr, (storeCells a []).run C.P w = .ok () w := fun a => rfl
  cases a with
  | none => simp [Builtin.append_, run_underlying hu, sizeOf, typeInfo, hi, Builtin.lenOf, hcap, hf]
  | some a => simp [Builtin.append_, run_underlying hu, sizeOf, typeInfo, hi, Builtin.lenOf, hcap, hf, hst]
theorem OpsW.vappA (H : Sat z w As) (hp : As.Perm (vec (C.T.elem.getD t 0) a n1 cap1 sz c1 :: Rs)) (h2 : SlR Rs v2 sz n2 c2) (hs2 : c2.all scal = true) (hn : n1 + n2 ≤ 1000000)
    (hg : wan gd σ g = some true) (hx : ev σ x = .slice a n1 cap1) (hy : ev σ y = v2) (hk : Nat.beq (C.T.kind.getD t 0) 4 = true) (he : Nat.blt 0 (C.T.kind.getD (C.T.elem.getD t 0) 0) = true)
    (hsz : C.T.size.getD (C.T.elem.getD t 0) 0 = sz) (hzc : (C.T.zero.getD (C.T.elem.getD t 0) []).length = sz) (hby : ((C.P.info? (C.T.elem.getD t 0)).elim false fun i => Nat.ble i.bytes 4096) = true) (hd : Nat.blt d N = true)
    (K : ∀ a' cap' w', Sat z w' (vec (C.T.elem.getD t 0) a' (n1 + n2) cap' sz (c1 ++ c2) :: Rs) → OpsW C N gd r (upd σ d (.slice a' (n1 + n2) cap')) w' Q) :
    OpsW C N gd (⟨some d, .call ⟨.builtin .append, #[x, y], #[t, t]⟩, ty, pos, af, g⟩ :: r) σ w Q := by
  by_cases h0 : n2 = 0
  · subst h0
    have hc2 : c2 = [] := List.length_eq_zero_iff.1 (by rw [h2.1, Nat.zero_mul])
    subst hc2
    have H2 := H.perm hp
    refine .vappz H2 h2.tail H2.vlen.2 hg hx hy hk he hsz hd ?_
    have := K a cap1 w
    simp only [Nat.add_zero, List.append_nil] at this
    exact this H2
  · exact .vapp H hp h2 hs2 (by omega) hn hg hx hy hk he hsz hzc hby hd K
end
/-! ### Parts of slices come first, too -/
section
variable {C : Cfg} {N n : Nat} {σ σ' : Env} {w : World} {l : List Oper} {M : List Bool} {Q : Env → World → Prop} {x y : Operand} {d t sz : Nat} {ty : TypeId} {pos : String} {af : Array Edge} {g : Option (Nat × Bool)} {a : Option Addr}
theorem AnyN.takeG {i : Nat} {o : Oper} {v : Value} (hM : M[i]? = some false) (ho : l[i]? = some o) (hg : wan (dsts l) σ o.guard = some true) (hrun : ∀ w, (execOp (ev σ) o).run C.P w = .ok (.value v) w) (hp : putE N σ o.dst v = some σ') (hf : takeOk l M i = true)
    (h : AnyN C N l n (M.set i true) σ' w Q) : AnyN C N l (n + 1) M σ w Q := by
  intro b R
  simp only [takeOk, Bool.and_eq_true] at hf
  obtain ⟨⟨h1, h2⟩, h3⟩ := hf
  have ho' : l.toArray[i]? = some o := by rw [List.getElem?_toArray]; exact ho
  have hm : l.toArray.toList.map (·.dst) = dsts l := by simp [dsts]
  refine wpAny_take (v := v) ho' h1 h2 h3 (fun c a w hc => hc.elim) (.inl ⟨wan_eq hg hm R, fun w => by rw [R.eval]; exact hrun w⟩) ?_
  have := h _ (R.putE hp)
  simpa using this
theorem slcG_run {cap m k h c : Nat} {lo hi mx : Option Operand} (hx : ev σ x = .slice a m cap)
    (hb : ∀ w, (Instr.sliceBounds true m cap (lo.map (ev σ)) (hi.map (ev σ)) (mx.map (ev σ))).run C.P w = .ok (k, h, c) w) (hk : Nat.beq (C.T.kind.getD t 0) 4 = true) (he : Nat.blt 0 (C.T.kind.getD (C.T.elem.getD t 0) 0) = true)
    (hsz : C.T.size.getD (C.T.elem.getD t 0) 0 = sz) (w : World) :
    (execOp (ev σ) ⟨some d, .slice t x lo hi mx, ty, pos, af, g⟩).run C.P w = .ok (.value (.slice (if c = k then a else a.map (·.add (k * sz))) (h - k) (c - k))) w := by
  have hu := Tab.slice_ C.ok (Nat.eq_of_beq_eq_true hk)
  obtain ⟨ie, hie, hse⟩ := Tab.info_ C.ok (rfl : C.T.kind.getD (C.T.elem.getD t 0) 0 = _) (by have := Nat.le_of_ble_eq_true he; omega)
  have hs' : ie.size = sz := hse.trans hsz
  refine run_v ?_
  have hr := slc_run (w := w) (P := C.P) hu hie (a := a) (hb w)
  rw [hs'] at hr
  simpa [hx] using hr
theorem AnyN.takeT {i m cap k : Nat} {z : Int} {kd : IntKind} (hM : M[i]? = some false) (ho : l[i]? = some ⟨some d, .slice t x none (some y) none, ty, pos, af, g⟩) (hg : wan (dsts l) σ g = some true) (hx : ev σ x = .slice a m cap) (hy : ev σ y = .int kd z) (hk : Nat.beq (C.T.kind.getD t 0) 4 = true) (he : Nat.blt 0 (C.T.kind.getD (C.T.elem.getD t 0) 0) = true)
    (hn : z = k) (hl : k ≤ cap) (hd : Nat.blt d N = true) (hf : takeOk l M i = true) (h : AnyN C N l n (M.set i true) (upd σ d (.slice a k cap)) w Q) : AnyN C N l (n + 1) M σ w Q := by
  subst hn
  refine .takeG (v := .slice a k cap) hM ho hg (fun w => ?_) (by simp only [putE, hd]) hf h
  have := slcG_run (C := C) (σ := σ) (d := d) (ty := ty) (pos := pos) (af := af) (g := g) (lo := none) (hi := some y) (mx := none) (k := 0) (h := k) (c := cap) hx (fun w => by simp [Instr.sliceBounds, Instr.sliceBound, asIntOf, hy, hl]) hk he rfl w
  rw [Nat.zero_mul, add0] at this
  simpa using this
theorem AnyN.takeF {i m cap k : Nat} {z : Int} {kd : IntKind} (hM : M[i]? = some false) (ho : l[i]? = some ⟨some d, .slice t x (some y) none none, ty, pos, af, g⟩) (hg : wan (dsts l) σ g = some true) (hx : ev σ x = .slice a m cap) (hy : ev σ y = .int kd z) (hk : Nat.beq (C.T.kind.getD t 0) 4 = true) (he : Nat.blt 0 (C.T.kind.getD (C.T.elem.getD t 0) 0) = true)
    (hsz : C.T.size.getD (C.T.elem.getD t 0) 0 = sz) (hn : z = k) (hl : k ≤ m) (hc : m ≤ cap) (hd : Nat.blt d N = true) (hf : takeOk l M i = true) (h : AnyN C N l n (M.set i true) (upd σ d (.slice (if cap = k then a else a.map (·.add (k * sz))) (m - k) (cap - k))) w Q) : AnyN C N l (n + 1) M σ w Q := by
  subst hn
  refine .takeG (v := .slice (if cap = k then a else a.map (·.add (k * sz))) (m - k) (cap - k)) hM ho hg (fun w => ?_) (by simp only [putE, hd]) hf h
  exact slcG_run (C := C) (σ := σ) (d := d) (ty := ty) (pos := pos) (af := af) (g := g) (lo := some y) (hi := none) (mx := none) (k := k) (h := m) (c := cap) hx (fun w => by simp [Instr.sliceBounds, Instr.sliceBound, asIntOf, hy, hl, hc]) hk he hsz w
end
/-! ### Globals -/
def GlobV (As : List HP) (g : Nat) (v : Value) : Prop := ∃ (c : Array Value) (E : TypeId) (fr : Nat × Nat), Has As g (.cells c E fr) ∧ c[0]? = some v
theorem GlobV.tail {A : HP} {As : List HP} {g : Nat} {v : Value} (h : GlobV As g v) : GlobV (A :: As) g v := by
  obtain ⟨c, E, fr, h1, h2⟩ := h; exact ⟨c, E, fr, h1.tail, h2⟩
theorem GlobV.perm {As Bs : List HP} {g : Nat} {v : Value} (h : GlobV As g v) (p : Bs.Perm As) : GlobV Bs g v := by
  obtain ⟨c, E, fr, h1, h2⟩ := h; exact ⟨c, E, fr, h1.perm p, h2⟩
theorem GlobV.of_cell {w : World} {g : Nat} {v : Value} (h : w.cell? ⟨g, 0, none⟩ = some v) : GlobV [snap w] g v := by
  simp only [World.cell?] at h
  cases ho : w.heap[g]? with
  | none => rw [ho] at h; simp at h
  | some o =>
    rw [ho] at h
    cases o with
    | cells c E fr => exact ⟨c, E, fr, Has.of_snap ho, by simpa using h⟩
    | _ => simp at h
section
variable {C : Cfg} {N : Nat} {gd : List (Option Nat)} {r : List Oper} {σ : Env} {w z : World} {Q : Env → World → Prop} {As : List HP} {x : Operand} {d t gl : Nat} {ty : TypeId} {pos : String} {af : Array Edge} {g : Option (Nat × Bool)} {v : Value}
theorem OpsW.ldg (H : Sat z w As) (hG : GlobV As gl v) (hg : wan gd σ g = some true) (ha : ev σ x = .pointer (some ⟨gl, 0, none⟩)) (hk : C.T.isAgg t = false) (h0 : Nat.blt 0 (C.T.kind.getD t 0) = true)
    (hd : Nat.blt d N = true) (k : OpsW C N gd r (upd σ d v) w Q) : OpsW C N gd (⟨some d, .load t x, ty, pos, af, g⟩ :: r) σ w Q := by
  obtain ⟨c, E, fr, h1, h2⟩ := hG
  exact .ldh (H.has h1) hg ha hk h0 h2 hd k
end
end Go.Proofs.YtgaabaohkpjllaaDoor.X
