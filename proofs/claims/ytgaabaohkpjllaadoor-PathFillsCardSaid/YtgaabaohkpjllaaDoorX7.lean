/- The engine of this seat's proofs, part 8: what a loop keeps, slices that are read, small sums; conditions: none. -/
import Derived.Test.YtgaabaohkpjllaaDoorX6
namespace Go.Proofs.YtgaabaohkpjllaaDoor.X
open Go
set_option linter.unusedSimpArgs false
set_option linter.unusedVariables false

/-! ### The slots at a loop's head -/
def mix (D : Nat → Bool) (τ σ : Env) : Env := fun i => bif D i then τ i else σ i
def Agree (D : Nat → Bool) (σ σ₀ : Env) : Prop := ∀ j, D j = false → σ j = σ₀ j
theorem Agree.refl (D : Nat → Bool) (σ : Env) : Agree D σ σ := fun _ _ => rfl
theorem Agree.upd {D : Nat → Bool} {σ σ₀ : Env} {d : Nat} {v : Value} (h : Agree D σ σ₀) (hd : D d = true) : Agree D (upd σ d v) σ₀ := by
  intro j hj
  unfold X.upd
  cases hb : Nat.beq j d
  · exact h j hj
  · rw [Nat.eq_of_beq_eq_true hb] at hj; rw [hj] at hd; cases hd
theorem Agree.mix {D D' : Nat → Bool} {τ σ σ₀ : Env} (h : Agree D σ σ₀) (hd : ∀ j, D' j = true → D j = true) : Agree D (mix D' τ σ) σ₀ := by
  intro j hj
  unfold X.mix
  cases hb : D' j
  · exact h j hj
  · have := hd j hb; rw [hj] at this; cases this
theorem Agree.mix' {D : Nat → Bool} {τ σ₀ : Env} : Agree D (X.mix D τ σ₀) σ₀ := Agree.mix (.refl _ _) fun _ h => h
def upds (σ : Env) : List (Nat × Value) → Env
  | [] => σ
  | (d, v) :: l => upd (upds σ l) d v
def AllEq (σ : Env) : List (Nat × Value) → Prop
  | [] => True
  | (d, v) :: l => σ d = v ∧ AllEq σ l
theorem ae {σ : Env} {d : Nat} {v v' : Value} (h : force (σ d) = some v') (e : v' = v) : σ d = v := by
  rw [force_eq, Option.some.injEq] at h; rw [h, e]
theorem upd_self {σ : Env} {d : Nat} {v : Value} (h : σ d = v) : upd σ d v = σ := by
  funext i; unfold upd
  cases hb : Nat.beq i d
  · rfl
  · rw [Nat.eq_of_beq_eq_true hb]; exact h.symm
theorem mix_self {D : Nat → Bool} {σ σ₀ : Env} (h : Agree D σ σ₀) : mix D σ σ₀ = σ := by
  funext i; unfold mix
  cases hb : D i
  · exact (h i hb).symm
  · rfl
/-- The slots are as they were but for those that D names; some are told. -/
def Fr (D : Nat → Bool) (σ₀ : Env) (l : List (Nat × Value)) (σ : Env) : Prop := ∃ τ, σ = upds (mix D τ σ₀) l
theorem Fr.mk {D : Nat → Bool} {σ σ₀ : Env} {l : List (Nat × Value)} (h : Agree D σ σ₀) (k : AllEq σ l) : Fr D σ₀ l σ := by
  refine ⟨σ, ?_⟩
  rw [mix_self h]
  induction l with
  | nil => rfl
  | cons p l ih =>
    obtain ⟨d, v⟩ := p
    show σ = upd (upds σ l) d v
    rw [← ih k.2, upd_self k.1]

/-- A loop: D names the slots that a round writes; T tells some of them; I is what holds of memory; m goes down. -/
theorem CW.loopF {C : Cfg} {N : Nat} {σ : Env} {w : World} {Q : Post} {x : Code} {X : Type} (D : Nat → Bool) (T : X → List (Nat × Value)) (I : X → World → Prop) (m : X → Nat) (g : X) (h0 : AllEq σ (T g)) (hI : I g w)
    (round : ∀ g τ w, I g w → CW C N x (upds (mix D τ σ) (T g)) w (thenQ (fun σ' w' => ∃ g', Agree D σ' σ ∧ AllEq σ' (T g') ∧ I g' w' ∧ m g' < m g) Q)) : CW C N (.loop x) σ w Q := by
  refine CW.loop (X := X) (fun g σ' w => Agree D σ' σ ∧ AllEq σ' (T g) ∧ I g w) m g ⟨.refl _ _, h0, hI⟩ ?_
  rintro g σ' w' ⟨h1, h2, h3⟩
  obtain ⟨τ, rfl⟩ := Fr.mk h1 h2
  refine (round g τ w' h3).mono ?_
  intro e σ'' w'' q
  cases e with
  | normal => obtain ⟨g', a, b, c, d⟩ := q; exact ⟨g', ⟨a, b, c⟩, d⟩
  | _ => exact q

/-- Ways that meet again: what holds where they do. -/
theorem CW.join {C : Cfg} {N : Nat} {σ : Env} {w : World} {Q : Post} {x y : Code} {X : Type} (D : Nat → Bool) (T : X → List (Nat × Value)) (I : X → World → Prop)
    (h : CW C N x σ w (thenQ (fun σ' w' => ∃ g, Agree D σ' σ ∧ AllEq σ' (T g) ∧ I g w') Q)) (k : ∀ g τ w', I g w' → CW C N y (upds (mix D τ σ) (T g)) w' Q) : CW C N (.seq x y) σ w Q := by
  refine .seqD (h.mono ?_)
  intro e σ' w' q
  cases e with
  | normal =>
    obtain ⟨g, h1, h2, h3⟩ := q
    obtain ⟨τ, rfl⟩ := Fr.mk h1 h2
    exact k g τ w' h3
  | _ => exact q

/-! ### Small sums -/
theorem wrap64_id {n : Int} (h : -9223372036854775808 ≤ n) (h' : n ≤ 9223372036854775807) : IntKind.wrap .i64 n = n := by
  have e : IntKind.wrap .i64 n = if n % 18446744073709551616 ≥ 9223372036854775808 then n % 18446744073709551616 - 18446744073709551616 else n % 18446744073709551616 := by
    simp [IntKind.wrap, IntKind.bits, IntKind.signed]
  rw [e]
  split <;> omega
theorem wrapu32 (n : Int) : IntKind.wrap .u32 n = n % 4294967296 := by
  simp [IntKind.wrap, IntKind.signed, IntKind.bits]
theorem wrapu8 (n : Int) : IntKind.wrap .u8 n = n % 256 := by
  simp [IntKind.wrap, IntKind.signed, IntKind.bits]
theorem wrapu64 (n : Int) : IntKind.wrap .u64 n = n % 18446744073709551616 := by
  simp [IntKind.wrap, IntKind.signed, IntKind.bits]
theorem nat_succ {i n : Nat} (h : i < n) (hn : n ≤ 9223372036854775807) : Value.int .i64 (IntKind.wrap .i64 ((i : Int) + 1)) = .int .i64 ((i + 1 : Nat) : Int) := by
  rw [wrap64_id (by omega) (by omega)]; simp

/-! ### Slices that are read -/
/-- v is a slice of n elements of sz cells each, whose cells are c, in memory that the assertions tell of. -/
def SlR (As : List HP) (v : Value) (sz n : Nat) (c : List Value) : Prop :=
  c.length = n * sz ∧ ∃ a cap, v = .slice a n cap ∧ n ≤ cap ∧ (n = 0 ∨ ∃ b off m E fr, a = some ⟨b, off, none⟩ ∧ Has As b (.cells m E fr) ∧ ∀ j, j < n * sz → m[off + j]? = c[j]?)
theorem SlR.tail {As : List HP} {A : HP} {v : Value} {sz n : Nat} {c : List Value} (h : SlR As v sz n c) : SlR (A :: As) v sz n c := by
  obtain ⟨h1, a, cap, e, hc, h2⟩ := h
  refine ⟨h1, a, cap, e, hc, ?_⟩
  rcases h2 with h2 | ⟨b, off, m, E, fr, h3, h4, h5⟩
  · exact .inl h2
  · exact .inr ⟨b, off, m, E, fr, h3, h4.tail, h5⟩
theorem SlR.perm {As Bs : List HP} {v : Value} {sz n : Nat} {c : List Value} (h : SlR As v sz n c) (p : Bs.Perm As) : SlR Bs v sz n c := by
  obtain ⟨h1, a, cap, e, hc, h2⟩ := h
  refine ⟨h1, a, cap, e, hc, ?_⟩
  rcases h2 with h2 | ⟨b, off, m, E, fr, h3, h4, h5⟩
  · exact .inl h2
  · exact .inr ⟨b, off, m, E, fr, h3, h4.perm p, h5⟩
theorem SlR.all {As : List HP} {v : Value} {sz n : Nat} {c : List Value} (h : SlR As v sz n c) : SlR [stars As] v sz n c := by
  obtain ⟨h1, a, cap, e, hc, h2⟩ := h
  refine ⟨h1, a, cap, e, hc, ?_⟩
  rcases h2 with h2 | ⟨b, off, m, E, fr, h3, h4, h5⟩
  · exact .inl h2
  · exact .inr ⟨b, off, m, E, fr, h3, h4.all, h5⟩
/-- a whole row that lies here -/
theorem SlR.of_blk {As : List HP} {b : Nat} {E : TypeId} {c r : List Value} {sz n cap : Nat} (h : c.length = n * sz) (hc : n ≤ cap) : SlR (blk b E (c ++ r) :: As) (.slice (some ⟨b, 0, none⟩) n cap) sz n c := by
  refine ⟨h, _, _, rfl, hc, .inr ⟨b, 0, _, E, _, rfl, Has.head, fun j hj => ?_⟩⟩
  rw [List.getElem?_toArray, Nat.zero_add, List.getElem?_append_left (by omega)]
theorem SlR.of_snap {As : List HP} {w0 : World} {b off : Nat} {m : Array Value} {E : TypeId} {fr : Nat × Nat} {c : List Value} {sz n cap : Nat} (h : c.length = n * sz) (hcap : n ≤ cap) (hb : w0.heap[b]? = some (.cells m E fr))
    (hc : ∀ j, j < n * sz → m[off + j]? = c[j]?) : SlR (snap w0 :: As) (.slice (some ⟨b, off, none⟩) n cap) sz n c :=
  ⟨h, _, _, rfl, hcap, .inr ⟨b, off, m, E, fr, rfl, Has.of_snap hb, hc⟩⟩
theorem SlR.nil_ {As : List HP} {sz cap : Nat} {a : Option Addr} : SlR As (.slice a 0 cap) sz 0 [] := ⟨by simp, _, _, rfl, Nat.zero_le _, .inl rfl⟩

section
variable {C : Cfg} {N : Nat} {gd : List (Option Nat)} {r : List Oper} {σ : Env} {w z : World} {Q : Env → World → Prop} {As : List HP} {x y : Operand} {d d' t : Nat} {ty ty' : TypeId} {pos pos' : String} {af af' : Array Edge} {g g' : Option (Nat × Bool)} {v : Value}
theorem lenW {sz n : Nat} {c : List Value} {sv : Value} (h : SlR As sv sz n c) : ∃ a cap, sv = .slice a n cap := by
  obtain ⟨_, a, cap, e, _, _⟩ := h; exact ⟨a, cap, e⟩
/-- The address of an element of a slice that is read, and its load at once (one cell each). -/
theorem OpsW.ixld {kd : IntKind} {i : Int} {n k : Nat} {c : List Value} {u : TypeId} {sv : Value} (H : Sat z w As) (h : SlR As sv 1 n c) (hg : wan gd σ g = some true) (hg' : ∀ p, wan gd (upd σ d p) g' = some true)
    (hx : ev σ x = sv) (hy : ev σ y = .int kd i) (hk : Nat.beq (C.T.kind.getD t 0) 4 = true) (he : Nat.blt 0 (C.T.kind.getD (C.T.elem.getD t 0) 0) = true)
    (hsz : C.T.size[C.T.elem.getD t 0]? = some 1) (hu : C.T.isAgg u = false) (hu0 : Nat.blt 0 (C.T.kind.getD u 0) = true) (hn : i = k) (hl : k < n) (hv : c[k]? = some v) (hd : Nat.blt d N = true) (hd' : Nat.blt d' N = true)
    (K : ∀ p, OpsW C N gd r (upd (upd σ d p) d' v) w Q) : OpsW C N gd (⟨some d, .indexAddr t x y, ty, pos, af, g⟩ :: ⟨some d', .load u (.tmp d), ty', pos', af', g'⟩ :: r) σ w Q := by
  obtain ⟨h1, a, cap, e, hcp, h2⟩ := h
  rcases h2 with h2 | ⟨b, off, m, E, fr, h3, h4, h5⟩
  · omega
  · subst e h3
    refine .ix hg hx hy hk he hsz hn hl hd ?_
    refine .ldh (H.has h4) (hg' _) (by simp only [ev, upd]; rw [Nat.beq_refl]; rfl) hu hu0 ?_ hd' (K _)
    rw [Nat.mul_one, h5 k (by omega), hv]
/-- The same for an element of several cells. -/
theorem OpsW.ixldA {kd : IntKind} {i : Int} {n k sz : Nat} {c vs : List Value} {u : TypeId} {sv : Value} (H : Sat z w As) (h : SlR As sv sz n c) (hg : wan gd σ g = some true) (hg' : ∀ p, wan gd (upd σ d p) g' = some true)
    (hx : ev σ x = sv) (hy : ev σ y = .int kd i) (hk : Nat.beq (C.T.kind.getD t 0) 4 = true) (he : Nat.blt 0 (C.T.kind.getD (C.T.elem.getD t 0) 0) = true)
    (hsz : C.T.size[C.T.elem.getD t 0]? = some sz) (hu : C.T.isAgg u = true) (hus : C.T.size.getD u 0 = sz) (hn : i = k) (hl : k < n) (hv : (c.drop (k * sz)).take sz = vs) (hd : Nat.blt d N = true) (hd' : Nat.blt d' N = true)
    (K : ∀ p, OpsW C N gd r (upd (upd σ d p) d' (.agg vs.toArray)) w Q) : OpsW C N gd (⟨some d, .indexAddr t x y, ty, pos, af, g⟩ :: ⟨some d', .load u (.tmp d), ty', pos', af', g'⟩ :: r) σ w Q := by
  obtain ⟨h1, a, cap, e, hcp, h2⟩ := h
  rcases h2 with h2 | ⟨b, off, m, E, fr, h3, h4, h5⟩
  · omega
  · subst e h3
    have hle : (k + 1) * sz ≤ n * sz := Nat.mul_le_mul_right _ hl
    have hle' : k * sz + sz ≤ n * sz := by rw [← Nat.succ_mul]; exact hle
    refine .ix hg hx hy hk he hsz hn hl hd ?_
    refine .ldAh (H.has h4) (hg' _) (by simp only [ev, upd]; rw [Nat.beq_refl]; rfl) hu ?_ ?_ hd' (K _)
    · rw [← hv, hus, List.length_take, List.length_drop]; omega
    · intro j v hj
      rw [← hv, List.getElem?_take] at hj
      split at hj
      · rw [List.getElem?_drop] at hj
        rw [Nat.add_assoc, h5 _ (by omega)]; exact hj
      · cases hj
end
end Go.Proofs.YtgaabaohkpjllaaDoor.X
