/- The engine of this seat's proofs, part 8: what a loop keeps, slices that are read, small sums; conditions: none. -/
import Derived.Test.YtbmfpkpcljihgaaDoorX6
import Derived.Orders
namespace Go.Proofs.YtbmfpkpcljihgaaDoor.X
open Go
set_option linter.unusedSimpArgs false
set_option linter.unusedVariables false
def mix (D : Nat → Bool) (τ σ : Env) : Env := fun i => bif D i then τ i else σ i
def Agree (D : Nat → Bool) (σ σ₀ : Env) : Prop := ∀ j, D j = false → σ j = σ₀ j
theorem Agree.refl (D : Nat → Bool) (σ : Env) : Agree D σ σ := fun _ _ => rfl
theorem Agree.upd {D : Nat → Bool} {σ σ₀ : Env} {d : Nat} {v : Value} (h : Agree D σ σ₀) (hd : D d = true) : Agree D (upd σ d v) σ₀ := by
  intro j hj
  unfold X.upd
  cases hb : Nat.beq j d
  · exact h j hj
  · rw [Nat.eq_of_beq_eq_true hb] at hj; rw [hj] at hd; cases hd
theorem Agree.mix {D D' : Nat → Bool} {τ σ σ₀ : Env} (h : Agree D σ σ₀) (hd : ∀ j, D' j = true → D j = true) : Agree D (mix D' τ σ) σ₀ := by
  intro j hj
  unfold X.mix
  cases hb : D' j
  · exact h j hj
  · have := hd j hb; rw [hj] at this; cases this
theorem Agree.mix' {D : Nat → Bool} {τ σ₀ : Env} : Agree D (X.mix D τ σ₀) σ₀ := Agree.mix (.refl _ _) fun _ h => h
def upds (σ : Env) : List (Nat × Value) → Env
  | [] => σ
  | (d, v) :: l => upd (upds σ l) d v
def AllEq (σ : Env) : List (Nat × Value) → Prop
  | [] => True
  | (d, v) :: l => σ d = v ∧ AllEq σ l
theorem upd_self {σ : Env} {d : Nat} {v : Value} (h : σ d = v) : upd σ d v = σ := by
  funext i; unfold upd
  cases hb : Nat.beq i d
  · rfl
  · rw [Nat.eq_of_beq_eq_true hb]; exact h.symm
theorem mix_self {D : Nat → Bool} {σ σ₀ : Env} (h : Agree D σ σ₀) : mix D σ σ₀ = σ := by
  funext i; unfold mix
  cases hb : D i
  · exact (h i hb).symm
  · rfl
def Fr (D : Nat → Bool) (σ₀ : Env) (l : List (Nat × Value)) (σ : Env) : Prop := ∃ τ, σ = upds (mix D τ σ₀) l
theorem Fr.mk {D : Nat → Bool} {σ σ₀ : Env} {l : List (Nat × Value)} (h : Agree D σ σ₀) (k : AllEq σ l) : Fr D σ₀ l σ := by
  refine ⟨σ, ?_⟩
  rw [mix_self h]
  induction l with
  | nil => rfl
  | cons p l ih =>
    obtain ⟨d, v⟩ := p
    show σ = upd (upds σ l) d v
    rw [← ih k.2, upd_self k.1]

theorem CW.loopF {C : Cfg} {N : Nat} {σ : Env} {w : World} {Q : Post} {x : Code} {X : Type} (D : Nat → Bool) (T : X → List (Nat × Value)) (I : X → World → Prop) (m : X → Nat) (g : X) (h0 : AllEq σ (T g)) (hI : I g w)
    (round : ∀ g τ w, I g w → CW C N x (upds (mix D τ σ) (T g)) w (thenQ (fun σ' w' => ∃ g', Agree D σ' σ ∧ AllEq σ' (T g') ∧ I g' w' ∧ m g' < m g) Q)) : CW C N (.loop x) σ w Q := by
  refine CW.loop (X := X) (fun g σ' w => Agree D σ' σ ∧ AllEq σ' (T g) ∧ I g w) m g ⟨.refl _ _, h0, hI⟩ ?_
  rintro g σ' w' ⟨h1, h2, h3⟩
  obtain ⟨τ, rfl⟩ := Fr.mk h1 h2
  refine (round g τ w' h3).mono ?_
  intro e σ'' w'' q
  cases e with
  | normal => obtain ⟨g', a, b, c, d⟩ := q; exact ⟨g', ⟨a, b, c⟩, d⟩
  | _ => exact q

theorem CW.join {C : Cfg} {N : Nat} {σ : Env} {w : World} {Q : Post} {x y : Code} {X : Type} (D : Nat → Bool) (T : X → List (Nat × Value)) (I : X → World → Prop)
    (h : CW C N x σ w (thenQ (fun σ' w' => ∃ g, Agree D σ' σ ∧ AllEq σ' (T g) ∧ I g w') Q)) (k : ∀ g τ w', I g w' → CW C N y (upds (mix D τ σ) (T g)) w' Q) : CW C N (.seq x y) σ w Q := by
  refine .seqD (h.mono ?_)
  intro e σ' w' q
  cases e with
  | normal =>
    obtain ⟨g, h1, h2, h3⟩ := q
    obtain ⟨τ, rfl⟩ := Fr.mk h1 h2
    exact k g τ w' h3
  | _ => exact q

theorem wrap64_id {n : Int} (h : -9223372036854775808 ≤ n) (h' : n ≤ 9223372036854775807) : IntKind.wrap .i64 n = n := by
  have e : IntKind.wrap .i64 n = if n % 18446744073709551616 ≥ 9223372036854775808 then n % 18446744073709551616 - 18446744073709551616 else n % 18446744073709551616 := by
    simp [IntKind.wrap, IntKind.bits, IntKind.signed]
  rw [e]
  split <;> omega
theorem wrapu32 (n : Int) : IntKind.wrap .u32 n = n % 4294967296 := by
  simp [IntKind.wrap, IntKind.signed, IntKind.bits]
theorem nat_succ {i n : Nat} (h : i < n) (hn : n ≤ 9223372036854775807) : Value.int .i64 (IntKind.wrap .i64 ((i : Int) + 1)) = .int .i64 ((i + 1 : Nat) : Int) := by
  rw [wrap64_id (by omega) (by omega)]; simp

def SlR (As : List HP) (v : Value) (sz n : Nat) (c : List Value) : Prop :=
  c.length = n * sz ∧ ∃ a cap, v = .slice a n cap ∧ n ≤ cap ∧ (n = 0 ∨ ∃ b off m E fr, a = some ⟨b, off, none⟩ ∧ Has As b (.cells m E fr) ∧ ∀ j, j < n * sz → m[off + j]? = c[j]?)
theorem SlR.tail {As : List HP} {A : HP} {v : Value} {sz n : Nat} {c : List Value} (h : SlR As v sz n c) : SlR (A :: As) v sz n c := by
  obtain ⟨h1, a, cap, e, hc, h2⟩ := h
  refine ⟨h1, a, cap, e, hc, ?_⟩
  rcases h2 with h2 | ⟨b, off, m, E, fr, h3, h4, h5⟩
  · exact .inl h2
  · exact .inr ⟨b, off, m, E, fr, h3, h4.tail, h5⟩
theorem SlR.perm {As Bs : List HP} {v : Value} {sz n : Nat} {c : List Value} (h : SlR As v sz n c) (p : Bs.Perm As) : SlR Bs v sz n c := by
  obtain ⟨h1, a, cap, e, hc, h2⟩ := h
  refine ⟨h1, a, cap, e, hc, ?_⟩
  rcases h2 with h2 | ⟨b, off, m, E, fr, h3, h4, h5⟩
  · exact .inl h2
  · exact .inr ⟨b, off, m, E, fr, h3, h4.perm p, h5⟩
theorem SlR.all {As : List HP} {v : Value} {sz n : Nat} {c : List Value} (h : SlR As v sz n c) : SlR [stars As] v sz n c := by
  obtain ⟨h1, a, cap, e, hc, h2⟩ := h
  refine ⟨h1, a, cap, e, hc, ?_⟩
  rcases h2 with h2 | ⟨b, off, m, E, fr, h3, h4, h5⟩
  · exact .inl h2
  · exact .inr ⟨b, off, m, E, fr, h3, h4.all, h5⟩
theorem SlR.of_blk {As : List HP} {b : Nat} {E : TypeId} {c r : List Value} {sz n cap : Nat} (h : c.length = n * sz) (hc : n ≤ cap) : SlR (blk b E (c ++ r) :: As) (.slice (some ⟨b, 0, none⟩) n cap) sz n c := by
  refine ⟨h, _, _, rfl, hc, .inr ⟨b, 0, _, E, _, rfl, Has.head, fun j hj => ?_⟩⟩
  rw [List.getElem?_toArray, Nat.zero_add, List.getElem?_append_left (by omega)]
theorem SlR.of_snap {As : List HP} {w0 : World} {b off : Nat} {m : Array Value} {E : TypeId} {fr : Nat × Nat} {c : List Value} {sz n cap : Nat} (h : c.length = n * sz) (hcap : n ≤ cap) (hb : w0.heap[b]? = some (.cells m E fr))
    (hc : ∀ j, j < n * sz → m[off + j]? = c[j]?) : SlR (snap w0 :: As) (.slice (some ⟨b, off, none⟩) n cap) sz n c :=
  ⟨h, _, _, rfl, hcap, .inr ⟨b, off, m, E, fr, rfl, Has.of_snap hb, hc⟩⟩
theorem SlR.nil_ {As : List HP} {sz cap : Nat} {a : Option Addr} : SlR As (.slice a 0 cap) sz 0 [] := ⟨by simp, _, _, rfl, Nat.zero_le _, .inl rfl⟩

section
variable {C : Cfg} {N : Nat} {gd : List (Option Nat)} {r : List Oper} {σ : Env} {w z : World} {Q : Env → World → Prop} {As : List HP} {x y : Operand} {d d' t : Nat} {ty ty' : TypeId} {pos pos' : String} {af af' : Array Edge} {g g' : Option (Nat × Bool)} {v : Value}
theorem lenW {sz n : Nat} {c : List Value} {sv : Value} (h : SlR As sv sz n c) : ∃ a cap, sv = .slice a n cap := by
  obtain ⟨_, a, cap, e, _, _⟩ := h; exact ⟨a, cap, e⟩
theorem OpsW.ixld {kd : IntKind} {i : Int} {n k : Nat} {c : List Value} {u : TypeId} {sv : Value} (H : Sat z w As) (h : SlR As sv 1 n c) (hg : wan gd σ g = some true) (hg' : ∀ p, wan gd (upd σ d p) g' = some true)
    (hx : ev σ x = sv) (hy : ev σ y = .int kd i) (hk : Nat.beq (C.T.kind.getD t 0) 4 = true) (he : Nat.blt 0 (C.T.kind.getD (C.T.elem.getD t 0) 0) = true)
    (hsz : C.T.size[C.T.elem.getD t 0]? = some 1) (hu : C.T.isAgg u = false) (hu0 : Nat.blt 0 (C.T.kind.getD u 0) = true) (hn : i = k) (hl : k < n) (hv : c[k]? = some v) (hd : Nat.blt d N = true) (hd' : Nat.blt d' N = true)
    (K : ∀ p, OpsW C N gd r (upd (upd σ d p) d' v) w Q) : OpsW C N gd (⟨some d, .indexAddr t x y, ty, pos, af, g⟩ :: ⟨some d', .load u (.tmp d), ty', pos', af', g'⟩ :: r) σ w Q := by
  obtain ⟨h1, a, cap, e, hcp, h2⟩ := h
  rcases h2 with h2 | ⟨b, off, m, E, fr, h3, h4, h5⟩
  · omega
  · subst e h3
    refine .ix hg hx hy hk he hsz hn hl hd ?_
    refine .ldh (H.has h4) (hg' _) (by simp only [ev, upd]; rw [Nat.beq_refl]; rfl) hu hu0 ?_ hd' (K _)
    rw [Nat.mul_one, h5 k (by omega), hv]
theorem OpsW.ixldA {kd : IntKind} {i : Int} {n k sz : Nat} {c vs : List Value} {u : TypeId} {sv : Value} (H : Sat z w As) (h : SlR As sv sz n c) (hg : wan gd σ g = some true) (hg' : ∀ p, wan gd (upd σ d p) g' = some true)
    (hx : ev σ x = sv) (hy : ev σ y = .int kd i) (hk : Nat.beq (C.T.kind.getD t 0) 4 = true) (he : Nat.blt 0 (C.T.kind.getD (C.T.elem.getD t 0) 0) = true)
    (hsz : C.T.size[C.T.elem.getD t 0]? = some sz) (hu : C.T.isAgg u = true) (hus : C.T.size.getD u 0 = sz) (hn : i = k) (hl : k < n) (hv : (c.drop (k * sz)).take sz = vs) (hd : Nat.blt d N = true) (hd' : Nat.blt d' N = true)
    (K : ∀ p, OpsW C N gd r (upd (upd σ d p) d' (.agg vs.toArray)) w Q) : OpsW C N gd (⟨some d, .indexAddr t x y, ty, pos, af, g⟩ :: ⟨some d', .load u (.tmp d), ty', pos', af', g'⟩ :: r) σ w Q := by
  obtain ⟨h1, a, cap, e, hcp, h2⟩ := h
  rcases h2 with h2 | ⟨b, off, m, E, fr, h3, h4, h5⟩
  · omega
  · subst e h3
    have hle : (k + 1) * sz ≤ n * sz := Nat.mul_le_mul_right _ hl
    have hle' : k * sz + sz ≤ n * sz := by rw [← Nat.succ_mul]; exact hle
    refine .ix hg hx hy hk he hsz hn hl hd ?_
    refine .ldAh (H.has h4) (hg' _) (by simp only [ev, upd]; rw [Nat.beq_refl]; rfl) hu ?_ ?_ hd' (K _)
    · rw [← hv, hus, List.length_take, List.length_drop]; omega
    · intro j v hj
      rw [← hv, List.getElem?_take] at hj
      split at hj
      · rw [List.getElem?_drop] at hj
        rw [Nat.add_assoc, h5 _ (by omega)]; exact hj
      · cases hj
end
end Go.Proofs.YtbmfpkpcljihgaaDoor.X
namespace Go.Proofs.YtbmfpkpcljihgaaDoor.X
open Go
set_option linter.unusedSimpArgs false
set_option linter.unusedVariables false
section
variable {C : Cfg} {N : Nat} {gd : List (Option Nat)} {r : List Oper} {σ : Env} {w z : World} {Q : Env → World → Prop} {As : List HP} {x y : Operand} {d t : Nat} {ty yt : TypeId} {pos : String} {af : Array Edge} {g : Option (Nat × Bool)} {v : Value} {kd yk : IntKind} {a b : Int}
theorem guard_int (P : Program) (op : BinOp) (t : TypeId) (x y : Operand) (k k' : IntKind) (a b : Int) (w : World) : (eqGuard op t x y (.int k a) (.int k' b)).run P w = .ok () w :=
  guard_noneq P w (.inl (by intro e; cases e)) (by intro c e; cases e)
theorem OpsW.quo (hg : wan gd σ g = some true) (hx : ev σ x = .int kd a) (hy : ev σ y = .int kd b) (hb : b ≠ 0) (hd : Nat.blt d N = true)
    (k : OpsW C N gd r (upd σ d (.int kd (kd.wrap (a.tdiv b)))) w Q) : OpsW C N gd (⟨some d, .binOp .quo t x y yt, ty, pos, af, g⟩ :: r) σ w Q := by
  refine .val (v := .int kd (kd.wrap (a.tdiv b))) (w' := w) hg (run_v ?_) (by simp only [putE, hd]) k
  rw [hx, hy, X.run_bind _ _ _ _ _ _ (guard_int ..)]
  simp [binOp, Op.intDiv, hb]
theorem OpsW.rem (hg : wan gd σ g = some true) (hx : ev σ x = .int kd a) (hy : ev σ y = .int kd b) (hb : b ≠ 0) (hd : Nat.blt d N = true)
    (k : OpsW C N gd r (upd σ d (.int kd (a.tmod b))) w Q) : OpsW C N gd (⟨some d, .binOp .rem t x y yt, ty, pos, af, g⟩ :: r) σ w Q := by
  refine .val (v := .int kd (a.tmod b)) (w' := w) hg (run_v ?_) (by simp only [putE, hd]) k
  rw [hx, hy, X.run_bind _ _ _ _ _ _ (guard_int ..)]
  simp [binOp, Op.intDiv, hb]
theorem OpsW.shl (hg : wan gd σ g = some true) (hx : ev σ x = .int kd a) (hy : ev σ y = .int yk b) (hb : 0 ≤ b) (hd : Nat.blt d N = true)
    (k : OpsW C N gd r (upd σ d (.int kd (kd.wrap (a * 2 ^ min b.toNat kd.bits)))) w Q) : OpsW C N gd (⟨some d, .binOp .shl t x y yt, ty, pos, af, g⟩ :: r) σ w Q := by
  refine .val (v := .int kd (kd.wrap (a * 2 ^ min b.toNat kd.bits))) (w' := w) hg (run_v ?_) (by simp only [putE, hd]) k
  rw [hx, hy, X.run_bind _ _ _ _ _ _ (guard_int ..)]
  simp [binOp, Op.shift, show ¬ b < 0 by omega]
theorem OpsW.shr (hg : wan gd σ g = some true) (hx : ev σ x = .int kd a) (hy : ev σ y = .int yk b) (hb : 0 ≤ b) (hd : Nat.blt d N = true)
    (k : OpsW C N gd r (upd σ d (.int kd (a.fdiv (2 ^ min b.toNat kd.bits)))) w Q) : OpsW C N gd (⟨some d, .binOp .shr t x y yt, ty, pos, af, g⟩ :: r) σ w Q := by
  refine .val (v := .int kd (a.fdiv (2 ^ min b.toNat kd.bits))) (w' := w) hg (run_v ?_) (by simp only [putE, hd]) k
  rw [hx, hy, X.run_bind _ _ _ _ _ _ (guard_int ..)]
  simp [binOp, Op.shift, show ¬ b < 0 by omega]
end
def repl : Nat → List Value → List Value
  | 0, _ => []
  | n + 1, z => z ++ repl n z
theorem repl_length (n : Nat) (z : List Value) : (repl n z).length = n * z.length := by
  induction n with
  | zero => simp [repl]
  | succ n ih => simp [repl, ih, Nat.succ_mul]; omega
theorem repl_get (n : Nat) (z : List Value) : ∀ i, i < n * z.length → (repl n z)[i]? = z[i % z.length]? := by
  induction n with
  | zero => intro i h; simp at h
  | succ n ih =>
    intro i h
    simp only [repl]
    by_cases hi : i < z.length
    · rw [List.getElem?_append_left hi, Nat.mod_eq_of_lt hi]
    · rw [List.getElem?_append_right (by omega), ih _ (by rw [Nat.succ_mul] at h; omega)]
      rw [← Nat.mod_eq_sub_mod (by omega)]
theorem range_repl (n : Nat) (z : Array Value) : (Array.range (n * z.size)).map (fun i => z[i % z.size]!) = (repl n z.toList).toArray := by
  apply Array.ext'
  apply List.ext_getElem?
  intro i
  simp only [Array.toList_map, Array.toList_range, List.getElem?_map]
  by_cases hi : i < n * z.size
  · rw [List.getElem?_range hi, repl_get n z.toList i (by simpa using hi)]
    have hz : 0 < z.size := by
      cases h : z.size with
      | zero => rw [h] at hi; simp at hi
      | succ k => omega
    have hm : i % z.size < z.size := Nat.mod_lt _ hz
    simp [hm]
  · rw [List.getElem?_eq_none (by simpa using hi), List.getElem?_eq_none (by rw [repl_length]; simpa using hi)]; rfl
section
variable {C : Cfg} {N : Nat} {gd : List (Option Nat)} {r : List Oper} {σ : Env} {w z : World} {Q : Env → World → Prop} {As : List HP} {x y : Operand} {d t : Nat} {ty yt : TypeId} {pos : String} {af : Array Edge} {g : Option (Nat × Bool)} {v : Value}
theorem zeroV_cells {T : Tab} {P : Program} (hT : T.ok P = true) {t k : Nat} (hk : T.kind.getD t 0 = k) (h0 : k ≠ 0) : (T.zeroV t).cells = (T.zero.getD t []).toArray := by
  obtain ⟨i, dd, hi, hd, hs, hz, k2⟩ := Tab.at_ hT hk h0
  have ha : T.isAgg t = (k == 5 || k == 6) := by
    unfold Tab.isAgg; rw [hk]
    split
    · simp
    · simp
    · rename_i n5 n6
      have a5 : (k == 5) = false := by simpa using n5
      have a6 : (k == 6) = false := by simpa using n6
      rw [a5, a6]; rfl
  unfold Tab.zeroV
  rw [ha]
  unfold okZero at hz
  split at hz
  · rename_i c e1 e2; rw [e2]; rfl
  · split at hz
    · rename_i bb v e2 e3 ll u e4
      rw [e3]
      simp only [e4]
      have := veq_eq hz
      subst this
      cases v <;> first | rfl | skip
      all_goals (simp [veq] at hz)
    · cases hz
  · cases hz
theorem OpsW.bsl {len : Nat} {parts : Array (Nat × Operand)} {l : List Value} {sz : Nat} (H : Sat z w As) (hg : wan gd σ g = some true) (hk : Nat.beq (C.T.kind.getD t 0) 4 = true) (he : Nat.blt 0 (C.T.kind.getD (C.T.elem.getD t 0) 0) = true)
    (hsz : C.T.size[C.T.elem.getD t 0]? = some sz) (hsz1 : (C.T.zero.getD (C.T.elem.getD t 0) []).length = sz) (hm : Nat.ble (len * sz) 1000 = true)
    (hf : fillK (fun i => some (i * sz, sz)) (repl len (C.T.zero.getD (C.T.elem.getD t 0) [])) (mapP σ parts.toList) = some (.agg l.toArray)) (hd : Nat.blt d N = true)
    (k : ∀ b w', Sat z w' (blk b (C.T.elem.getD t 0) l :: As) → OpsW C N gd r (upd σ d (.slice (some ⟨b, 0, none⟩) len len)) w' Q) : OpsW C N gd (⟨some d, .buildSlice t len parts, ty, pos, af, g⟩ :: r) σ w Q := by
  have hu := Tab.slice_ C.ok (Nat.eq_of_beq_eq_true hk)
  have he0 : C.T.kind.getD (C.T.elem.getD t 0) 0 ≠ 0 := by have := Nat.le_of_ble_eq_true he; omega
  obtain ⟨i, hi, hs, hz⟩ := Tab.zero_ C.ok (rfl : C.T.kind.getD (C.T.elem.getD t 0) 0 = _) he0
  have hzc := zeroV_cells C.ok (rfl : C.T.kind.getD (C.T.elem.getD t 0) 0 = _) he0
  have hs' : C.T.size.getD (C.T.elem.getD t 0) 0 = sz := by rw [List.getD_eq_getElem?_getD, hsz]; rfl
  have hm' := Nat.le_of_ble_eq_true hm
  obtain ⟨c, hc, e⟩ := fill_run _ _ _ _ hf
  simp only [Value.agg.injEq] at e
  subst e
  have hp : (parts.map (fun (p : Nat × Operand) => ((p.1, ev σ p.2) : Nat × Value))).toList = mapP σ parts.toList := by rw [mapP_eq, Array.toList_map]
  refine .val (v := .slice (some ⟨w.heap.size, 0, none⟩) len len) (w' := { w with heap := w.heap.push (.cells l.toArray (C.T.elem.getD t 0)) }) hg (run_v ?_) (by simp only [putE, hd]) (k w.heap.size _ (H.new _ l))
  rw [Instr.buildSlice, X.run_bind _ _ _ _ _ _ (run_und hu w)]
  dsimp only
  rw [X.run_bind _ _ _ _ _ _ (run_sizeOf hi w), hs, hs', if_neg (by omega)]
  by_cases h0 : len * sz = 0
  · rw [if_pos h0]
    have e0 : (Array.range (len * sz)).map (fun i => (#[] : Array Value)[i % (#[] : Array Value).size]!) = (repl len (C.T.zero.getD (C.T.elem.getD t 0) [])).toArray := by
      rw [h0]
      have : (repl len (C.T.zero.getD (C.T.elem.getD t 0) [])).length = 0 := by rw [repl_length, hsz1]; exact h0
      rw [List.length_eq_zero_iff.1 this]; simp
    show (match Instr.fill (fun i => some (i * sz, sz)) ((Array.range (len * sz)).map (fun i => (#[] : Array Value)[i % (#[] : Array Value).size]!)) ((parts.map (fun (p : Nat × Operand) => ((p.1, ev σ p.2) : Nat × Value))).toList) with | some cells => (newRow (C.T.elem.getD t 0) cells >>= fun a => pure (Value.slice (some a) len len)) | _ => stuck "buildSlice: a part of the wrong size").run C.P w = _
    rw [e0, hp, hc]
    rfl
  · rw [if_neg h0]
    refine (X.run_bind _ _ _ _ _ _ (run_zeroValue hi hz w)).trans ?_
    have e0 : (Array.range (len * sz)).map (fun i => (C.T.zero.getD (C.T.elem.getD t 0) []).toArray[i % (C.T.zero.getD (C.T.elem.getD t 0) []).toArray.size]!) = (repl len (C.T.zero.getD (C.T.elem.getD t 0) [])).toArray := by
      have h2 := range_repl len (C.T.zero.getD (C.T.elem.getD t 0) []).toArray
      have e3 : (C.T.zero.getD (C.T.elem.getD t 0) []).toArray.size = sz := by rw [List.size_toArray]; exact hsz1
      rw [e3] at h2
      rw [e3]
      exact h2
    rw [hzc]
    show (match Instr.fill (fun i => some (i * sz, sz)) ((Array.range (len * sz)).map (fun i => (C.T.zero.getD (C.T.elem.getD t 0) []).toArray[i % (C.T.zero.getD (C.T.elem.getD t 0) []).toArray.size]!)) ((parts.map (fun (p : Nat × Operand) => ((p.1, ev σ p.2) : Nat × Value))).toList) with | some cells => (newRow (C.T.elem.getD t 0) cells >>= fun a => pure (Value.slice (some a) len len)) | _ => stuck "buildSlice: a part of the wrong size").run C.P w = _
    rw [e0, hp, hc]
    rfl
theorem SlR.sub {n l h sz cap : Nat} {c : List Value} {a : Option Addr} (hs : SlR As (.slice a n cap) sz n c) (h1 : l ≤ h) (h2 : h ≤ n) :
    SlR As (.slice (if cap = l then a else a.map (·.add (l * sz))) (h - l) (cap - l)) sz (h - l) ((c.drop (l * sz)).take ((h - l) * sz)) := by
  obtain ⟨e1, a', cap', e, hc, h3⟩ := hs
  simp only [Value.slice.injEq] at e
  obtain ⟨rfl, -, rfl⟩ := e
  have hm : h * sz ≤ n * sz := Nat.mul_le_mul_right _ h2
  have hm2 : l * sz ≤ h * sz := Nat.mul_le_mul_right _ h1
  refine ⟨?_, _, _, rfl, by omega, ?_⟩
  · rw [List.length_take, List.length_drop, e1, Nat.sub_mul]; omega
  by_cases h0 : h - l = 0
  · exact .inl h0
  · right
    rcases h3 with h3 | ⟨b, off, m, E, fr, h3, h4, h5⟩
    · omega
    · refine ⟨b, off + l * sz, m, E, fr, ?_, h4, fun j hj => ?_⟩
      · rw [if_neg (by omega), h3]; simp [add_off]
      · rw [Nat.add_assoc, h5 _ (by rw [Nat.sub_mul] at hj; omega), List.getElem?_take, if_pos hj, List.getElem?_drop]
variable {n k kk sz : Nat} {i : Int} {c : List Value} {sv : Value} {kd : IntKind}
end
end Go.Proofs.YtbmfpkpcljihgaaDoor.X
namespace Go.Proofs.YtbmfpkpcljihgaaDoor.X
open Go
set_option linter.unusedSimpArgs false
set_option linter.unusedVariables false
def bef1 (acc : List Nat) (o : Oper) : Nat := o.after.toList.foldl (fun s e => if Region.binds .any e then s ||| 2 ^ e.on ||| acc.getD e.on 0 else s) 0
def befs : List Nat → List Oper → List Nat
  | acc, [] => acc
  | acc, o :: l => befs (acc ++ [bef1 acc o]) l
def dsts (l : List Oper) : List (Option Nat) := l.map (·.dst)
def drawOk (l : List Oper) (B : List Nat) : Bool :=
  decide (befs [] l = B) && (List.range l.length).all (fun i => match l[i]? with
    | some o => o.after.toList.all fun e => !Region.binds .any e || Nat.blt e.on i
    | none => true)
def segOk (l : List Oper) (B : List Nat) (k m : Nat) : Bool :=
  Nat.ble k m && Nat.ble m l.length &&
  (List.range l.length).all (fun i => (Nat.blt i m) || (List.range m).all fun j => Nat.blt j k || Nat.testBit (B.getD i 0) j) &&
  (List.range m).all (fun i => Nat.blt i k || (List.range m).all fun j => Nat.blt j k || Nat.beq i j || (match (l[i]?).bind (·.dst), (l[j]?).bind (·.dst) with | some a, some b => !Nat.beq a b | _, _ => true))

theorem befs_pre (l : List Oper) : ∀ acc i, i < acc.length → (befs acc l)[i]? = acc[i]? := by
  induction l with
  | nil => intro acc i _; rfl
  | cons o l ih => intro acc i h; rw [befs, ih _ _ (by simp; omega), List.getElem?_append_left h]
theorem foldl_or {l : List Edge} {acc : List Nat} {j : Nat} : ∀ s, Nat.testBit (l.foldl (fun s e => if Region.binds .any e then s ||| 2 ^ e.on ||| acc.getD e.on 0 else s) s) j = true →
    Nat.testBit s j = true ∨ ∃ e ∈ l, Region.binds .any e = true ∧ (e.on = j ∨ Nat.testBit (acc.getD e.on 0) j = true) := by
  induction l with
  | nil => intro s h; exact .inl h
  | cons e l ih =>
    intro s h
    rw [List.foldl_cons] at h
    rcases ih _ h with h | ⟨e', h1, h2⟩
    · split at h
      · rename_i hb
        simp only [Nat.testBit_or, Bool.or_eq_true] at h
        rcases h with (h | h) | h
        · exact .inl h
        · right; refine ⟨e, List.mem_cons_self .., hb, .inl ?_⟩
          rw [Nat.testBit_two_pow] at h; simpa using h
        · exact .inr ⟨e, List.mem_cons_self .., hb, .inr h⟩
      · exact .inl h
    · exact .inr ⟨e', List.mem_cons_of_mem _ h1, h2⟩
theorem befs_bit (l : List Oper) : ∀ acc i o j, l[i]? = some o → (∀ e ∈ o.after.toList, Region.binds .any e = true → e.on < acc.length + i) → Nat.testBit ((befs acc l).getD (acc.length + i) 0) j = true →
    ∃ e ∈ o.after.toList, Region.binds .any e = true ∧ (e.on = j ∨ Nat.testBit ((befs acc l).getD e.on 0) j = true) := by
  induction l with
  | nil => intro acc i o j h; simp at h
  | cons o l ih =>
    intro acc i o' j h he ht
    cases i with
    | zero =>
      simp only [List.getElem?_cons_zero, Option.some.injEq] at h
      subst h
      rw [befs, List.getD_eq_getElem?_getD, befs_pre _ _ _ (by simp)] at ht
      simp only [Nat.add_zero, List.getElem?_append_right (Nat.le_refl _), Nat.sub_self, List.getElem?_cons_zero, Option.getD_some] at ht
      rcases foldl_or 0 ht with h0 | ⟨e, h1, h2, h3⟩
      · simp at h0
      · refine ⟨e, h1, h2, ?_⟩
        rcases h3 with h3 | h3
        · exact .inl h3
        · right
          have := he e h1 h2
          rw [List.getD_eq_getElem?_getD] at h3 ⊢
          rw [befs, befs_pre _ _ _ (by simp; omega), List.getElem?_append_left (by omega)]; exact h3
    | succ i =>
      simp only [List.getElem?_cons_succ] at h
      rw [befs] at ht ⊢
      have e1 : acc.length + (i + 1) = (acc ++ [bef1 acc o]).length + i := by simp; omega
      rw [e1] at ht
      exact ih _ i o' j h (fun e h1 h2 => by have := he e h1 h2; simp; omega) ht

def updIf (b : Bool) (σ : Env) (d : Nat) (v : Value) : Env := fun s => bif Nat.beq s d && b then v else σ s
theorem updIf_eq (b : Bool) (σ : Env) (d : Nat) (v : Value) : updIf b σ d v = bif b then upd σ d v else σ := by
  funext s
  unfold updIf
  cases b
  · rw [Bool.and_false]; rfl
  · rw [Bool.and_true]; rfl
def knownE (m k : Nat) : Nat → List (Option Nat × Value) → Env → Env
  | _, [], σ => σ
  | j, (some d, v) :: r, σ => knownE m k (j + 1) r (updIf (Nat.testBit m j) σ d v)
  | j, (none, _) :: r, σ => knownE m k (j + 1) r σ
theorem knownE_eq (m k j d : Nat) (v : Value) (r : List (Option Nat × Value)) (σ : Env) : knownE m k j ((some d, v) :: r) σ = knownE m k (j + 1) r (bif Nat.testBit m j then upd σ d v else σ) := by
  rw [← updIf_eq]; rfl
def unkB (l : List (Option Nat)) (B : List Nat) (k m i s : Nat) : Bool :=
  (List.range m).any fun j => !Nat.blt j k && !Nat.beq j i && (match l.getD j none with | some d => Nat.beq d s | none => false) && !(Nat.testBit (B.getD j 0) i) && !(Nat.blt j i && Nat.testBit (B.getD i 0) j)
def envAt (l : List (Option Nat)) (B : List Nat) (k m i : Nat) (done : List (Option Nat × Value)) (τ σ : Env) : Env :=
  knownE (B.getD i 0) k k done (mix (unkB l B k m i) τ σ)
theorem knownE_spec (m k : Nat) (s : Nat) : ∀ (done : List (Option Nat × Value)) (j : Nat) (σ : Env),
    (∃ i v, done[i]? = some (some s, v) ∧ Nat.testBit m (j + i) = true ∧ knownE m k j done σ s = v) ∨ (knownE m k j done σ s = σ s ∧ ∀ i v, done[i]? = some (some s, v) → Nat.testBit m (j + i) = false) := by
  intro done
  induction done with
  | nil => intro j σ; right; exact ⟨rfl, by simp⟩
  | cons p r ih =>
    intro j σ
    obtain ⟨d, v⟩ := p
    cases d with
    | none =>
      rcases ih (j + 1) σ with ⟨i, u, h1, h2, h3⟩ | ⟨h1, h2⟩
      · exact .inl ⟨i + 1, u, by simpa using h1, by rw [← h2]; congr 1; omega, by first | exact h3 | (rw [knownE_eq]; exact h3)⟩
      · refine .inr ⟨h1, fun i u hi => ?_⟩
        cases i with
        | zero => simp at hi
        | succ i => have := h2 i u (by simpa using hi); rw [← this]; congr 1; omega
    | some d =>
      rcases ih (j + 1) (bif Nat.testBit m j then upd σ d v else σ) with ⟨i, u, h1, h2, h3⟩ | ⟨h1, h2⟩
      · exact .inl ⟨i + 1, u, by simpa using h1, by rw [← h2]; congr 1; omega, by first | exact h3 | (rw [knownE_eq]; exact h3)⟩
      · cases hb : Nat.testBit m j
        · refine .inr ⟨?_, fun i u hi => ?_⟩
          · rw [knownE_eq, h1, hb]; rfl
          · cases i with
            | zero => simpa using hb
            | succ i => have := h2 i u (by simpa using hi); rw [← this]; congr 1; omega
        · by_cases hd : s = d
          · subst hd
            refine .inl ⟨0, v, rfl, by simpa using hb, ?_⟩
            rw [knownE_eq, h1, hb]
            show upd σ s v s = v
            unfold upd; rw [Nat.beq_refl]; rfl
          · refine .inr ⟨?_, fun i u hi => ?_⟩
            · rw [knownE_eq, h1, hb]
              show upd σ d v s = σ s
              unfold upd
              have : Nat.beq s d = false := by
                cases h : Nat.beq s d
                · rfl
                · exact absurd (Nat.eq_of_beq_eq_true h) hd
              rw [this]; rfl
            · cases i with
              | zero => simp at hi; exact absurd hi.1.symm hd
              | succ i => have := h2 i u (by simpa using hi); rw [← this]; congr 1; omega

def pref (n k : Nat) : Array Bool := (List.replicate k true ++ List.replicate (n - k) false).toArray
def AnyW (C : Cfg) (N : Nat) (l : List Oper) (B : List Nat) (k : Nat) (σ : Env) (w : World) (Q : Env → World → Prop) : Prop :=
  ∀ (a : Act) (Q' : Exit → Act → World → Prop), Rel N a σ → (∀ a' σ' w', Rel N a' σ' → Q σ' w' → Q' .normal a' w') →
    wpAny C.P .any l.toArray Q' (l.length - k) (pref l.length k) a w
section
variable {C : Cfg} {N : Nat} {σ : Env} {w : World} {l : List Oper} {B : List Nat}
theorem pref_get (n k i : Nat) (hk : k ≤ n) : (pref n k).getD i true = (decide (i < k) || !decide (i < n)) := by
  unfold pref
  rw [Array.getD_eq_getD_getElem?, List.getElem?_toArray]
  by_cases h : i < k
  · rw [List.getElem?_append_left (by simpa using h)]; simp [h]
  · rw [List.getElem?_append_right (by simpa using h)]
    simp [List.getElem?_replicate, h]
    split
    · rename_i h2; simp; omega
    · rename_i h2; simp; omega
theorem ready_mem {ops : Array Oper} {listed : Array Bool} {i : Nat} (h : i ∈ Region.ready .any ops listed) : i < ops.size ∧ listed.getD i true = false ∧ ∀ o, ops[i]? = some o → ∀ e ∈ o.after.toList, Region.binds .any e = true → listed.getD e.on false = true := by
  unfold Region.ready at h
  simp only [List.mem_filter, List.mem_range, Bool.and_eq_true, Bool.not_eq_true'] at h
  refine ⟨h.1, h.2.1, fun o ho e he hb => ?_⟩
  have := h.2.2
  rw [ho] at this
  simp only [Option.map_some, Option.getD_some] at this
  have h2 := Array.all_eq_true_iff_forall_mem.1 this e (Array.mem_toList_iff.1 he)
  simpa [hb] using h2
theorem mem_ready {ops : Array Oper} {listed : Array Bool} {i : Nat} {o : Oper} (hi : ops[i]? = some o) (h1 : listed.getD i true = false) (h2 : ∀ e ∈ o.after.toList, Region.binds .any e = true → listed.getD e.on false = true) : i ∈ Region.ready .any ops listed := by
  unfold Region.ready
  simp only [List.mem_filter, List.mem_range, Bool.and_eq_true, Bool.not_eq_true']
  refine ⟨(Array.getElem?_eq_some_iff.1 hi).1, h1, ?_⟩
  rw [hi]
  simp only [Option.map_some, Option.getD_some]
  refine Array.all_eq_true_iff_forall_mem.2 fun e he => ?_
  cases hb : Region.binds .any e
  · rfl
  · simpa using h2 e (Array.mem_toList_iff.2 he) hb

theorem wpOp_of {ops : Array Oper} {i : Nat} {o : Oper} {a : Act} {K : Act → World → Prop} {Q' : Exit → Act → World → Prop} {Q : Env → World → Prop} (ho : ops[i]? = some o) (R : Rel N a σ)
    (h : OpsW C N (ops.toList.map (·.dst)) [o] σ w Q) (k : ∀ a' σ' w', Rel N a' σ' → Q σ' w' → K a' w') : wpOp C.P ops Q' i K a w := by
  have h1 := h ops [i] a (fun e a' w' => match e with | .normal => K a' w' | e => Q' e a' w') (by simp [ho]) rfl R (fun a' σ' w' R' q => k a' σ' w' R' q)
  rw [wpOps_cons] at h1
  unfold wpOp at h1 ⊢
  simp only [ho] at h1 ⊢
  split
  · rename_i hw
    simp only [hw, if_true] at h1
    rcases h1 with h1 | ⟨h1, a0, w0, h2⟩
    · left
      unfold Oper.wp at h1 ⊢
      generalize (execOp a.eval o).run C.P w = res at *
      cases res with
      | ok n w' =>
        cases n <;> simp only [Oper.upon] at h1 ⊢ <;>
          first
            | exact h1
            | exact Calls.mono h1 (fun e w'' he => by cases e <;> first | exact he | (obtain ⟨a0, w0, h2⟩ := he; exact ⟨a0, w0, h2⟩))
            | exact Rows.mono h1 (fun _ _ he => he)
      | halt x w' => cases x <;> simp only [Oper.upon] at h1 ⊢ <;> exact h1
    · exact .inr ⟨h1, a0, w0, h2⟩
  · rename_i hw
    simp only [hw] at h1
    exact h1
theorem drawOk_at (h : drawOk l B = true) : befs [] l = B ∧ ∀ i o, l[i]? = some o → ∀ e ∈ o.after.toList, Region.binds .any e = true → e.on < i := by
  unfold drawOk at h
  simp only [Bool.and_eq_true, decide_eq_true_eq] at h
  refine ⟨h.1, fun i o ho e he hb => ?_⟩
  have := List.all_eq_true.1 h.2 i (List.mem_range.2 (List.getElem?_eq_some_iff.1 ho).1)
  rw [ho] at this
  have := List.all_eq_true.1 this e he
  simp only [hb, Bool.not_true, Bool.false_or] at this
  exact Nat.le_of_ble_eq_true this
theorem bit_of (h : drawOk l B = true) {i : Nat} {o : Oper} (ho : l[i]? = some o) {j : Nat} (hj : Nat.testBit (B.getD i 0) j = true) :
    ∃ e ∈ o.after.toList, Region.binds .any e = true ∧ (e.on = j ∨ Nat.testBit (B.getD e.on 0) j = true) := by
  obtain ⟨h1, h2⟩ := drawOk_at h
  have := befs_bit l [] i o j ho (fun e he hb => by have := h2 i o ho e he hb; simpa using this) (by rw [h1]; simpa using hj)
  rw [h1] at this; exact this
theorem bit_lt (h : drawOk l B = true) : ∀ i o, l[i]? = some o → ∀ j, Nat.testBit (B.getD i 0) j = true → j < i := by
  intro i
  induction i using Nat.strongRecOn with
  | _ i ih =>
    intro o ho j hj
    obtain ⟨e, he, hb, h1⟩ := bit_of h ho hj
    have hlt := (drawOk_at h).2 i o ho e he hb
    rcases h1 with rfl | h1
    · exact hlt
    · have hl : e.on < l.length := by have := (List.getElem?_eq_some_iff.1 ho).1; omega
      have := ih e.on hlt _ (List.getElem?_eq_getElem hl) j h1
      omega

def knownR (m : Nat) : Nat → List (Option Nat × Value) → Env → Env
  | _, [], σ => σ
  | i, (some d, v) :: r, σ => updIf (Nat.testBit m (i - 1)) (knownR m (i - 1) r σ) d v
  | i, (none, _) :: r, σ => knownR m (i - 1) r σ
theorem knownE_snoc (m k d : Nat) (v : Value) : ∀ (l : List (Option Nat × Value)) (j : Nat) (σ : Env), knownE m k j (l ++ [(some d, v)]) σ = updIf (Nat.testBit m (j + l.length)) (knownE m k j l σ) d v
  | [], j, σ => rfl
  | (some d', v') :: l, j, σ => by
    rw [List.length_cons, show j + (l.length + 1) = j + 1 + l.length by omega]
    exact knownE_snoc m k d v l (j + 1) _
  | (none, v') :: l, j, σ => by
    rw [List.length_cons, show j + (l.length + 1) = j + 1 + l.length by omega]
    exact knownE_snoc m k d v l (j + 1) _
theorem knownE_snoc0 (m k : Nat) (v : Value) : ∀ (l : List (Option Nat × Value)) (j : Nat) (σ : Env), knownE m k j (l ++ [(none, v)]) σ = knownE m k j l σ
  | [], j, σ => rfl
  | (some d', v') :: l, j, σ => knownE_snoc0 m k v l (j + 1) _
  | (none, v') :: l, j, σ => knownE_snoc0 m k v l (j + 1) _
theorem knownR_eq (m k j : Nat) (σ : Env) : ∀ r : List (Option Nat × Value), knownR m (j + r.length) r σ = knownE m k j r.reverse σ
  | [] => rfl
  | (some d, v) :: r => by
    rw [List.reverse_cons, knownE_snoc, List.length_reverse, ← knownR_eq m k j σ r]
    show updIf (Nat.testBit m (j + (r.length + 1) - 1)) (knownR m (j + (r.length + 1) - 1) r σ) d v = _
    rw [show j + (r.length + 1) - 1 = j + r.length by omega]
  | (none, v) :: r => by
    rw [List.reverse_cons, knownE_snoc0, ← knownR_eq m k j σ r]
    show knownR m (j + (r.length + 1) - 1) r σ = _
    rw [show j + (r.length + 1) - 1 = j + r.length by omega]
def envR (l : List (Option Nat)) (B : List Nat) (k m i : Nat) (done : List (Option Nat × Value)) (τ σ : Env) : Env :=
  knownR (B.getD i 0) i done (mix (unkB l B k m i) τ σ)
theorem envR_eq {l : List (Option Nat)} {B : List Nat} {k m i : Nat} {done : List (Option Nat × Value)} {τ σ : Env} (h : i = k + done.length) : envR l B k m i done τ σ = envAt l B k m i done.reverse τ σ := by
  unfold envR envAt
  rw [← knownR_eq, ← h]
def DrawP (C : Cfg) (N : Nat) (l : List Oper) (B : List Nat) (k m : Nat) (z : World) (As : List HP) (σ0 : Env) (K : Env → World → Prop) : Nat → List (Option Nat × Value) → Env → List Oper → Prop
  | _, _, acc, [] => ∀ w, Sat z w As → K acc w
  | i, done, acc, o :: r => ∃ d v, o.dst = some d ∧ (∀ τ w, Sat z w As → OpsW C N (dsts l) [o] (envR (dsts l) B k m i done τ σ0) w fun σ' w' => σ' = upd (envR (dsts l) B k m i done τ σ0) d v ∧ Sat z w' As) ∧
      DrawP C N l B k m z As σ0 K (i + 1) ((some d, v) :: done) (upd acc d v) r
theorem DrawP.nil {k m i : Nat} {z : World} {As : List HP} {σ0 acc : Env} {K : Env → World → Prop} {done : List (Option Nat × Value)} (h : ∀ w, Sat z w As → K acc w) : DrawP C N l B k m z As σ0 K i done acc [] := h
theorem DrawP.cons {k m i d : Nat} {z : World} {As : List HP} {σ0 acc : Env} {K : Env → World → Prop} {done : List (Option Nat × Value)} {o : Oper} {r : List Oper} {v : Value} (hd : o.dst = some d)
    (h : ∀ τ w, Sat z w As → OpsW C N (dsts l) [o] (envR (dsts l) B k m i done τ σ0) w fun σ' w' => σ' = upd (envR (dsts l) B k m i done τ σ0) d v ∧ Sat z w' As)
    (k' : DrawP C N l B k m z As σ0 K (i + 1) ((some d, v) :: done) (upd acc d v) r) : DrawP C N l B k m z As σ0 K i done acc (o :: r) := ⟨d, v, hd, h, k'⟩
theorem DrawP.go {k m i : Nat} {z : World} {As : List HP} {σ0 acc : Env} {K : Env → World → Prop} {done : List (Option Nat × Value)} {o : Oper} {r : List Oper} (h : DrawP C N l B k m z As σ0 K i done acc (o :: r)) : DrawP C N l B k m z As σ0 K i done acc (o :: r) := h
theorem DrawP.goNe {k m i : Nat} {z : World} {As : List HP} {σ0 acc : Env} {K : Env → World → Prop} {done : List (Option Nat × Value)} {r : List Oper} {d t yt : Nat} {x y : Operand} {ty : TypeId} {pos : String} {af : Array Edge} {g : Option (Nat × Bool)} (h : DrawP C N l B k m z As σ0 K i done acc (⟨some d, .binOp .neq t x y yt, ty, pos, af, g⟩ :: r)) : DrawP C N l B k m z As σ0 K i done acc (⟨some d, .binOp .neq t x y yt, ty, pos, af, g⟩ :: r) := h
theorem DrawP.goEq {k m i : Nat} {z : World} {As : List HP} {σ0 acc : Env} {K : Env → World → Prop} {done : List (Option Nat × Value)} {r : List Oper} {d t yt : Nat} {x y : Operand} {ty : TypeId} {pos : String} {af : Array Edge} {g : Option (Nat × Bool)} (h : DrawP C N l B k m z As σ0 K i done acc (⟨some d, .binOp .eql t x y yt, ty, pos, af, g⟩ :: r)) : DrawP C N l B k m z As σ0 K i done acc (⟨some d, .binOp .eql t x y yt, ty, pos, af, g⟩ :: r) := h
theorem DrawP.goCall {k m i : Nat} {z : World} {As : List HP} {σ0 acc : Env} {K : Env → World → Prop} {done : List (Option Nat × Value)} {r : List Oper} {dst : Option Nat} {c : Call} {ty : TypeId} {pos : String} {af : Array Edge} {g : Option (Nat × Bool)} (h : DrawP C N l B k m z As σ0 K i done acc (⟨dst, .call c, ty, pos, af, g⟩ :: r)) : DrawP C N l B k m z As σ0 K i done acc (⟨dst, .call c, ty, pos, af, g⟩ :: r) := h
def som (p : Nat × Value) : Option Nat × Value := (some p.1, p.2)
theorem DrawP.all {k m : Nat} {z : World} {As : List HP} {σ0 : Env} {K : Env → World → Prop} : ∀ (rest : List Oper) (i : Nat) (done : List (Option Nat × Value)) (acc : Env), i = k + done.length → DrawP C N l B k m z As σ0 K i done acc rest →
    ∃ vs : List (Nat × Value), vs.length = rest.length ∧ (∀ t o, rest[t]? = some o → ∃ d v, vs[t]? = some (d, v) ∧ o.dst = some d ∧
      ∀ τ w, Sat z w As → OpsW C N (dsts l) [o] (envAt (dsts l) B k m (i + t) (done.reverse ++ (vs.take t).map som) τ σ0) w fun σ' w' => σ' = upd (envAt (dsts l) B k m (i + t) (done.reverse ++ (vs.take t).map som) τ σ0) d v ∧ Sat z w' As) ∧
      ∀ w, Sat z w As → K (vs.foldl (fun σ p => upd σ p.1 p.2) acc) w := by
  intro rest
  induction rest with
  | nil => intro i done acc _ h; exact ⟨[], rfl, by simp, h⟩
  | cons o r ih =>
    intro i done acc hi h
    obtain ⟨d, v, hd, h1, h2⟩ := h
    obtain ⟨vs, e1, e2, e3⟩ := ih _ _ _ (by rw [List.length_cons]; omega) h2
    refine ⟨(d, v) :: vs, by simp [e1], ?_, e3⟩
    intro t o' ht
    cases t with
    | zero =>
      simp only [List.getElem?_cons_zero, Option.some.injEq] at ht
      subst ht
      refine ⟨d, v, rfl, hd, ?_⟩
      have h1' := h1
      simp only [envR_eq hi] at h1'
      simpa using h1'
    | succ t =>
      obtain ⟨d', v', a1, a2, a3⟩ := e2 t o' (by simpa using ht)
      refine ⟨d', v', by simpa using a1, a2, ?_⟩
      have : done.reverse ++ (((d, v) :: vs).take (t + 1)).map som = ((some d, v) :: done).reverse ++ (vs.take t).map som := by simp [som]
      rw [this, show i + (t + 1) = i + 1 + t by omega]
      exact a3
theorem count_set : ∀ (L : List Bool) (i : Nat), L[i]? = some false → (L.set i true).count false + 1 = L.count false := by
  intro L
  induction L with
  | nil => intro i h; simp at h
  | cons b L ih =>
    intro i h
    cases i with
    | zero => simp at h; subst h; simp
    | succ i => have := ih i (by simpa using h); simp [List.count_cons]; omega
theorem fold_upd (vs : List (Nat × Value)) : ∀ (σ : Env) (s : Nat), (∀ (t u d : Nat) (v v' : Value), vs[t]? = some (d, v) → vs[u]? = some (d, v') → t = u) →
    (∀ (t : Nat) (v : Value), vs[t]? = some (s, v) → vs.foldl (fun σ p => upd σ p.1 p.2) σ s = v) ∧ ((∀ (t : Nat) (v : Value), vs[t]? ≠ some (s, v)) → vs.foldl (fun σ p => upd σ p.1 p.2) σ s = σ s) := by
  induction vs with
  | nil => intro σ s _; exact ⟨by simp, fun _ => rfl⟩
  | cons p vs ih =>
    intro σ s hu
    obtain ⟨d, v⟩ := p
    have hu' : ∀ t u d v v', vs[t]? = some (d, v) → vs[u]? = some (d, v') → t = u := fun t u d' a b h1 h2 => by
      have := hu (t + 1) (u + 1) d' a b (by simpa using h1) (by simpa using h2); omega
    obtain ⟨i1, i2⟩ := ih (upd σ d v) s hu'
    refine ⟨fun t u ht => ?_, fun hn => ?_⟩
    · cases t with
      | zero =>
        simp at ht
        obtain ⟨rfl, rfl⟩ := ht
        rw [List.foldl_cons, i2]
        · show upd σ d v d = v
          unfold upd; rw [Nat.beq_refl]; rfl
        · intro t' v' h'
          have := hu 0 (t' + 1) d v v' rfl (by simpa using h'); omega
      | succ t => exact i1 t u (by simpa using ht)
    · rw [List.foldl_cons, i2 fun t u h => hn (t + 1) u (by simpa using h)]
      show upd σ d v s = σ s
      unfold upd
      have : Nat.beq s d = false := by
        cases h : Nat.beq s d
        · rfl
        · have := Nat.eq_of_beq_eq_true h; subst this; exact absurd rfl (hn 0 v)
      rw [this]; rfl

theorem segOk_at {k m : Nat} (h : segOk l B k m = true) : k ≤ m ∧ m ≤ l.length ∧ (∀ i j, m ≤ i → i < l.length → k ≤ j → j < m → Nat.testBit (B.getD i 0) j = true) ∧
    (∀ i j a, k ≤ i → i < m → k ≤ j → j < m → (l[i]?).bind (·.dst) = some a → (l[j]?).bind (·.dst) = some a → i = j) := by
  unfold segOk at h
  simp only [Bool.and_eq_true] at h
  obtain ⟨⟨⟨h1, h2⟩, h3⟩, h4⟩ := h
  refine ⟨Nat.le_of_ble_eq_true h1, Nat.le_of_ble_eq_true h2, fun i j hi hil hj hjm => ?_, fun i j a hi him hj hjm ha hb => ?_⟩
  · have := List.all_eq_true.1 h3 i (List.mem_range.2 hil)
    rw [Bool.or_eq_true] at this
    rcases this with this | this
    · have := Nat.le_of_ble_eq_true this; omega
    · have := List.all_eq_true.1 this j (List.mem_range.2 hjm)
      rw [Bool.or_eq_true] at this
      rcases this with this | this
      · have := Nat.le_of_ble_eq_true this; omega
      · exact this
  · have := List.all_eq_true.1 h4 i (List.mem_range.2 him)
    rw [Bool.or_eq_true] at this
    rcases this with this | this
    · have := Nat.le_of_ble_eq_true this; omega
    · have := List.all_eq_true.1 this j (List.mem_range.2 hjm)
      rw [ha, hb] at this
      simp only [Nat.beq_refl, Bool.not_true, Bool.or_false, Bool.or_eq_true] at this
      rcases this with this | this
      · have := Nat.le_of_ble_eq_true this; omega
      · exact Nat.eq_of_beq_eq_true this

theorem AnyW.seg {k m : Nat} {z : World} {As : List HP} {rest : List Oper} {Q : Env → World → Prop} (hB : drawOk l B = true) (hs : segOk l B k m = true) (H : Sat z w As) (hr : (l.drop k).take (m - k) = rest)
    (h : DrawP C N l B k m z As σ (fun σ w => AnyW C N l B m σ w Q) k [] σ rest) : AnyW C N l B k σ w Q := by
  intro a Q' R hq
  obtain ⟨hkm, hml, hseg, huniq⟩ := segOk_at hs
  obtain ⟨vs, hvl, hv, hend⟩ := DrawP.all rest k [] σ rfl h
  have hrl : rest.length = m - k := by rw [← hr, List.length_take, List.length_drop]; omega
  have hrest : ∀ t, t < m - k → rest[t]? = l[k + t]? := fun t ht => by rw [← hr, List.getElem?_take, if_pos ht, List.getElem?_drop]
  have hdst : ∀ t d v, vs[t]? = some (d, v) → (l[k + t]?).bind (·.dst) = some d := by
    intro t d v ht
    have htl : t < m - k := by have := (List.getElem?_eq_some_iff.1 ht).1; omega
    obtain ⟨d', v', e1, e2, _⟩ := hv t (rest[t]'(by omega)) (List.getElem?_eq_getElem _)
    rw [ht] at e1; simp at e1
    rw [← hrest t htl, List.getElem?_eq_getElem (by omega)]
    simp [e2, e1.1]
  have hvu : ∀ (t u d : Nat) (v v' : Value), vs[t]? = some (d, v) → vs[u]? = some (d, v') → t = u := by
    intro t u d v v' h1 h2
    have htl : t < m - k := by have := (List.getElem?_eq_some_iff.1 h1).1; omega
    have hul : u < m - k := by have := (List.getElem?_eq_some_iff.1 h2).1; omega
    have := huniq (k + t) (k + u) d (by omega) (by omega) (by omega) (by omega) (hdst _ _ _ h1) (hdst _ _ _ h2)
    omega
  -- what holds while some of them are carried out
  have key : ∀ fuel (listed : Array Bool) (a : Act) (σ₁ : Env) (w : World), listed.size = l.length → (∀ j, j < k → listed[j]? = some true) → (∀ j, m ≤ j → j < l.length → listed[j]? = some false) →
      (∀ i j, listed[i]? = some true → Nat.testBit (B.getD i 0) j = true → listed[j]? = some true) →
      (∀ t d v, vs[t]? = some (d, v) → listed[k + t]? = some true → σ₁ d = v) → (∀ s, (∀ t v, vs[t]? = some (s, v) → listed[k + t]? = some false) → σ₁ s = σ s) →
      Rel N a σ₁ → Sat z w As → listed.toList.count false = fuel → wpAny C.P .any l.toArray Q' fuel listed a w := by
    intro fuel
    induction fuel
    case' succ fuel ih => intro listed a σ₁ w hsz hlo hhi hcl f1 f2 R H hc
    case' zero => intro listed a σ₁ w hsz hlo hhi hcl f1 f2 R H hc
    all_goals
      by_cases hall : ∀ j, k ≤ j → j < m → listed[j]? = some true
      · -- all of them are
        have hpre : listed = pref l.length m := by
          apply Array.ext'
          apply List.ext_getElem?
          intro j
          rw [Array.getElem?_toList]
          unfold pref
          by_cases h1 : j < m
          · rw [List.getElem?_append_left (by simpa using h1)]
            simp [List.getElem?_replicate, h1]
            by_cases h2 : j < k
            · exact hlo j h2
            · exact hall j (by omega) h1
          · rw [List.getElem?_append_right (by simpa using h1)]
            simp [List.getElem?_replicate]
            by_cases h2 : j < l.length
            · rw [if_pos (by omega)]; exact hhi j (by omega) h2
            · rw [if_neg (by omega)]; exact Array.getElem?_eq_none (by omega)
        have hfu : listed.toList.count false = l.length - m := by
          rw [hpre]; unfold pref; simp [List.count_replicate]
        have hσ : σ₁ = vs.foldl (fun σ p => upd σ p.1 p.2) σ := by
          funext s
          by_cases hx : ∃ (t : Nat) (v : Value), vs[t]? = some (s, v)
          · obtain ⟨t, v, ht⟩ := hx
            have htl : t < m - k := by have := (List.getElem?_eq_some_iff.1 ht).1; omega
            rw [(fold_upd vs σ s hvu).1 t v ht]
            exact f1 t s v ht (hall _ (by omega) (by omega))
          · rw [(fold_upd vs σ s hvu).2 fun t v ht => hx ⟨t, v, ht⟩]
            exact f2 s fun t v ht => absurd ⟨t, v, ht⟩ hx
        have := hend w H a Q' (hσ ▸ R) hq
        rw [hpre, ← hc, hfu]; exact this
    · -- none is left, and yet not all
      exfalso
      apply hall
      intro j hj hjm
      cases hlj : listed[j]? with
      | none => have := Array.getElem?_eq_none_iff.1 hlj; omega
      | some b =>
        cases b
        · have : false ∈ listed.toList := by
            rw [Array.mem_toList_iff]; exact Array.mem_of_getElem? hlj
          have := List.count_pos_iff.2 this; omega
        · rfl
    · -- the least of those that are not
      have hready : Region.ready .any l.toArray listed ≠ [] := by
        have hex : ∃ j, k ≤ j ∧ j < m ∧ listed[j]? = some false ∧ ∀ i, i < j → listed[i]? = some true := by
          have h1 : ∃ j, k ≤ j ∧ j < m ∧ listed[j]? ≠ some true := by
            apply Classical.byContradiction
            intro hn
            apply hall
            intro j hj hjm
            apply Classical.byContradiction
            intro h; exact hn ⟨j, hj, hjm, h⟩
          obtain ⟨j, hj⟩ := h1
          have : ∀ n j, j ≤ n → (k ≤ j ∧ j < m ∧ listed[j]? ≠ some true) → ∃ j, k ≤ j ∧ j < m ∧ listed[j]? ≠ some true ∧ ∀ i, i < j → listed[i]? = some true := by
            intro n
            induction n with
            | zero =>
              intro j hjn hj
              have hj0 : j = 0 := by omega
              subst hj0
              exact ⟨0, hj.1, hj.2.1, hj.2.2, fun i hi => by omega⟩
            | succ n ihn =>
              intro j hjn hj
              by_cases hb : ∃ i, i < j ∧ k ≤ i ∧ listed[i]? ≠ some true
              · obtain ⟨i, h1, h2, h3⟩ := hb
                exact ihn i (by omega) ⟨h2, by omega, h3⟩
              · refine ⟨j, hj.1, hj.2.1, hj.2.2, fun i hi => ?_⟩
                by_cases hik : i < k
                · exact hlo i hik
                · apply Classical.byContradiction
                  intro h; exact hb ⟨i, hi, by omega, h⟩
          obtain ⟨j, h1, h2, h3, h4⟩ := this j j (Nat.le_refl _) hj
          refine ⟨j, h1, h2, ?_, h4⟩
          cases hlj : listed[j]? with
          | none => have := Array.getElem?_eq_none_iff.1 hlj; omega
          | some b => cases b
                      · rfl
                      · exact absurd hlj h3
        obtain ⟨j, h1, h2, h3, h4⟩ := hex
        have hol : l.toArray[j]? = some (l[j]'(by omega)) := by rw [List.getElem?_toArray]; exact List.getElem?_eq_getElem _
        intro he
        have := mem_ready (listed := listed) hol (by rw [Array.getD_eq_getD_getElem?, h3]; rfl) (fun e hm hb => by
          have := (drawOk_at hB).2 j _ (List.getElem?_eq_getElem (by omega)) e hm hb
          rw [Array.getD_eq_getD_getElem?, h4 _ this]; rfl)
        rw [he] at this; simp at this
      refine ⟨fun h => absurd h hready, fun i hi => ?_⟩
      obtain ⟨hi1, hi2, hi3⟩ := ready_mem hi
      simp only [List.size_toArray] at hi1
      have hio : l[i]? = some l[i] := List.getElem?_eq_getElem hi1
      have hil : listed[i]? = some false := by
        rw [Array.getD_eq_getD_getElem?] at hi2
        cases hx : listed[i]? with
        | none => rw [hx] at hi2; simp at hi2
        | some b => rw [hx] at hi2; simp at hi2; rw [hi2]
      have hdir : ∀ e ∈ (l[i]).after.toList, Region.binds .any e = true → listed[e.on]? = some true := by
        intro e he hb
        have := hi3 l[i] (by rw [List.getElem?_toArray]; exact hio) e he hb
        rw [Array.getD_eq_getD_getElem?] at this
        cases hx : listed[e.on]? with
        | none => rw [hx] at this; simp at this
        | some b => rw [hx] at this; simp at this; rw [this]
      have hbits : ∀ j, Nat.testBit (B.getD i 0) j = true → listed[j]? = some true := by
        intro j hj
        obtain ⟨e, he, hb, h1⟩ := bit_of hB hio hj
        rcases h1 with rfl | h1
        · exact hdir e he hb
        · exact hcl _ _ (hdir e he hb) h1
      have hki : k ≤ i := by
        apply Classical.byContradiction
        intro h; have := hlo i (by omega); rw [hil] at this; cases this
      have him : i < m := by
        apply Classical.byContradiction
        intro h
        apply hall
        intro j hj hjm
        exact hbits j (hseg i j (by omega) hi1 hj hjm)
      obtain ⟨t, rfl⟩ : ∃ t, i = k + t := ⟨i - k, by omega⟩
      obtain ⟨d, v, e1, e2, e3⟩ := hv t l[k + t] (by rw [hrest t (by omega)]; exact hio)
      have henv : envAt (dsts l) B k m (k + t) ((vs.take t).map som) σ₁ σ = σ₁ := by
        funext s
        unfold envAt
        rcases knownE_spec (B.getD (k + t) 0) k s ((vs.take t).map som) k (mix (unkB (dsts l) B k m (k + t)) σ₁ σ) with ⟨u, x, a1, a2, a3⟩ | ⟨a1, a2⟩
        · rw [a3]
          rw [List.getElem?_map, List.getElem?_take] at a1
          split at a1
          · rename_i hut
            cases hx : vs[u]? with
            | none => rw [hx] at a1; simp at a1
            | some p =>
              rw [hx] at a1; simp [som] at a1
              obtain ⟨p1, p2⟩ := p
              simp at a1
              obtain ⟨rfl, rfl⟩ := a1
              exact (f1 u p1 p2 hx (hbits _ a2)).symm
          · simp at a1
        · rw [a1]
          unfold mix
          cases hb : unkB (dsts l) B k m (k + t) s
          · -- whoever writes it is not carried out yet
            refine (f2 s fun u x hx => ?_).symm
            have hul : u < m - k := by have := (List.getElem?_eq_some_iff.1 hx).1; omega
            have hds := hdst u s x hx
            unfold unkB at hb
            have hb2 := List.any_eq_false.1 hb (k + u) (List.mem_range.2 (by omega))
            have g1 : Nat.blt (k + u) k = false := by
              cases h : Nat.blt (k + u) k
              · rfl
              · have := Nat.le_of_ble_eq_true h; omega
            have g2 : (dsts l).getD (k + u) none = some s := by
              unfold dsts
              rw [List.getD_eq_getElem?_getD, List.getElem?_map]
              cases h : l[k + u]? with
              | none => rw [h] at hds; simp at hds
              | some o => rw [h] at hds; simpa using hds
            rw [g1, g2] at hb2
            simp only [Nat.beq_refl, Bool.not_false, Bool.true_and, Bool.and_true] at hb2
            by_cases hue : k + u = k + t
            · rw [hue]; exact hil
            · have g3 : Nat.beq (k + u) (k + t) = false := by
                cases h : Nat.beq (k + u) (k + t)
                · rfl
                · exact absurd (Nat.eq_of_beq_eq_true h) hue
              rw [g3] at hb2
              simp only [Bool.not_false, Bool.true_and, Bool.not_eq_true, Bool.and_eq_false_iff, Bool.not_eq_false'] at hb2
              rcases hb2 with hb2 | hb2
              · -- it hangs on this one
                cases hx2 : listed[k + u]? with
                | none => have := Array.getElem?_eq_none_iff.1 hx2; omega
                | some b => cases b
                            · rfl
                            · have := hcl _ _ hx2 hb2; rw [hil] at this; cases this
              · simp only [Bool.and_eq_true] at hb2
                have hlt : u < t := by have := Nat.le_of_ble_eq_true hb2.1; omega
                exact absurd hb2.2 (by rw [a2 u x (by rw [List.getElem?_map, List.getElem?_take, if_pos hlt, hx]; rfl)]; simp)
          · rfl
      have hop := e3 σ₁ w H
      rw [List.reverse_nil, List.nil_append, henv] at hop
      refine wpOp_of (o := l[k + t]) (by rw [List.getElem?_toArray]; exact hio) R (by simpa [dsts] using hop) ?_
      rintro a' σ' w' R' ⟨rfl, H'⟩
      have hset : ∀ j, (listed.setIfInBounds (k + t) true)[j]? = if j = k + t then some true else listed[j]? := by
        intro j
        rw [Array.getElem?_setIfInBounds]
        by_cases hj : k + t = j
        · subst hj; rw [if_pos rfl, if_pos (by omega), if_pos rfl]
        · rw [if_neg hj, if_neg (fun e => hj e.symm)]
      refine ih _ a' _ w' (by simpa using hsz) ?_ ?_ ?_ ?_ ?_ R' H' ?_
      · intro j hj; rw [hset, if_neg (by omega)]; exact hlo j hj
      · intro j hj hjl; rw [hset, if_neg (by omega)]; exact hhi j hj hjl
      · intro i' j hi' hj
        rw [hset] at hi' ⊢
        by_cases hi'' : i' = k + t
        · subst hi''
          split
          · rfl
          · exact hbits j hj
        · rw [if_neg hi''] at hi'
          split
          · rfl
          · exact hcl _ _ hi' hj
      · intro u d' x hx hl
        rw [hset] at hl
        by_cases hd : d' = d
        · subst hd
          have := hvu u t d' x v hx e1
          subst this
          rw [e1] at hx; simp at hx; subst hx
          show upd σ₁ d' v d' = v
          unfold upd; rw [Nat.beq_refl]; rfl
        · have hne : k + u ≠ k + t := by
            intro h; have : u = t := by omega
            subst this; rw [e1] at hx; simp at hx; exact hd hx.1.symm
          rw [if_neg hne] at hl
          have hbq : Nat.beq d' d = false := by
            cases h : Nat.beq d' d
            · rfl
            · exact absurd (Nat.eq_of_beq_eq_true h) hd
          show upd σ₁ d v d' = x
          unfold upd; rw [hbq]; exact f1 u d' x hx hl
      · intro s hs
        have hd : s ≠ d := by
          rintro rfl
          have := hs t v e1
          rw [hset, if_pos rfl] at this; cases this
        have hbq : Nat.beq s d = false := by
          cases h : Nat.beq s d
          · rfl
          · exact absurd (Nat.eq_of_beq_eq_true h) hd
        show upd σ₁ d v s = σ s
        unfold upd; rw [hbq]
        refine f2 s fun u x hx => ?_
        have := hs u x hx
        rw [hset] at this
        split at this
        · cases this
        · exact this
      · have := count_set listed.toList (k + t) (by rw [Array.getElem?_toList]; exact hil)
        rw [Array.toList_setIfInBounds]; omega
  refine key (l.length - k) (pref l.length k) a σ w ?_ ?_ ?_ ?_ ?_ ?_ R H ?_
  · simp [pref]; omega
  · intro j hj; unfold pref; rw [List.getElem?_toArray, List.getElem?_append_left (by simpa using hj)]; simp [List.getElem?_replicate, hj]
  · intro j hj hjl; unfold pref; rw [List.getElem?_toArray, List.getElem?_append_right (by simp; omega)]; simp [List.getElem?_replicate]; omega
  · intro i j hi hj
    have hik : i < k := by
      apply Classical.byContradiction
      intro h
      unfold pref at hi
      rw [List.getElem?_toArray, List.getElem?_append_right (by simp; omega)] at hi
      simp [List.getElem?_replicate] at hi
    have hlt := bit_lt hB i _ (List.getElem?_eq_getElem (by omega)) j hj
    unfold pref; rw [List.getElem?_toArray, List.getElem?_append_left (by simp; omega)]; simp [List.getElem?_replicate]; omega
  · intro t d v hv hl
    exfalso
    have htl : t < m - k := by have := (List.getElem?_eq_some_iff.1 hv).1; omega
    unfold pref at hl
    rw [List.getElem?_toArray, List.getElem?_append_right (by simp)] at hl
    simp [List.getElem?_replicate] at hl
  · intro s _; rfl
  · unfold pref; simp [List.count_replicate]
theorem AnyW.done {Q : Env → World → Prop} (h : Q σ w) : AnyW C N l B l.length σ w Q := by
  intro a Q' R hq
  rw [Nat.sub_self]
  have hn : Region.ready .any l.toArray (pref l.length l.length) = [] := by
    apply List.eq_nil_iff_forall_not_mem.2
    intro i hi
    obtain ⟨h1, h2, _⟩ := ready_mem hi
    rw [pref_get _ _ _ (Nat.le_refl _)] at h2
    simp at h2 h1
  exact ⟨hn, hq _ _ _ R h⟩
theorem CW.draw {id : Nat} {Q : Post} {z : World} {As : List HP} (hm : C.P.follows .mixedOrders = true) (H : Sat z w As) (B : List Nat) (h : ∀ w' : World, Sat z w' As → AnyW C N l B 0 σ w' (fun σ w => Q .normal σ w)) : CW C N (.region id l.toArray true) σ w Q := by
  intro a R
  refine wp_region_any hm ?_
  have := h _ (H.drawn (w.drawn + 1)) a (fun e a' w' => ∃ σ', Rel N a' σ' ∧ Q e σ' w') R (fun a' σ' w' R' q => ⟨σ', R', q⟩)
  have e : pref l.length 0 = Array.replicate l.toArray.size false := by
    unfold pref; apply Array.ext'; simp
  rw [e] at this
  simpa using this
theorem CW.seqDraw {id : Nat} {Q : Post} {y : Code} {z : World} {As : List HP} (hm : C.P.follows .mixedOrders = true) (H : Sat z w As) (B : List Nat) (h : ∀ w' : World, Sat z w' As → AnyW C N l B 0 σ w' (fun σ w => CW C N y σ w Q)) : CW C N (.seq (.region id l.toArray true) y) σ w Q :=
  .seqD (.draw hm H B h)
theorem AnyW.one {k : Nat} {o : Oper} {Q : Env → World → Prop} (hB : drawOk l B = true) (hs : segOk l B k (k + 1) = true) (ho : l[k]? = some o)
    (h : OpsW C N (dsts l) [o] σ w (fun σ' w' => AnyW C N l B (k + 1) σ' w' Q)) : AnyW C N l B k σ w Q := by
  intro a Q' R hq
  obtain ⟨_, hml, hseg, _⟩ := segOk_at hs
  have hkl : k < l.length := by omega
  obtain ⟨fuel, hfu⟩ : ∃ f, l.length - k = f + 1 := ⟨l.length - k - 1, by omega⟩
  rw [hfu]
  have hlo : ∀ j, j < k → (pref l.length k)[j]? = some true := fun j hj => by
    unfold pref; rw [List.getElem?_toArray, List.getElem?_append_left (by simpa using hj)]; simp [List.getElem?_replicate, hj]
  have hhi : ∀ j, k ≤ j → j < l.length → (pref l.length k)[j]? = some false := fun j hj hjl => by
    unfold pref; rw [List.getElem?_toArray, List.getElem?_append_right (by simp; omega)]; simp [List.getElem?_replicate]; omega
  have hok : l.toArray[k]? = some o := by rw [List.getElem?_toArray]; exact ho
  have hready : k ∈ Region.ready .any l.toArray (pref l.length k) := mem_ready hok (by rw [Array.getD_eq_getD_getElem?, hhi k (Nat.le_refl _) hkl]; rfl) (fun e hm hb => by
    have := (drawOk_at hB).2 k o ho e hm hb
    rw [Array.getD_eq_getD_getElem?, hlo _ this]; rfl)
  refine ⟨fun h => (by rw [h] at hready; simp at hready), fun i hi => ?_⟩
  obtain ⟨hi1, hi2, hi3⟩ := ready_mem hi
  simp only [List.size_toArray] at hi1
  have hio : l[i]? = some l[i] := List.getElem?_eq_getElem hi1
  have hik : i = k := by
    apply Classical.byContradiction
    intro hne
    by_cases hlt : i < k
    · rw [Array.getD_eq_getD_getElem?, hlo i hlt] at hi2; simp at hi2
    · have hbit := hseg i k (by omega) hi1 (Nat.le_refl _) (by omega)
      obtain ⟨e, he, hb, h1⟩ := bit_of hB hio hbit
      have hl := hi3 l[i] (by rw [List.getElem?_toArray]; exact hio) e he hb
      have heon := (drawOk_at hB).2 i _ hio e he hb
      rcases h1 with h1 | h1
      · rw [h1, Array.getD_eq_getD_getElem?, hhi k (Nat.le_refl _) hkl] at hl; simp at hl
      · have h2 := bit_lt hB e.on _ (List.getElem?_eq_getElem (by omega)) k h1
        rw [Array.getD_eq_getD_getElem?, hhi e.on (by omega) (by omega)] at hl; simp at hl
  subst hik
  refine wpOp_of (o := o) hok R (by simpa [dsts] using h) ?_
  intro a' σ' w' R' hk
  have := hk a' Q' R' hq
  have e : (pref l.length i).setIfInBounds i true = pref l.length (i + 1) := by
    apply Array.ext'
    apply List.ext_getElem?
    intro j
    rw [Array.getElem?_toList, Array.getElem?_toList, Array.getElem?_setIfInBounds]
    by_cases hj : i = j
    · subst hj
      rw [if_pos rfl, if_pos (by simp [pref]; omega)]
      unfold pref; rw [List.getElem?_toArray, List.getElem?_append_left (by simp)]; simp [List.getElem?_replicate]
    · rw [if_neg hj]
      by_cases hj2 : j < i
      · rw [hlo j hj2]; unfold pref; rw [List.getElem?_toArray, List.getElem?_append_left (by simp; omega)]; simp [List.getElem?_replicate]; omega
      · by_cases hj3 : j < l.length
        · rw [hhi j (by omega) hj3]; unfold pref; rw [List.getElem?_toArray, List.getElem?_append_right (by simp; omega)]; simp [List.getElem?_replicate]; omega
        · rw [Array.getElem?_eq_none (by simp [pref]; omega), Array.getElem?_eq_none (by simp [pref]; omega)]
  rw [e]
  have hf2 : l.length - (i + 1) = fuel := by omega
  rw [hf2] at this
  exact this
theorem DrawP.split {k m i d : Nat} {z : World} {As : List HP} {σ0 acc : Env} {K : Env → World → Prop} {done : List (Option Nat × Value)} {r : List Oper} {b : Bool}
    (ht : b = true → DrawP C N l B k m z As σ0 K i ((some d, .bool true) :: done) (upd acc d (.bool true)) r) (hf : b = false → DrawP C N l B k m z As σ0 K i ((some d, .bool false) :: done) (upd acc d (.bool false)) r) :
    DrawP C N l B k m z As σ0 K i ((some d, .bool b) :: done) (upd acc d (.bool b)) r := by
  cases b
  · exact hf rfl
  · exact ht rfl
theorem AnyW.gs {k d : Nat} {b : Bool} {Q : Env → World → Prop} (hb : σ d = .bool b) (ht : b = true → AnyW C N l B k (upd σ d (.bool true)) w Q) (hf : b = false → AnyW C N l B k (upd σ d (.bool false)) w Q) : AnyW C N l B k σ w Q := by
  intro a Q' R hq
  cases b
  · exact hf rfl a Q' (R.refl hb) hq
  · exact ht rfl a Q' (R.refl hb) hq
end
end Go.Proofs.YtbmfpkpcljihgaaDoor.X
namespace Go.Proofs.YtbmfpkpcljihgaaDoor.X
open Go
set_option linter.unusedSimpArgs false
set_option linter.unusedVariables false
theorem splice_app (c2 : List Value) : ∀ c1 rest : List Value, c2.length ≤ rest.length → splice (c1 ++ rest) c1.length c2 = c1 ++ c2 ++ rest.drop c2.length := by
  induction c2 with
  | nil => intro c1 rest _; simp [splice]
  | cons v r ih =>
    intro c1 rest h
    cases rest with
    | nil => simp at h
    | cons u rest =>
      have e : (c1 ++ u :: rest).set c1.length v = (c1 ++ [v]) ++ rest := by simp
      have := ih (c1 ++ [v]) rest (by simpa using h)
      simp only [splice, e]
      rw [List.length_append] at this
      simpa using this
section
variable {P : Program} {z w : World} {As : List HP} {b n1 cap1 n2 sz : Nat} {t E ty : TypeId} {i : TypeInfo} {zv : Value} {c1 c2 rest : List Value} {v2 : Value}
theorem first_run (H : Sat z w As) (h2 : SlR As v2 sz n2 c2) : (Builtin.firstCells sz n2 v2).run P w = .ok c2.toArray w := by
  obtain ⟨e2, a2, cp2, rfl, hcp, h3⟩ := h2
  by_cases h0 : n2 = 0
  · subst h0
    have : c2 = [] := List.length_eq_zero_iff.1 (by simpa using e2)
    subst this
    cases a2 with
    | none => exact run_firstCells_none (P := P) w sz 0 0 cp2
    | some a => exact run_firstCells_some (P := P) w sz 0 a 0 cp2 [] (by simp) (by simp)
  · rcases h3 with h3 | ⟨b2, off, m, E2, fr, rfl, h4, h5⟩
    · exact absurd h3 h0
    · refine run_firstCells_some (P := P) w sz n2 _ n2 cp2 c2 e2 ?_
      intro j v hj
      rw [add_off, cell_blk (H.has h4), h5 j (by have := (List.getElem?_eq_some_iff.1 hj).1; omega)]
      exact hj
theorem app_run (hu : P.underlying t = some (.slice E)) (hi : P.info? E = some i) (hz : i.zero = some zv) (hs : i.size = sz) (hzs : zv.cells.size = sz) (hb : i.bytes ≤ 4096) (H : Sat z w (blk b E (c1 ++ rest) :: As)) (hc1 : c1.length = n1 * sz)
    (hr : rest.length = (cap1 - n1) * sz) (hcap : n1 ≤ cap1) (h2 : SlR As v2 sz n2 c2) (hs2 : c2.all scal = true) (hn : n1 + n2 ≤ 1000000) :
    ∃ b' cap' rest' w', (Builtin.append_ #[t, t] ty #[.slice (some ⟨b, 0, none⟩) n1 cap1, v2]).run P w = .ok (.slice (some ⟨b', 0, none⟩) (n1 + n2) cap') w' ∧ n1 + n2 ≤ cap' ∧ rest'.length = (cap' - (n1 + n2)) * sz ∧
      Sat z w' (blk b' E (c1 ++ c2 ++ rest') :: As) := by
  have hf := first_run (P := P) H.drop h2
  have hlen2 := h2.1
  obtain ⟨a2, cp2, rfl⟩ := lenW h2
  by_cases hroom : n1 + n2 ≤ cap1
  · have hle : n2 * sz ≤ (cap1 - n1) * sz := Nat.mul_le_mul_right _ (by omega)
    obtain ⟨w', hw, H'⟩ := storeCells_run (P := P) c2 (off := n1 * sz) 0 H (by rw [List.length_append]; omega) hs2
    rw [Nat.add_zero, ← hc1, splice_app c2 c1 rest (by omega)] at H'
    refine ⟨b, cap1, rest.drop c2.length, w', ?_, hroom, ?_, H'⟩
    · subst hs
      simp [Builtin.append_, run_underlying hu, sizeOf, typeInfo, hi, Builtin.lenOf, hroom, hf, add_off, hw]
    · rw [List.length_drop, hr, hlen2, ← Nat.sub_mul]; congr 1; omega
  · have hn2 : n2 ≠ 0 := by omega
    obtain ⟨_, a', cp', ev, hcp, h3⟩ := h2
    simp only [Value.slice.injEq] at ev
    obtain ⟨rfl, -, rfl⟩ := ev
    rcases h3 with h3 | ⟨b2, off, m, E2, fr, rfl, h4, h5⟩
    · exact absurd h3 hn2
    · subst hs
      have hbytes : (n1 + n2) * i.bytes ≤ 140737488355328 := by
        have := Nat.mul_le_mul hn hb; omega
      have hrun := run_append_grow (P := P) w t ty E i zv hu hi hz ⟨b, 0, none⟩ n1 cap1 c1 hc1 (fun j u hj => by
          rw [add_off, cell_blk (H.has Has.head), List.getElem?_toArray, Nat.zero_add, List.getElem?_append_left (List.getElem?_eq_some_iff.1 hj).1]; exact hj)
        ⟨b2, off, none⟩ n2 cp2 c2 hlen2 (fun j u hj => by
          rw [add_off, cell_blk (H.drop.has h4), h5 j (by have := (List.getElem?_eq_some_iff.1 hj).1; omega)]; exact hj)
        (by omega) (by omega) (growslice_fits (by omega) hbytes)
      refine ⟨w.heap.size, _, (Builtin.zeroCells zv.cells (grownCap w (n1 + n2) cap1 E - (n1 + n2))).toList, _, hrun, grownCap_ge .., ?_, ?_⟩
      · rw [Array.length_toList, size_zeroCells, hzs]
      · have := (H.drop.drawn (w.drawn + 1)).new E (c1 ++ c2 ++ (Builtin.zeroCells zv.cells (grownCap w (n1 + n2) cap1 E - (n1 + n2))).toList)
        have e : (c1 ++ c2 ++ (Builtin.zeroCells zv.cells (grownCap w (n1 + n2) cap1 E - (n1 + n2))).toList).toArray = c1.toArray ++ c2.toArray ++ Builtin.zeroCells zv.cells (grownCap w (n1 + n2) cap1 E - (n1 + n2)) := by
          apply Array.ext'; simp
        rw [e] at this
        exact this
end
section
variable {C : Cfg} {N : Nat} {gd : List (Option Nat)} {r : List Oper} {σ : Env} {w z : World} {Q : Env → World → Prop} {As Rs : List HP} {x y : Operand} {d t b n1 cap1 n2 sz : Nat} {ty : TypeId} {pos : String} {af : Array Edge} {g : Option (Nat × Bool)} {v2 : Value} {c1 c2 rest : List Value}
theorem OpsW.app (H : Sat z w As) (hp : As.Perm (blk b (C.T.elem.getD t 0) (c1 ++ rest) :: Rs)) (h2 : SlR Rs v2 sz n2 c2) (hs2 : c2.all scal = true) (hn : n1 + n2 ≤ 1000000) (hc1 : c1.length = n1 * sz) (hr : rest.length = (cap1 - n1) * sz) (hcap : n1 ≤ cap1)
    (hg : wan gd σ g = some true) (hx : ev σ x = .slice (some ⟨b, 0, none⟩) n1 cap1) (hy : ev σ y = v2) (hk : Nat.beq (C.T.kind.getD t 0) 4 = true) (he : Nat.blt 0 (C.T.kind.getD (C.T.elem.getD t 0) 0) = true)
    (hsz : C.T.size.getD (C.T.elem.getD t 0) 0 = sz) (hzc : (C.T.zero.getD (C.T.elem.getD t 0) []).length = sz) (hby : ((C.P.info? (C.T.elem.getD t 0)).elim false fun i => Nat.ble i.bytes 4096) = true) (hd : Nat.blt d N = true)
    (K : ∀ b' cap' rest' w', n1 + n2 ≤ cap' → rest'.length = (cap' - (n1 + n2)) * sz → Sat z w' (blk b' (C.T.elem.getD t 0) (c1 ++ c2 ++ rest') :: Rs) → OpsW C N gd r (upd σ d (.slice (some ⟨b', 0, none⟩) (n1 + n2) cap')) w' Q) :
    OpsW C N gd (⟨some d, .call ⟨.builtin .append, #[x, y], #[t, t]⟩, ty, pos, af, g⟩ :: r) σ w Q := by
  have hu := Tab.slice_ C.ok (Nat.eq_of_beq_eq_true hk)
  have he0 : C.T.kind.getD (C.T.elem.getD t 0) 0 ≠ 0 := by have := Nat.le_of_ble_eq_true he; omega
  obtain ⟨i, hi, hs, hz⟩ := Tab.zero_ C.ok (rfl : C.T.kind.getD (C.T.elem.getD t 0) 0 = _) he0
  have hzc' := zeroV_cells C.ok (rfl : C.T.kind.getD (C.T.elem.getD t 0) 0 = _) he0
  rw [hi] at hby
  obtain ⟨b', cap', rest', w', hrun, h3, h4, H'⟩ := app_run (ty := ty) hu hi hz (hs.trans hsz) (by rw [hzc']; exact hzc) (Nat.le_of_ble_eq_true hby) (H.perm hp) hc1 hr hcap h2 hs2 hn
  refine .val (v := .slice (some ⟨b', 0, none⟩) (n1 + n2) cap') (w' := w') hg ?_ (by simp only [putE, hd]) (K b' cap' rest' w' h3 h4 H')
  rw [← hx, ← hy] at hrun
  refine run_v ?_
  have e : (#[x, y] : Array Operand).map (ev σ) = #[ev σ x, ev σ y] := by simp
  show (Builtin.append_ #[t, t] ty ((#[x, y] : Array Operand).map (ev σ))).run C.P w = _
  rw [e]; exact hrun
end
end Go.Proofs.YtbmfpkpcljihgaaDoor.X
namespace Go.Proofs.YtbmfpkpcljihgaaDoor.X
open Go
set_option linter.unusedSimpArgs false
set_option linter.unusedVariables false
def AnyM (C : Cfg) (N : Nat) (l : List Oper) (n : Nat) (M : List Bool) (σ : Env) (w : World) (Q : Env → World → Prop) : Prop :=
  ∀ (a : Act) (Q' : Exit → Act → World → Prop), Rel N a σ → (∀ a' σ' w', Rel N a' σ' → Q σ' w' → Q' .normal a' w') →
    wpAny C.P .any l.toArray Q' n M.toArray a w
section
variable {C : Cfg} {N n : Nat} {σ : Env} {w : World} {l : List Oper} {M : List Bool} {is : List Nat} {Q : Env → World → Prop}
def AllI (l : List Oper) (is : List Nat) (P : Nat → Oper → Prop) : Prop := match is with
  | [] => True
  | i :: is => (∃ o, l[i]? = some o ∧ P i o) ∧ AllI l is P
theorem AllI.at_ {P : Nat → Oper → Prop} : ∀ {is : List Nat}, AllI l is P → ∀ i ∈ is, ∃ o, l[i]? = some o ∧ P i o := by
  intro is
  induction is with
  | nil => intro _ i h; cases h
  | cons j is ih =>
    intro h i hi
    rcases List.mem_cons.1 hi with rfl | hi
    · exact h.1
    · exact ih h.2 i hi
theorem AllI.nil' {P : Nat → Oper → Prop} (h : is = []) : AllI l is P := by subst h; trivial
theorem AllI.cons' {P : Nat → Oper → Prop} {i : Nat} {is' : List Nat} {o : Oper} (h : is = i :: is') (ho : l[i]? = some o) (hp : P i o) (hr : AllI l is' P) : AllI l is P := by subst h; exact ⟨⟨o, ho, hp⟩, hr⟩
def rdy (l : List Oper) (M : List Bool) : List Nat := (List.range l.length).filter fun i => !(M.getD i true) && (match l[i]? with | some o => o.after.toList.all (fun e => !Region.binds .any e || M.getD e.on false) | none => false)
theorem getD_arr (M : List Bool) (i : Nat) (d : Bool) : M.toArray.getD i d = M.getD i d := by
  rw [Array.getD_eq_getD_getElem?, List.getElem?_toArray, List.getD_eq_getElem?_getD]
theorem rdy_iff (i : Nat) : i ∈ Region.ready .any l.toArray M.toArray ↔ i ∈ rdy l M := by
  constructor
  · intro h
    obtain ⟨h1, h2, h3⟩ := ready_mem h
    simp only [List.size_toArray] at h1
    have ho : l[i]? = some l[i] := List.getElem?_eq_getElem h1
    unfold rdy
    rw [List.mem_filter, List.mem_range]
    refine ⟨h1, ?_⟩
    rw [getD_arr] at h2
    rw [ho, h2]
    simp only [Bool.not_false, Bool.true_and]
    rw [List.all_eq_true]
    intro e he
    cases hb : Region.binds .any e
    · rfl
    · have := h3 l[i] (by rw [List.getElem?_toArray]; exact ho) e he hb
      rw [getD_arr] at this; rw [this]; rfl
  · intro h
    unfold rdy at h
    rw [List.mem_filter, List.mem_range] at h
    obtain ⟨h1, h2⟩ := h
    have ho : l[i]? = some l[i] := List.getElem?_eq_getElem h1
    rw [ho, Bool.and_eq_true] at h2
    obtain ⟨h2, h3⟩ := h2
    refine mem_ready (o := l[i]) (by rw [List.getElem?_toArray]; exact ho) ?_ ?_
    · rw [getD_arr]; simpa using h2
    · intro e he hb
      have := List.all_eq_true.1 h3 e he
      rw [hb] at this
      rw [getD_arr]; simpa using this
theorem AnyM.step (hr : rdy l M = is) (hne : is.isEmpty = false)
    (h : AllI l is fun i o => OpsW C N (dsts l) [o] σ w (fun σ' w' => AnyM C N l n (M.set i true) σ' w' Q)) : AnyM C N l (n + 1) M σ w Q := by
  intro a Q' R hq
  refine ⟨fun hnil => ?_, fun i hi => ?_⟩
  · cases is with
    | nil => cases hne
    | cons i is =>
      have : i ∈ rdy l M := by rw [hr]; exact List.mem_cons_self
      rw [← rdy_iff, hnil] at this; cases this
  rw [rdy_iff, hr] at hi
  obtain ⟨o, ho, h1⟩ := h.at_ i hi
  refine wpOp_of (o := o) (by rw [List.getElem?_toArray]; exact ho) R (by simpa [dsts] using h1) ?_
  intro a' σ' w' R' hk
  have := hk a' Q' R' hq
  simpa using this
theorem AnyM.done (hr : rdy l M = []) (h : Q σ w) : AnyM C N l 0 M σ w Q := by
  intro a Q' R hq
  refine ⟨List.eq_nil_iff_forall_not_mem.2 fun i hi => ?_, hq _ _ _ R h⟩
  rw [rdy_iff, hr] at hi; cases hi
end
end Go.Proofs.YtbmfpkpcljihgaaDoor.X
namespace Go.Proofs.YtbmfpkpcljihgaaDoor.X
open Go
set_option linter.unusedSimpArgs false
set_option linter.unusedVariables false
section
variable {C : Cfg} {N : Nat} {gd : List (Option Nat)} {r : List Oper} {σ : Env} {w z : World} {Q : Env → World → Prop} {As : List HP} {x y : Operand} {d t n2 sz : Nat} {ty : TypeId} {pos : String} {af : Array Edge} {g : Option (Nat × Bool)} {v2 : Value} {c2 : List Value}
theorem OpsW.app0 (H : Sat z w As) (h2 : SlR As v2 sz n2 c2) (h0 : 0 < n2) (hn : n2 ≤ 1000000)
    (hg : wan gd σ g = some true) (hx : ev σ x = .slice none 0 0) (hy : ev σ y = v2) (hk : Nat.beq (C.T.kind.getD t 0) 4 = true) (he : Nat.blt 0 (C.T.kind.getD (C.T.elem.getD t 0) 0) = true)
    (hsz : C.T.size.getD (C.T.elem.getD t 0) 0 = sz) (hzc : (C.T.zero.getD (C.T.elem.getD t 0) []).length = sz) (hby : ((C.P.info? (C.T.elem.getD t 0)).elim false fun i => Nat.ble i.bytes 4096) = true) (hd : Nat.blt d N = true)
    (K : ∀ b' cap' rest' w', n2 ≤ cap' → rest'.length = (cap' - n2) * sz → Sat z w' (blk b' (C.T.elem.getD t 0) (c2 ++ rest') :: As) → OpsW C N gd r (upd σ d (.slice (some ⟨b', 0, none⟩) n2 cap')) w' Q) :
    OpsW C N gd (⟨some d, .call ⟨.builtin .append, #[x, y], #[t, t]⟩, ty, pos, af, g⟩ :: r) σ w Q := by
  have hu := Tab.slice_ C.ok (Nat.eq_of_beq_eq_true hk)
  have he0 : C.T.kind.getD (C.T.elem.getD t 0) 0 ≠ 0 := by have := Nat.le_of_ble_eq_true he; omega
  obtain ⟨i, hi, hs, hz⟩ := Tab.zero_ C.ok (rfl : C.T.kind.getD (C.T.elem.getD t 0) 0 = _) he0
  have hzc' := zeroV_cells C.ok (rfl : C.T.kind.getD (C.T.elem.getD t 0) 0 = _) he0
  rw [hi] at hby
  have hby : i.bytes ≤ 4096 := Nat.le_of_ble_eq_true hby
  obtain ⟨e2, a', cp', rfl, hcp, h3⟩ := h2
  rcases h3 with h3 | ⟨b2, off, m, E2, fr, rfl, h4, h5⟩
  · omega
  have hs' : i.size = sz := hs.trans hsz
  subst hs'
  have hbytes : n2 * i.bytes ≤ 281474976710656 := by have := Nat.mul_le_mul hn hby; omega
  have hrun := run_append_nil (P := C.P) w t ty (C.T.elem.getD t 0) i _ hu hi hz ⟨b2, off, none⟩ n2 cp' c2 e2 (fun j u hj => by
    rw [add_off, cell_blk (H.has h4), h5 j (by have := (List.getElem?_eq_some_iff.1 hj).1; omega)]; exact hj) h0 (by omega) hbytes
  refine .val (v := .slice (some ⟨w.heap.size, 0, none⟩) n2 (grownCap w n2 0 (C.T.elem.getD t 0))) (w' := w.drew.alloc (.cells (c2.toArray ++ Builtin.zeroCells (C.T.zeroV (C.T.elem.getD t 0)).cells (grownCap w n2 0 (C.T.elem.getD t 0) - n2)) (C.T.elem.getD t 0))) hg ?_ (by simp only [putE, hd]) (K w.heap.size _ (Builtin.zeroCells (C.T.zeroV (C.T.elem.getD t 0)).cells (grownCap w n2 0 (C.T.elem.getD t 0) - n2)).toList _ (grownCap_ge w n2 0 (C.T.elem.getD t 0)) ?_ ?_)
  · refine run_v ?_
    have e : (#[x, y] : Array Operand).map (ev σ) = #[ev σ x, ev σ y] := by simp
    show (Builtin.append_ #[t, t] ty ((#[x, y] : Array Operand).map (ev σ))).run C.P w = _
    rw [e, hx, hy]; exact hrun
  · rw [Array.length_toList, size_zeroCells, hzc', List.size_toArray, hzc]
  · have := (H.drawn (w.drawn + 1)).new (C.T.elem.getD t 0) (c2 ++ (Builtin.zeroCells (C.T.zeroV (C.T.elem.getD t 0)).cells (grownCap w n2 0 (C.T.elem.getD t 0) - n2)).toList)
    have e : (c2 ++ (Builtin.zeroCells (C.T.zeroV (C.T.elem.getD t 0)).cells (grownCap w n2 0 (C.T.elem.getD t 0) - n2)).toList).toArray = c2.toArray ++ Builtin.zeroCells (C.T.zeroV (C.T.elem.getD t 0)).cells (grownCap w n2 0 (C.T.elem.getD t 0) - n2) := by
      apply Array.ext'; simp
    rw [e] at this
    exact this
end
end Go.Proofs.YtbmfpkpcljihgaaDoor.X
namespace Go.Proofs.YtbmfpkpcljihgaaDoor.X
open Go
set_option linter.unusedSimpArgs false
set_option linter.unusedVariables false
section
variable {z w : World} {As Rs : List HP} {A B : HP}
theorem Sat.or_ (H : Sat z w ((fun h => A h ∨ B h) :: As)) : Sat z w (A :: As) ∨ Sat z w (B :: As) := by
  obtain ⟨h, hs, f, g, d, e, a | a, r⟩ := H.part
  · exact .inl ⟨H.os, H.tape, H.output, H.size, h, hs, f, g, d, e, a, r⟩
  · exact .inr ⟨H.os, H.tape, H.output, H.size, h, hs, f, g, d, e, a, r⟩
theorem Sat.and_ {p : Prop} (H : Sat z w ((fun h => p ∧ A h) :: As)) : p ∧ Sat z w (A :: As) := by
  obtain ⟨h, hs, f, g, d, e, ⟨hp, a⟩, r⟩ := H.part
  exact ⟨hp, H.os, H.tape, H.output, H.size, h, hs, f, g, d, e, a, r⟩
theorem Sat.mkemp (H : Sat z w As) : Sat z w (emp :: As) :=
  ⟨H.os, H.tape, H.output, H.size, by obtain ⟨h, hs, r⟩ := H.part; exact ⟨h, hs, nil_, h, Dis.nil_left _, rfl, rfl, r⟩⟩

def vec (E : TypeId) (a : Option Addr) (n cap sz : Nat) (c : List Value) : HP := fun h =>
  (∃ b, ∃ rest : List Value, (a = some ⟨b, 0, none⟩ ∧ c.length = n * sz ∧ rest.length = (cap - n) * sz ∧ n ≤ cap) ∧ blk b E (c ++ rest) h) ∨ ((a = none ∧ n = 0 ∧ cap = 0 ∧ c = []) ∧ emp h)
theorem Sat.vcases {E : TypeId} {a : Option Addr} {n cap sz : Nat} {c : List Value} (H : Sat z w (vec E a n cap sz c :: As)) :
    (∃ b, ∃ rest : List Value, (a = some ⟨b, 0, none⟩ ∧ c.length = n * sz ∧ rest.length = (cap - n) * sz ∧ n ≤ cap) ∧ Sat z w (blk b E (c ++ rest) :: As)) ∨ ((a = none ∧ n = 0 ∧ cap = 0 ∧ c = []) ∧ Sat z w (emp :: As)) := by
  rcases H.or_ with H | H
  · obtain ⟨b, H⟩ := H.ex
    obtain ⟨rest, H⟩ := H.ex
    obtain ⟨hp, H⟩ := H.and_
    exact .inl ⟨b, rest, hp, H⟩
  · obtain ⟨hp, H⟩ := H.and_
    exact .inr ⟨hp, H⟩
theorem vec_nil {E : TypeId} {sz : Nat} {h : Hp} (e : emp h) : vec E none 0 0 sz [] h := .inr ⟨⟨rfl, rfl, rfl, rfl⟩, e⟩
theorem Sat.vnil {E : TypeId} {sz : Nat} (H : Sat z w As) : Sat z w (vec E none 0 0 sz [] :: As) := H.mkemp.imp fun _ e => vec_nil e
theorem vec_blk {E : TypeId} {b n cap sz : Nat} {c rest : List Value} {h : Hp} (e : blk b E (c ++ rest) h) (hc : c.length = n * sz) (hr : rest.length = (cap - n) * sz) (hn : n ≤ cap) : vec E (some ⟨b, 0, none⟩) n cap sz c h :=
  .inl ⟨b, rest, ⟨rfl, hc, hr, hn⟩, e⟩
theorem Sat.vopen {E : TypeId} {a : Option Addr} {n cap sz : Nat} {c : List Value} (H : Sat z w (vec E a n cap sz c :: As)) :
    ∃ T : HP, (∀ h, T h → vec E a n cap sz c h) ∧ (∀ Rs, SlR (T :: Rs) (.slice a n cap) sz n c) ∧ Sat z w (T :: As) := by
  rcases H.vcases with ⟨b, rest, ⟨rfl, hc, hr, hn⟩, H2⟩ | ⟨⟨rfl, rfl, rfl, rfl⟩, H2⟩
  · exact ⟨blk b E (c ++ rest), fun h e => vec_blk e hc hr hn, fun Rs => SlR.of_blk hc hn, H2⟩
  · exact ⟨emp, fun h e => vec_nil e, fun Rs => SlR.nil_, H2⟩
theorem Sat.vlen {E : TypeId} {a : Option Addr} {n cap sz : Nat} {c : List Value} (H : Sat z w (vec E a n cap sz c :: As)) : c.length = n * sz ∧ n ≤ cap := by
  rcases H.vcases with ⟨b, rest, ⟨rfl, hc, hr, hn⟩, H⟩ | ⟨⟨rfl, rfl, rfl, rfl⟩, H⟩
  · exact ⟨hc, hn⟩
  · exact ⟨by simp, Nat.le_refl _⟩
end
section
variable {C : Cfg} {N : Nat} {gd : List (Option Nat)} {r : List Oper} {σ : Env} {w z : World} {Q : Env → World → Prop} {As Rs : List HP} {x y : Operand} {d t b off n1 cap1 n2 sz : Nat} {ty : TypeId} {pos : String} {af : Array Edge} {g : Option (Nat × Bool)} {v2 : Value} {c c1 c2 rest : List Value} {a : Option Addr} {dst : Option Nat}
theorem OpsW.vapp (H : Sat z w As) (hp : As.Perm (vec (C.T.elem.getD t 0) a n1 cap1 sz c1 :: Rs)) (h2 : SlR Rs v2 sz n2 c2) (hs2 : c2.all scal = true) (h0 : 0 < n2) (hn : n1 + n2 ≤ 1000000)
    (hg : wan gd σ g = some true) (hx : ev σ x = .slice a n1 cap1) (hy : ev σ y = v2) (hk : Nat.beq (C.T.kind.getD t 0) 4 = true) (he : Nat.blt 0 (C.T.kind.getD (C.T.elem.getD t 0) 0) = true)
    (hsz : C.T.size.getD (C.T.elem.getD t 0) 0 = sz) (hzc : (C.T.zero.getD (C.T.elem.getD t 0) []).length = sz) (hby : ((C.P.info? (C.T.elem.getD t 0)).elim false fun i => Nat.ble i.bytes 4096) = true) (hd : Nat.blt d N = true)
    (K : ∀ a' cap' w', Sat z w' (vec (C.T.elem.getD t 0) a' (n1 + n2) cap' sz (c1 ++ c2) :: Rs) → OpsW C N gd r (upd σ d (.slice a' (n1 + n2) cap')) w' Q) :
    OpsW C N gd (⟨some d, .call ⟨.builtin .append, #[x, y], #[t, t]⟩, ty, pos, af, g⟩ :: r) σ w Q := by
  have e2 := h2.1
  rcases (H.perm hp).vcases with ⟨b, rest, ⟨rfl, hc, hr, hcap⟩, H⟩ | ⟨⟨rfl, rfl, rfl, rfl⟩, H⟩
  · refine .app H (.refl _) h2 hs2 hn hc hr hcap hg hx hy hk he hsz hzc hby hd fun b' cap' rest' w' h3 h4 H => K _ _ _ (H.imp fun h e => vec_blk e ?_ h4 h3)
    rw [List.length_append, hc, e2, Nat.add_mul]
  · refine .app0 H.drop h2 h0 (by omega) hg hx hy hk he hsz hzc hby hd fun b' cap' rest' w' h3 h4 H => ?_
    have hK := K (some ⟨b', 0, none⟩) cap' w'
    simp only [Nat.zero_add, List.nil_append] at hK
    exact hK (H.imp fun h e => vec_blk e e2 h4 h3)
theorem OpsW.appIn (H : Sat z w As) (hp : As.Perm (blk b (C.T.elem.getD t 0) c :: Rs)) (h2 : SlR As v2 sz n2 c2) (hs2 : c2.all scal = true) (hroom : n1 + n2 ≤ cap1) (hin : off + (n1 + n2) * sz ≤ c.length)
    (hg : wan gd σ g = some true) (hx : ev σ x = .slice (some ⟨b, off, none⟩) n1 cap1) (hy : ev σ y = v2) (hk : Nat.beq (C.T.kind.getD t 0) 4 = true) (he : Nat.blt 0 (C.T.kind.getD (C.T.elem.getD t 0) 0) = true)
    (hsz : C.T.size.getD (C.T.elem.getD t 0) 0 = sz) (hd : Nat.blt d N = true)
    (K : ∀ w', Sat z w' (blk b (C.T.elem.getD t 0) (splice c (off + n1 * sz) c2) :: Rs) → OpsW C N gd r (upd σ d (.slice (some ⟨b, off, none⟩) (n1 + n2) cap1)) w' Q) :
    OpsW C N gd (⟨some d, .call ⟨.builtin .append, #[x, y], #[t, t]⟩, ty, pos, af, g⟩ :: r) σ w Q := by
  have hu := Tab.slice_ C.ok (Nat.eq_of_beq_eq_true hk)
  obtain ⟨i, hi, hs⟩ := Tab.info_ C.ok (rfl : C.T.kind.getD (C.T.elem.getD t 0) 0 = _) (by have := Nat.le_of_ble_eq_true he; omega)
  have hf := first_run (P := C.P) H h2
  have hlen2 := h2.1
  obtain ⟨a2, cp2, rfl⟩ := lenW h2
  obtain ⟨w', hw, H'⟩ := storeCells_run (P := C.P) c2 (off := off + n1 * sz) 0 (H.perm hp) (by rw [hlen2]; rw [Nat.add_mul] at hin; omega) hs2
  rw [Nat.add_zero] at H'
  refine .val (v := .slice (some ⟨b, off, none⟩) (n1 + n2) cap1) (w' := w') hg ?_ (by simp only [putE, hd]) (K w' H')
  refine run_v ?_
  have e : (#[x, y] : Array Operand).map (ev σ) = #[ev σ x, ev σ y] := by simp
  show (Builtin.append_ #[t, t] ty ((#[x, y] : Array Operand).map (ev σ))).run C.P w = _
  rw [e, hx, hy]
  have hs' : i.size = sz := hs.trans hsz
  clear K H' hs hsz hin hp
  subst hs'
  generalize C.T.elem.getD t 0 = E at *
  simp [Builtin.append_, run_underlying hu, sizeOf, typeInfo, hi, Builtin.lenOf, hroom, hf, add_off, hw]

theorem slc_run {P : Program} {e : TypeId} {i : TypeInfo} (hu : P.underlying t = some (.slice e)) (hi : P.info? e = some i) {n cap l h m : Nat} {lo hi_ mx : Option Value}
    (hb : (Instr.sliceBounds true n cap lo hi_ mx).run P w = .ok (l, h, m) w) :
    (Instr.sliceAt t (.slice a n cap) lo hi_ mx).run P w = .ok (.slice (if m = l then a else a.map (·.add (l * i.size))) (h - l) (m - l)) w := by
  rw [Instr.sliceAt, X.run_bind _ _ _ _ _ _ (run_und hu w)]
  dsimp only
  rw [Instr.slice, X.run_bind _ _ _ _ _ _ (run_und hu w)]
  dsimp only
  rw [X.run_bind _ _ _ _ _ _ hb]
  dsimp only
  rw [X.run_bind _ _ _ _ _ _ (run_sizeOf hi w)]
  rfl
theorem OpsW.slcG {n cap l h m : Nat} {lo hi mx : Option Operand} (hg : wan gd σ g = some true) (hx : ev σ x = .slice a n cap)
    (hb : (Instr.sliceBounds true n cap (lo.map (ev σ)) (hi.map (ev σ)) (mx.map (ev σ))).run C.P w = .ok (l, h, m) w) (hk : Nat.beq (C.T.kind.getD t 0) 4 = true) (he : Nat.blt 0 (C.T.kind.getD (C.T.elem.getD t 0) 0) = true)
    (hsz : C.T.size.getD (C.T.elem.getD t 0) 0 = sz) (hd : Nat.blt d N = true)
    (K : OpsW C N gd r (upd σ d (.slice (if m = l then a else a.map (·.add (l * sz))) (h - l) (m - l))) w Q) : OpsW C N gd (⟨some d, .slice t x lo hi mx, ty, pos, af, g⟩ :: r) σ w Q := by
  have hu := Tab.slice_ C.ok (Nat.eq_of_beq_eq_true hk)
  obtain ⟨ie, hie, hse⟩ := Tab.info_ C.ok (rfl : C.T.kind.getD (C.T.elem.getD t 0) 0 = _) (by have := Nat.le_of_ble_eq_true he; omega)
  have hs' : ie.size = sz := hse.trans hsz
  refine .val (v := .slice (if m = l then a else a.map (·.add (l * sz))) (h - l) (m - l)) (w' := w) hg (run_v ?_) (by simp only [putE, hd]) K
  have hr := slc_run (w := w) (P := C.P) hu hie (a := a) hb
  rw [hs'] at hr
  simpa [hx] using hr
theorem add0 (a : Option Addr) : a.map (·.add 0) = a := by cases a <;> simp [Addr.add]
theorem OpsW.slcT {n cap k : Nat} {i : Int} {kd : IntKind} (hg : wan gd σ g = some true) (hx : ev σ x = .slice a n cap) (hy : ev σ y = .int kd i) (hk : Nat.beq (C.T.kind.getD t 0) 4 = true) (he : Nat.blt 0 (C.T.kind.getD (C.T.elem.getD t 0) 0) = true)
    (hn : i = k) (hl : k ≤ cap) (hd : Nat.blt d N = true)
    (K : OpsW C N gd r (upd σ d (.slice a k cap)) w Q) : OpsW C N gd (⟨some d, .slice t x none (some y) none, ty, pos, af, g⟩ :: r) σ w Q := by
  subst hn
  refine .slcG (l := 0) (h := k) (m := cap) hg hx ?_ hk he rfl hd ?_
  · simp [Instr.sliceBounds, Instr.sliceBound, asIntOf, hy, hl]
  · rw [Nat.zero_mul, add0]; simpa using K
theorem OpsW.slcF {n cap k : Nat} {i : Int} {kd : IntKind} (hg : wan gd σ g = some true) (hx : ev σ x = .slice a n cap) (hy : ev σ y = .int kd i) (hk : Nat.beq (C.T.kind.getD t 0) 4 = true) (he : Nat.blt 0 (C.T.kind.getD (C.T.elem.getD t 0) 0) = true)
    (hsz : C.T.size.getD (C.T.elem.getD t 0) 0 = sz) (hn : i = k) (hl : k ≤ n) (hc : n ≤ cap) (hd : Nat.blt d N = true)
    (K : OpsW C N gd r (upd σ d (.slice (if cap = k then a else a.map (·.add (k * sz))) (n - k) (cap - k))) w Q) : OpsW C N gd (⟨some d, .slice t x (some y) none none, ty, pos, af, g⟩ :: r) σ w Q := by
  subst hn
  refine .slcG (l := k) (h := n) (m := cap) hg hx ?_ hk he hsz hd K
  simp [Instr.sliceBounds, Instr.sliceBound, asIntOf, hy, hl, hc]
theorem OpsW.slcFT {n cap k j : Nat} {i i' : Int} {kd kd' : IntKind} {y' : Operand} (hg : wan gd σ g = some true) (hx : ev σ x = .slice a n cap) (hy : ev σ y = .int kd i) (hy' : ev σ y' = .int kd' i') (hk : Nat.beq (C.T.kind.getD t 0) 4 = true) (he : Nat.blt 0 (C.T.kind.getD (C.T.elem.getD t 0) 0) = true)
    (hsz : C.T.size.getD (C.T.elem.getD t 0) 0 = sz) (hn : i = k) (hj : i' = j) (hl : k ≤ j) (hc : j ≤ cap) (hd : Nat.blt d N = true)
    (K : OpsW C N gd r (upd σ d (.slice (if cap = k then a else a.map (·.add (k * sz))) (j - k) (cap - k))) w Q) : OpsW C N gd (⟨some d, .slice t x (some y) (some y') none, ty, pos, af, g⟩ :: r) σ w Q := by
  subst hn hj
  refine .slcG (l := k) (h := j) (m := cap) hg hx ?_ hk he hsz hd K
  simp [Instr.sliceBounds, Instr.sliceBound, asIntOf, hy, hy', hl, hc]
theorem OpsW.slc3 {n cap k j m : Nat} {i i' i'' : Int} {kd kd' kd'' : IntKind} {y' y'' : Operand} (hg : wan gd σ g = some true) (hx : ev σ x = .slice a n cap) (hy : ev σ y = .int kd i) (hy' : ev σ y' = .int kd' i') (hy'' : ev σ y'' = .int kd'' i'') (hk : Nat.beq (C.T.kind.getD t 0) 4 = true) (he : Nat.blt 0 (C.T.kind.getD (C.T.elem.getD t 0) 0) = true)
    (hsz : C.T.size.getD (C.T.elem.getD t 0) 0 = sz) (hn : i = k) (hj : i' = j) (hm : i'' = m) (hl : k ≤ j) (hc : j ≤ m) (hm' : m ≤ cap) (hd : Nat.blt d N = true)
    (K : OpsW C N gd r (upd σ d (.slice (if m = k then a else a.map (·.add (k * sz))) (j - k) (m - k))) w Q) : OpsW C N gd (⟨some d, .slice t x (some y) (some y') (some y''), ty, pos, af, g⟩ :: r) σ w Q := by
  subst hn hj hm
  refine .slcG (l := k) (h := j) (m := m) hg hx ?_ hk he hsz hd K
  simp [Instr.sliceBounds, Instr.sliceBound, asIntOf, hy, hy', hy'', hl, hc, hm']
theorem SlR.from_ {n k cap : Nat} (hs : SlR As (.slice a n cap) sz n c) (h : k ≤ n) : SlR As (.slice (if cap = k then a else a.map (·.add (k * sz))) (n - k) (cap - k)) sz (n - k) (c.drop (k * sz)) := by
  have := hs.sub h (Nat.le_refl n)
  rwa [List.take_of_length_le (by rw [List.length_drop, hs.1, Nat.sub_mul]; omega)] at this

theorem repl_all {p : Value → Bool} {l : List Value} (h : l.all p = true) : ∀ n, (repl n l).all p = true := by
  intro n
  induction n with
  | zero => rfl
  | succ n ih => rw [repl, List.all_append, h, ih]; rfl
theorem zeroCells_repl (n : Nat) (zc : Array Value) : (Builtin.zeroCells zc n).toList = repl n zc.toList := by
  have := range_repl n zc
  unfold Builtin.zeroCells
  rw [this]
theorem OpsW.clr {n cap : Nat} (H : Sat z w As) (hp : As.Perm (blk b (C.T.elem.getD t 0) c :: Rs)) (hin : 0 < n → off + n * sz ≤ c.length)
    (hg : wan gd σ g = some true) (hx : ev σ x = .slice (some ⟨b, off, none⟩) n cap) (hk : Nat.beq (C.T.kind.getD t 0) 4 = true) (he : Nat.blt 0 (C.T.kind.getD (C.T.elem.getD t 0) 0) = true)
    (hzc : (C.T.zero.getD (C.T.elem.getD t 0) []).length = sz) (hza : (C.T.zero.getD (C.T.elem.getD t 0) []).all scal = true) (hdst : dst = none)
    (K : ∀ w' zs, zs.length = n * sz → zs.all scal = true → Sat z w' (blk b (C.T.elem.getD t 0) (splice c off zs) :: Rs) → OpsW C N gd r σ w' Q) :
    OpsW C N gd (⟨dst, .call ⟨.builtin .clear, #[x], #[t]⟩, ty, pos, af, g⟩ :: r) σ w Q := by
  subst hdst
  have hu := Tab.slice_ C.ok (Nat.eq_of_beq_eq_true hk)
  have he0 : C.T.kind.getD (C.T.elem.getD t 0) 0 ≠ 0 := by have := Nat.le_of_ble_eq_true he; omega
  obtain ⟨i, hi, hs, hz⟩ := Tab.zero_ C.ok (rfl : C.T.kind.getD (C.T.elem.getD t 0) 0 = _) he0
  have hzc' := zeroV_cells C.ok (rfl : C.T.kind.getD (C.T.elem.getD t 0) 0 = _) he0
  have e : (#[x] : Array Operand).map (ev σ) = #[ev σ x] := by simp
  have H' := H.perm hp
  cases n with
  | zero =>
    refine .val (v := .tuple #[]) (w' := w) hg ?_ rfl (K w [] (by simp) rfl H')
    refine run_v ?_
    show (Builtin.clear_ #[t] ty ((#[x] : Array Operand).map (ev σ))).run C.P w = _
    rw [e, hx]
    simp [Builtin.clear_, run_underlying hu]
  | succ n =>
    have hlen : (repl (n + 1) (C.T.zero.getD (C.T.elem.getD t 0) [])).length = (n + 1) * sz := by rw [repl_length, hzc]
    obtain ⟨w', hw, H2⟩ := storeCells_run (P := C.P) (repl (n + 1) (C.T.zero.getD (C.T.elem.getD t 0) [])) (off := off) 0 H' (by rw [hlen]; have := hin (Nat.succ_pos n); omega) (repl_all hza _)
    rw [Nat.add_zero] at H2
    refine .val (v := .tuple #[]) (w' := w') hg ?_ rfl (K w' _ hlen (repl_all hza _) H2)
    refine run_v ?_
    show (Builtin.clear_ #[t] ty ((#[x] : Array Operand).map (ev σ))).run C.P w = _
    rw [e, hx]
    have hzc'' : (C.T.zeroV (C.T.elem.getD t 0)).cells.toList = C.T.zero.getD (C.T.elem.getD t 0) [] := by rw [hzc']
    have hzv : (zeroValue (C.T.elem.getD t 0)).run C.P w = .ok (C.T.zeroV (C.T.elem.getD t 0)) w := run_zeroValue hi hz w
    rw [← hzc''] at hw
    clear K H2 hlen H' hp hzc hza
    generalize C.T.zeroV (C.T.elem.getD t 0) = zv at *
    generalize C.T.elem.getD t 0 = E at *
    simp only [Builtin.clear_]
    simp [run_underlying hu, hzv, zeroCells_repl, hw]
end
theorem splice_mid (m vs : List Value) : ∀ a r : List Value, vs.length = m.length → splice (a ++ m ++ r) a.length vs = a ++ vs ++ r := by
  intro a r h
  rw [List.append_assoc, splice_app vs a (m ++ r) (by rw [List.length_append]; omega), h, List.drop_left]
end Go.Proofs.YtbmfpkpcljihgaaDoor.X
namespace Go.Proofs.YtbmfpkpcljihgaaDoor.X
open Go
set_option linter.unusedSimpArgs false
set_option linter.unusedVariables false
section
variable {P : Program} {ops : Array Oper} {Q Q' : Exit → Act → World → Prop}
end
def nQ (N : Nat) (Q : Env → World → Prop) : Exit → Act → World → Prop := fun e a w => match e with
  | .normal => ∃ σ, Rel N a σ ∧ Q σ w
  | _ => False
def AnyN (C : Cfg) (N : Nat) (l : List Oper) (n : Nat) (M : List Bool) (σ : Env) (w : World) (Q : Env → World → Prop) : Prop :=
  ∀ a : Act, Rel N a σ → wpAny C.P .any l.toArray (nQ N Q) n M.toArray a w
def takeOk (l : List Oper) (M : List Bool) (i : Nat) : Bool :=
  Region.noSelect l.toArray && Region.free .any l.toArray M.toArray i && (Region.ready .any l.toArray M.toArray).contains i
section
variable {C : Cfg} {N n : Nat} {σ σ' : Env} {w : World} {l : List Oper} {M : List Bool} {is : List Nat} {Q : Env → World → Prop} {B : List Nat}
theorem AnyN.step (hr : rdy l M = is) (hne : is.isEmpty = false)
    (h : AllI l is fun i o => OpsW C N (dsts l) [o] σ w (fun σ' w' => AnyN C N l n (M.set i true) σ' w' Q)) : AnyN C N l (n + 1) M σ w Q := by
  intro a R
  refine ⟨fun hnil => ?_, fun i hi => ?_⟩
  · cases is with
    | nil => cases hne
    | cons i is =>
      have : i ∈ rdy l M := by rw [hr]; exact List.mem_cons_self
      rw [← rdy_iff, hnil] at this; cases this
  rw [rdy_iff, hr] at hi
  obtain ⟨o, ho, h1⟩ := h.at_ i hi
  refine wpOp_of (o := o) (by rw [List.getElem?_toArray]; exact ho) R (by simpa [dsts] using h1) ?_
  intro a' σ' w' R' hk
  have := hk a' R'
  simpa using this
theorem AnyN.done (hr : rdy l M = []) (h : Q σ w) : AnyN C N l 0 M σ w Q := by
  intro a R
  refine ⟨List.eq_nil_iff_forall_not_mem.2 fun i hi => ?_, _, R, h⟩
  rw [rdy_iff, hr] at hi; cases hi
theorem AnyN.take {i : Nat} {o : Oper} (hM : M[i]? = some false) (ho : l[i]? = some o) (hst : stepE C.T N (dsts l) σ o = some σ') (hf : takeOk l M i = true)
    (h : AnyN C N l n (M.set i true) σ' w Q) : AnyN C N l (n + 1) M σ w Q := by
  intro a R
  simp only [takeOk, Bool.and_eq_true] at hf
  obtain ⟨⟨h1, h2⟩, h3⟩ := hf
  have ho' : l.toArray[i]? = some o := by rw [List.getElem?_toArray]; exact ho
  have hm : l.toArray.toList.map (·.dst) = dsts l := by simp [dsts]
  obtain ⟨dst, op, ty, pos, af, g⟩ := o
  have key : ∃ v, putE N σ dst v = some σ' ∧ Yields C.P l.toArray ⟨dst, op, ty, pos, af, g⟩ v a := by
    simp only [stepE] at hst
    split at hst
    · rename_i hg
      split at hst
      · rename_i v hv
        refine ⟨v, hst, .inl ⟨wan_eq hg hm R, fun w => ?_⟩⟩
        rw [R.eval]
        exact pureV_run C.ok hv dst ty pos af g w
      · cases hst
    · rename_i hg
      exact ⟨undef, hst, .inr ⟨wan_eq hg hm R, rfl⟩⟩
    · cases hst
  obtain ⟨v, hp, hy⟩ := key
  refine wpAny_take (v := v) ho' h1 h2 h3 (fun c a w hc => hc.elim) hy ?_
  have := h _ (R.putE hp)
  simpa using this
theorem AnyN.gs {d : Nat} {b : Bool} (hb : σ d = .bool b) (ht : b = true → AnyN C N l n M (upd σ d (.bool true)) w Q) (hf : b = false → AnyN C N l n M (upd σ d (.bool false)) w Q) : AnyN C N l n M σ w Q := by
  intro a R
  cases b
  · exact hf rfl a (R.refl hb)
  · exact ht rfl a (R.refl hb)
theorem CW.drawN {id : Nat} {Q : Post} {z : World} {As : List HP} (hm : C.P.follows .mixedOrders = true) (H : Sat z w As) (h : ∀ w' : World, Sat z w' As → AnyN C N l l.length (List.replicate l.length false) σ w' (fun σ w => Q .normal σ w)) : CW C N (.region id l.toArray true) σ w Q := by
  intro a R
  refine wp_mono (wp_region_any (Q := nQ N fun σ w => Q .normal σ w) hm ?_) ?_
  · have := h _ (H.drawn (w.drawn + 1)) a R
    simpa using this
  · intro e a w h
    cases e with
    | normal => exact h
    | _ => exact h.elim
theorem CW.seqDrawN {id : Nat} {Q : Post} {y : Code} {z : World} {As : List HP} (hm : C.P.follows .mixedOrders = true) (H : Sat z w As) (h : ∀ w' : World, Sat z w' As → AnyN C N l l.length (List.replicate l.length false) σ w' (fun σ w => CW C N y σ w Q)) : CW C N (.seq (.region id l.toArray true) y) σ w Q :=
  .seqD (.drawN hm H h)
end
end Go.Proofs.YtbmfpkpcljihgaaDoor.X
namespace Go.Proofs.YtbmfpkpcljihgaaDoor.X
open Go
set_option linter.unusedSimpArgs false
set_option linter.unusedVariables false
section
variable {C : Cfg} {N : Nat} {gd : List (Option Nat)} {r : List Oper} {σ σ' : Env} {w z : World} {Q : Env → World → Prop} {As Rs : List HP} {x y : Operand} {d t b off n1 cap1 n2 sz : Nat} {ty : TypeId} {pos : String} {af : Array Edge} {g : Option (Nat × Bool)} {v2 : Value} {c c1 c2 rest : List Value} {a : Option Addr} {dst : Option Nat}
theorem OpsW.mkc {k n : Nat} {i j : Int} {kx ky : IntKind} (H : Sat z w As) (hg : wan gd σ g = some true) (hx : ev σ x = .int kx i) (hy : ev σ y = .int ky j) (hi : i = k) (hj : j = n) (hkn : k ≤ n) (hn : n ≤ 1000000)
    (hk : Nat.beq (C.T.kind.getD t 0) 4 = true) (he : Nat.blt 0 (C.T.kind.getD (C.T.elem.getD t 0) 0) = true) (hby : ((C.P.info? (C.T.elem.getD t 0)).elim false fun i => Nat.ble i.bytes 4096) = true) (hzc : (C.T.zero.getD (C.T.elem.getD t 0) []).length = C.T.size.getD (C.T.elem.getD t 0) 0) (hd : Nat.blt d N = true)
    (K : ∀ b' w', Sat z w' (blk b' (C.T.elem.getD t 0) (repl n (C.T.zero.getD (C.T.elem.getD t 0) [])) :: As) → OpsW C N gd r (upd σ d (.slice (some ⟨b', 0, none⟩) k n)) w' Q) :
    OpsW C N gd (⟨some d, .makeSlice t x y, ty, pos, af, g⟩ :: r) σ w Q := by
  have hu := Tab.slice_ C.ok (Nat.eq_of_beq_eq_true hk)
  have he0 : C.T.kind.getD (C.T.elem.getD t 0) 0 ≠ 0 := by have := Nat.le_of_ble_eq_true he; omega
  obtain ⟨ie, hie, hs, hz⟩ := Tab.zero_ C.ok (rfl : C.T.kind.getD (C.T.elem.getD t 0) 0 = _) he0
  have hzc' := zeroV_cells C.ok (rfl : C.T.kind.getD (C.T.elem.getD t 0) 0 = _) he0
  rw [hie] at hby
  have hby : ie.bytes ≤ 4096 := Nat.le_of_ble_eq_true hby
  have hbytes : ie.bytes * n ≤ 4096 * 1000000 := Nat.mul_le_mul hby hn
  have hbi : (ie.bytes : Int) * (n : Int) ≤ 281474976710656 := by
    have : ((ie.bytes * n : Nat) : Int) ≤ ((4096 * 1000000 : Nat) : Int) := Int.ofNat_le.2 hbytes
    rw [Int.natCast_mul] at this
    omega
  subst hi hj
  have hw : IntKind.wrap .i64 (n : Int) = n := wrap64_id (by omega) (by omega)
  have hwk : IntKind.wrap .i64 (k : Int) = k := wrap64_id (by omega) (by omega)
  refine .val (v := .slice (some ⟨w.heap.size, 0, none⟩) k n) (w' := { w with heap := w.heap.push (.cells (repl n (C.T.zero.getD (C.T.elem.getD t 0) [])).toArray (C.T.elem.getD t 0)) }) hg (run_v ?_) (by simp only [putE, hd]) (K w.heap.size _ (H.new _ _))
  show (Instr.makeSlice t (ev σ x) (ev σ y)).run C.P w = _
  rw [hx, hy]
  have hcells : ∀ zc : Array Value, zc.size = ie.size → (Array.range (n * ie.size)).map (fun i => zc[i % zc.size]!) = (repl n zc.toList).toArray := fun zc h => by
    have := range_repl n zc; rw [h] at this ⊢; exact this
  have hzs : (C.T.zeroV (C.T.elem.getD t 0)).cells.size = ie.size := by rw [hzc', hs, ← hzc]; simp
  have hzl : (C.T.zeroV (C.T.elem.getD t 0)).cells.toList = C.T.zero.getD (C.T.elem.getD t 0) [] := by rw [hzc']
  have hzr : (zeroValue (C.T.elem.getD t 0)).run C.P w = .ok (C.T.zeroV (C.T.elem.getD t 0)) w := run_zeroValue hie hz w
  rw [← hzl]
  clear K hk he hd H hzc hzc' hs he0 hzl hz
  generalize C.T.zeroV (C.T.elem.getD t 0) = zv at *
  generalize C.T.elem.getD t 0 = E at *
  have hti : (typeInfo E).run C.P w = .ok ie w := run_typeInfo hie w
  have hso : (sizeOf E).run C.P w = .ok ie.size w := run_sizeOf hie w
  have hroom : ∀ m, (askRoom m).run C.P w = .ok () w := fun m => by unfold askRoom; split <;> rfl
  rw [Instr.makeSlice, X.run_bind _ _ _ _ _ _ (run_und hu w)]
  dsimp only
  rw [X.run_bind _ _ _ _ _ _ (show (asInt (.int kx (k : Int))).run C.P w = .ok (k : Int) w from rfl)]
  rw [X.run_bind _ _ _ _ _ _ (show (asInt (.int ky (n : Int))).run C.P w = .ok (n : Int) w from rfl)]
  rw [X.run_bind _ _ _ _ _ _ hti]
  simp only [hw, hwk]
  have hf : ((decide ((n : Int) < 0) || decide ((ie.bytes : Int) * (n : Int) > 2 ^ 48)) || decide ((k : Int) < 0) || decide ((k : Int) > (n : Int))) = false := by
    simp only [Bool.or_eq_false_iff, decide_eq_false_iff_not]
    refine ⟨⟨⟨by omega, ?_⟩, by omega⟩, by omega⟩
    show ¬ ((ie.bytes : Int) * (n : Int) > 281474976710656)
    omega
  simp only [hf, Bool.false_eq_true, if_false]
  rw [X.run_bind _ _ _ _ _ _ (hroom _), X.run_bind _ _ _ _ _ _ hso]
  have hn' : ((n : Int)).toNat = n := rfl
  have hk' : ((k : Int)).toNat = k := rfl
  simp only [hn', hk']
  by_cases h0 : n * ie.size = 0
  · have e0 : (repl n zv.cells.toList).toArray = #[] := by
      have : (repl n zv.cells.toList).length = 0 := by rw [repl_length, Array.length_toList, hzs]; exact h0
      rw [List.length_eq_zero_iff.1 this]
    rw [if_pos h0, X.run_bind _ _ _ _ _ _ (show (pure #[] : Sem (Array Value)).run C.P w = .ok #[] w from rfl), e0, h0, show (Array.range 0).map (fun x => (#[] : Array Value)[x % (#[] : Array Value).size]!) = #[] by simp]
    rfl
  · rw [if_neg h0]
    simp only [Sem.run_bind, hzr, Result.andThen_ok, Sem.run_pure]
    rw [hcells _ hzs]
    rfl
theorem OpsW.mks {n : Nat} {i j : Int} {kx ky : IntKind} (H : Sat z w As) (hg : wan gd σ g = some true) (hx : ev σ x = .int kx i) (hy : ev σ y = .int ky j) (hi : i = n) (hj : j = n) (hn : n ≤ 1000000)
    (hk : Nat.beq (C.T.kind.getD t 0) 4 = true) (he : Nat.blt 0 (C.T.kind.getD (C.T.elem.getD t 0) 0) = true) (hby : ((C.P.info? (C.T.elem.getD t 0)).elim false fun i => Nat.ble i.bytes 4096) = true) (hzc : (C.T.zero.getD (C.T.elem.getD t 0) []).length = C.T.size.getD (C.T.elem.getD t 0) 0) (hd : Nat.blt d N = true)
    (K : ∀ b' w', Sat z w' (blk b' (C.T.elem.getD t 0) (repl n (C.T.zero.getD (C.T.elem.getD t 0) [])) :: As) → OpsW C N gd r (upd σ d (.slice (some ⟨b', 0, none⟩) n n)) w' Q) :
    OpsW C N gd (⟨some d, .makeSlice t x y, ty, pos, af, g⟩ :: r) σ w Q :=
  .mkc H hg hx hy hi hj (Nat.le_refl n) hn hk he hby hzc hd K
end
end Go.Proofs.YtbmfpkpcljihgaaDoor.X
namespace Go.Proofs.YtbmfpkpcljihgaaDoor.X
open Go
set_option linter.unusedSimpArgs false
set_option linter.unusedVariables false
section
variable {α : Type} (c : α → List Value) (sz : Nat) (hc : ∀ x, (c x).length = sz)
include hc
theorem fl_length (l : List α) : (l.flatMap c).length = l.length * sz := by
  induction l with
  | nil => simp
  | cons x l ih => rw [List.flatMap_cons, List.length_append, ih, hc, List.length_cons, Nat.succ_mul, Nat.add_comm]
omit hc in
theorem fl_split (l : List α) (i : Nat) (hi : i < l.length) : l.flatMap c = (l.take i).flatMap c ++ (c l[i] ++ (l.drop (i + 1)).flatMap c) := by
  conv => lhs; rw [← List.take_append_drop i l, List.drop_eq_getElem_cons hi]
  rw [List.flatMap_append, List.flatMap_cons]
theorem fl_get (l : List α) (rest : List Value) (i o : Nat) (hi : i < l.length) (ho : o < sz) : (l.flatMap c ++ rest)[i * sz + o]? = (c l[i])[o]? := by
  have h1 : ((l.take i).flatMap c).length = i * sz := by rw [fl_length c sz hc, List.length_take, Nat.min_eq_left (by omega)]
  rw [fl_split c l i hi, List.append_assoc, List.getElem?_append_right (by omega), h1, Nat.add_sub_cancel_left, List.append_assoc, List.getElem?_append_left (by rw [hc]; exact ho)]
theorem fl_set (l : List α) (rest : List Value) (i o : Nat) (hi : i < l.length) (ho : o < sz) (v : Value) (x : α) (hx : c x = (c l[i]).set o v) : (l.flatMap c ++ rest).set (i * sz + o) v = (l.set i x).flatMap c ++ rest := by
  have h1 : ((l.take i).flatMap c).length = i * sz := by rw [fl_length c sz hc, List.length_take, Nat.min_eq_left (by omega)]
  have e : (l.set i x).flatMap c = (l.take i).flatMap c ++ (c x ++ (l.drop (i + 1)).flatMap c) := by
    rw [List.set_eq_take_append_cons_drop, if_pos hi, List.flatMap_append, List.flatMap_cons]
  rw [e, fl_split c l i hi, List.append_assoc, List.set_append_right _ _ (by omega), h1, Nat.add_sub_cancel_left, List.append_assoc, List.set_append_left _ _ (by rw [hc]; exact ho), hx]
  simp
theorem fl_take (l : List α) (rest : List Value) (i : Nat) (hi : i < l.length) : ((l.flatMap c ++ rest).drop (i * sz)).take sz = c l[i] := by
  have h1 : ((l.take i).flatMap c).length = i * sz := by rw [fl_length c sz hc, List.length_take, Nat.min_eq_left (by omega)]
  rw [fl_split c l i hi, List.append_assoc, ← h1, List.drop_left, List.append_assoc]
  have h2 : sz = (c l[i]).length := (hc _).symm
  conv => lhs; rw [h2]
  rw [List.take_left]
end
def mk {α : Type} (N : Nat) (f : Nat → α) : List α := (List.range N).map f
section
variable {α : Type} {N : Nat} {f g : Nat → α}
theorem mk_length : (mk N f).length = N := by simp [mk]
theorem mk_get {i : Nat} (h : i < (mk N f).length) : (mk N f)[i] = f i := by simp [mk]
theorem mk_get? {i : Nat} (h : i < N) : (mk N f)[i]? = some (f i) := by simp [mk, h]
theorem mk_getD {i : Nat} {d : α} (h : i < N) : (mk N f).getD i d = f i := by simp [mk, h]
theorem mk_getD_out {i : Nat} {d : α} (h : N ≤ i) : (mk N f).getD i d = d := by
  rw [List.getD_eq_getElem?_getD, List.getElem?_eq_none (by rw [mk_length]; exact h)]; rfl
theorem mk_congr (h : ∀ j, j < N → f j = g j) : mk N f = mk N g := List.map_congr_left fun j hj => h j (List.mem_range.1 hj)
theorem mk_set {i : Nat} {x : α} : (mk N f).set i x = mk N fun j => if j = i then x else f j := by
  apply List.ext_getElem
  · simp [mk]
  · intro j h1 h2
    rw [List.getElem_set, mk_get, mk_get]
    by_cases e : i = j
    · subst e; simp
    · rw [if_neg e, if_neg (fun h => e h.symm)]
theorem mk_rep {x : α} : List.replicate N x = mk N fun _ => x := by
  apply List.ext_getElem
  · simp [mk]
  · intro j h1 h2; rw [mk_get]; simp
theorem mk_find {p : α → Bool} {i : Nat} (hi : i < N) (h1 : p (f i) = true) (h2 : ∀ j, j < i → p (f j) = false) : (mk N f).findIdx? p = some i := by
  rw [List.findIdx?_eq_some_iff_getElem]
  refine ⟨by rw [mk_length]; exact hi, by rw [mk_get]; exact h1, fun j hj => ?_⟩
  rw [mk_get, h2 j hj]; simp
theorem least (p : Nat → Bool) : ∀ N : Nat, (∃ i, i < N ∧ p i = true ∧ ∀ j, j < i → p j = false) ∨ ∀ j, j < N → p j = false
  | 0 => .inr fun j h => absurd h (Nat.not_lt_zero j)
  | N + 1 => by
    rcases least p N with ⟨i, h1, h2, h3⟩ | h
    · exact .inl ⟨i, by omega, h2, h3⟩
    · cases e : p N with
      | true => exact .inl ⟨N, by omega, e, h⟩
      | false =>
        refine .inr fun j hj => ?_
        by_cases hjN : j = N
        · subst hjN; exact e
        · exact h j (by omega)
end
theorem SlR.at_ {As : List HP} {a : Option Addr} {n cap sz : Nat} {c : List Value} (h : SlR As (.slice a n cap) sz n c) (h0 : 0 < n) :
    ∃ b off m E fr, a = some ⟨b, off, none⟩ ∧ Has As b (.cells m E fr) ∧ ∀ i o, i < n → o < sz → m[off + i * sz + o]? = c[i * sz + o]? := by
  obtain ⟨h1, a', cap', e, hcp, h2⟩ := h
  simp only [Value.slice.injEq] at e
  obtain ⟨rfl, -, rfl⟩ := e
  rcases h2 with h2 | ⟨b, off, m, E, fr, h3, h4, h5⟩
  · omega
  · refine ⟨b, off, m, E, fr, h3, h4, fun i o hi ho => ?_⟩
    have hle : (i + 1) * sz ≤ n * sz := Nat.mul_le_mul_right _ hi
    rw [Nat.succ_mul] at hle
    rw [Nat.add_assoc]
    exact h5 _ (by omega)
theorem Agree.mixL {D D' : Nat → Bool} {τ σ σ₀ : Env} (h : Agree D σ σ₀) (hd : ∀ j, D' j = true → D j = true) : ∀ {l : List (Nat × Value)}, l.all (fun p => D p.1) = true → Agree D (upds (X.mix D' τ σ) l) σ₀ := by
  have key : ∀ (l : List (Nat × Value)) (σ : Env), Agree D σ σ₀ → l.all (fun p => D p.1) = true → Agree D (upds σ l) σ₀ := by
    intro l
    induction l with
    | nil => intro σ h _; exact h
    | cons p l ih =>
      intro σ h hl
      obtain ⟨d, v⟩ := p
      rw [List.all_cons, Bool.and_eq_true] at hl
      exact Agree.upd (ih σ h hl.2) hl.1
  intro l hl
  exact key l _ (Agree.mix h hd) hl
section
variable {C : Cfg} {N : Nat} {gd : List (Option Nat)} {r : List Oper} {σ : Env} {w z : World} {Q : Env → World → Prop} {As Rs : List HP} {x y : Operand} {d t b off n1 cap1 n2 sz : Nat} {ty : TypeId} {pos : String} {af : Array Edge} {g : Option (Nat × Bool)} {v2 : Value} {c c1 c2 rest : List Value} {a : Option Addr}
end
section
variable {C : Cfg} {N n : Nat} {σ σ' : Env} {w : World} {l : List Oper} {M : List Bool} {Q : Env → World → Prop} {x y : Operand} {d t sz : Nat} {ty : TypeId} {pos : String} {af : Array Edge} {g : Option (Nat × Bool)} {a : Option Addr}
theorem AnyN.takeG {i : Nat} {o : Oper} {v : Value} (hM : M[i]? = some false) (ho : l[i]? = some o) (hg : wan (dsts l) σ o.guard = some true) (hrun : ∀ w, (execOp (ev σ) o).run C.P w = .ok (.value v) w) (hp : putE N σ o.dst v = some σ') (hf : takeOk l M i = true)
    (h : AnyN C N l n (M.set i true) σ' w Q) : AnyN C N l (n + 1) M σ w Q := by
  intro b R
  simp only [takeOk, Bool.and_eq_true] at hf
  obtain ⟨⟨h1, h2⟩, h3⟩ := hf
  have ho' : l.toArray[i]? = some o := by rw [List.getElem?_toArray]; exact ho
  have hm : l.toArray.toList.map (·.dst) = dsts l := by simp [dsts]
  refine wpAny_take (v := v) ho' h1 h2 h3 (fun c a w hc => hc.elim) (.inl ⟨wan_eq hg hm R, fun w => by rw [R.eval]; exact hrun w⟩) ?_
  have := h _ (R.putE hp)
  simpa using this
end
def GlobV (As : List HP) (g : Nat) (v : Value) : Prop := ∃ (c : Array Value) (E : TypeId) (fr : Nat × Nat), Has As g (.cells c E fr) ∧ c[0]? = some v
theorem GlobV.tail {A : HP} {As : List HP} {g : Nat} {v : Value} (h : GlobV As g v) : GlobV (A :: As) g v := by
  obtain ⟨c, E, fr, h1, h2⟩ := h; exact ⟨c, E, fr, h1.tail, h2⟩
theorem GlobV.perm {As Bs : List HP} {g : Nat} {v : Value} (h : GlobV As g v) (p : Bs.Perm As) : GlobV Bs g v := by
  obtain ⟨c, E, fr, h1, h2⟩ := h; exact ⟨c, E, fr, h1.perm p, h2⟩
theorem GlobV.of_cell {w : World} {g : Nat} {v : Value} (h : w.cell? ⟨g, 0, none⟩ = some v) : GlobV [snap w] g v := by
  simp only [World.cell?] at h
  cases ho : w.heap[g]? with
  | none => rw [ho] at h; simp at h
  | some o =>
    rw [ho] at h
    cases o with
    | cells c E fr => exact ⟨c, E, fr, Has.of_snap ho, by simpa using h⟩
    | _ => simp at h
section
variable {C : Cfg} {N : Nat} {gd : List (Option Nat)} {r : List Oper} {σ : Env} {w z : World} {Q : Env → World → Prop} {As : List HP} {x : Operand} {d t gl : Nat} {ty : TypeId} {pos : String} {af : Array Edge} {g : Option (Nat × Bool)} {v : Value}
theorem OpsW.ldg (H : Sat z w As) (hG : GlobV As gl v) (hg : wan gd σ g = some true) (ha : ev σ x = .pointer (some ⟨gl, 0, none⟩)) (hk : C.T.isAgg t = false) (h0 : Nat.blt 0 (C.T.kind.getD t 0) = true)
    (hd : Nat.blt d N = true) (k : OpsW C N gd r (upd σ d v) w Q) : OpsW C N gd (⟨some d, .load t x, ty, pos, af, g⟩ :: r) σ w Q := by
  obtain ⟨c, E, fr, h1, h2⟩ := hG
  exact .ldh (H.has h1) hg ha hk h0 h2 hd k
end
end Go.Proofs.YtbmfpkpcljihgaaDoor.X
