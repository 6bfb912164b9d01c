/- The engine of this seat's proofs, part 9: divisions, shifts, new slices; conditions: none. -/
import Derived.Test.YtgaabaohkpjllaaDoorX7
namespace Go.Proofs.YtgaabaohkpjllaaDoor.X
open Go
set_option linter.unusedSimpArgs false
set_option linter.unusedVariables false

section
variable {C : Cfg} {N : Nat} {gd : List (Option Nat)} {r : List Oper} {σ : Env} {w z : World} {Q : Env → World → Prop} {As : List HP} {x y : Operand} {d t : Nat} {ty yt : TypeId} {pos : String} {af : Array Edge} {g : Option (Nat × Bool)} {v : Value} {kd yk : IntKind} {a b : Int}
theorem guard_int (P : Program) (op : BinOp) (t : TypeId) (x y : Operand) (k k' : IntKind) (a b : Int) (w : World) : (eqGuard op t x y (.int k a) (.int k' b)).run P w = .ok () w :=
  guard_noneq P w (.inl (by intro e; cases e)) (by intro c e; cases e)
theorem OpsW.quo (hg : wan gd σ g = some true) (hx : ev σ x = .int kd a) (hy : ev σ y = .int kd b) (hb : b ≠ 0) (hd : Nat.blt d N = true)
    (k : OpsW C N gd r (upd σ d (.int kd (kd.wrap (a.tdiv b)))) w Q) : OpsW C N gd (⟨some d, .binOp .quo t x y yt, ty, pos, af, g⟩ :: r) σ w Q := by
  refine .val (v := .int kd (kd.wrap (a.tdiv b))) (w' := w) hg (run_v ?_) (by simp only [putE, hd]) k
  rw [hx, hy, X.run_bind _ _ _ _ _ _ (guard_int ..)]
  simp [binOp, Op.intDiv, hb]
theorem OpsW.rem (hg : wan gd σ g = some true) (hx : ev σ x = .int kd a) (hy : ev σ y = .int kd b) (hb : b ≠ 0) (hd : Nat.blt d N = true)
    (k : OpsW C N gd r (upd σ d (.int kd (a.tmod b))) w Q) : OpsW C N gd (⟨some d, .binOp .rem t x y yt, ty, pos, af, g⟩ :: r) σ w Q := by
  refine .val (v := .int kd (a.tmod b)) (w' := w) hg (run_v ?_) (by simp only [putE, hd]) k
  rw [hx, hy, X.run_bind _ _ _ _ _ _ (guard_int ..)]
  simp [binOp, Op.intDiv, hb]
theorem OpsW.shl (hg : wan gd σ g = some true) (hx : ev σ x = .int kd a) (hy : ev σ y = .int yk b) (hb : 0 ≤ b) (hd : Nat.blt d N = true)
    (k : OpsW C N gd r (upd σ d (.int kd (kd.wrap (a * 2 ^ min b.toNat kd.bits)))) w Q) : OpsW C N gd (⟨some d, .binOp .shl t x y yt, ty, pos, af, g⟩ :: r) σ w Q := by
  refine .val (v := .int kd (kd.wrap (a * 2 ^ min b.toNat kd.bits))) (w' := w) hg (run_v ?_) (by simp only [putE, hd]) k
  rw [hx, hy, X.run_bind _ _ _ _ _ _ (guard_int ..)]
  simp [binOp, Op.shift, show ¬ b < 0 by omega]
theorem OpsW.shr (hg : wan gd σ g = some true) (hx : ev σ x = .int kd a) (hy : ev σ y = .int yk b) (hb : 0 ≤ b) (hd : Nat.blt d N = true)
    (k : OpsW C N gd r (upd σ d (.int kd (a.fdiv (2 ^ min b.toNat kd.bits)))) w Q) : OpsW C N gd (⟨some d, .binOp .shr t x y yt, ty, pos, af, g⟩ :: r) σ w Q := by
  refine .val (v := .int kd (a.fdiv (2 ^ min b.toNat kd.bits))) (w' := w) hg (run_v ?_) (by simp only [putE, hd]) k
  rw [hx, hy, X.run_bind _ _ _ _ _ _ (guard_int ..)]
  simp [binOp, Op.shift, show ¬ b < 0 by omega]
end

/-! ### New slices -/
def repl : Nat → List Value → List Value
  | 0, _ => []
  | n + 1, z => z ++ repl n z
theorem repl_length (n : Nat) (z : List Value) : (repl n z).length = n * z.length := by
  induction n with
  | zero => simp [repl]
  | succ n ih => simp [repl, ih, Nat.succ_mul]; omega
theorem repl_get (n : Nat) (z : List Value) : ∀ i, i < n * z.length → (repl n z)[i]? = z[i % z.length]? := by
  induction n with
  | zero => intro i h; simp at h
  | succ n ih =>
    intro i h
    simp only [repl]
    by_cases hi : i < z.length
    · rw [List.getElem?_append_left hi, Nat.mod_eq_of_lt hi]
    · rw [List.getElem?_append_right (by omega), ih _ (by rw [Nat.succ_mul] at h; omega)]
      rw [← Nat.mod_eq_sub_mod (by omega)]
theorem range_repl (n : Nat) (z : Array Value) : (Array.range (n * z.size)).map (fun i => z[i % z.size]!) = (repl n z.toList).toArray := by
  apply Array.ext'
  apply List.ext_getElem?
  intro i
  simp only [Array.toList_map, Array.toList_range, List.getElem?_map]
  by_cases hi : i < n * z.size
  · rw [List.getElem?_range hi, repl_get n z.toList i (by simpa using hi)]
    have hz : 0 < z.size := by
      cases h : z.size with
      | zero => rw [h] at hi; simp at hi
      | succ k => omega
    have hm : i % z.size < z.size := Nat.mod_lt _ hz
    simp [hm]
  · rw [List.getElem?_eq_none (by simpa using hi), List.getElem?_eq_none (by rw [repl_length]; simpa using hi)]; rfl
section
variable {C : Cfg} {N : Nat} {gd : List (Option Nat)} {r : List Oper} {σ : Env} {w z : World} {Q : Env → World → Prop} {As : List HP} {x y : Operand} {d t : Nat} {ty yt : TypeId} {pos : String} {af : Array Edge} {g : Option (Nat × Bool)} {v : Value}
theorem zeroV_cells {T : Tab} {P : Program} (hT : T.ok P = true) {t k : Nat} (hk : T.kind.getD t 0 = k) (h0 : k ≠ 0) : (T.zeroV t).cells = (T.zero.getD t []).toArray := by
  obtain ⟨i, dd, hi, hd, hs, hz, k2⟩ := Tab.at_ hT hk h0
  have ha : T.isAgg t = (k == 5 || k == 6) := by
    unfold Tab.isAgg; rw [hk]
    split
    · simp
    · simp
    · rename_i n5 n6
      have a5 : (k == 5) = false := by simpa using n5
      have a6 : (k == 6) = false := by simpa using n6
      rw [a5, a6]; rfl
  unfold Tab.zeroV
  rw [ha]
  unfold okZero at hz
  split at hz
  · rename_i c e1 e2; rw [e2]; rfl
  · split at hz
    · rename_i bb v e2 e3 ll u e4
      rw [e3]
      simp only [e4]
      have := veq_eq hz
      subst this
      cases v <;> first | rfl | skip
      all_goals (simp [veq] at hz)
    · cases hz
  · cases hz
/-- A slice of given elements. -/
theorem OpsW.bsl {len : Nat} {parts : Array (Nat × Operand)} {l : List Value} {sz : Nat} (H : Sat z w As) (hg : wan gd σ g = some true) (hk : Nat.beq (C.T.kind.getD t 0) 4 = true) (he : Nat.blt 0 (C.T.kind.getD (C.T.elem.getD t 0) 0) = true)
    (hsz : C.T.size[C.T.elem.getD t 0]? = some sz) (hsz1 : (C.T.zero.getD (C.T.elem.getD t 0) []).length = sz) (hm : Nat.ble (len * sz) 1000 = true)
    (hf : fillK (fun i => some (i * sz, sz)) (repl len (C.T.zero.getD (C.T.elem.getD t 0) [])) (mapP σ parts.toList) = some (.agg l.toArray)) (hd : Nat.blt d N = true)
    (k : ∀ b w', Sat z w' (blk b (C.T.elem.getD t 0) l :: As) → OpsW C N gd r (upd σ d (.slice (some ⟨b, 0, none⟩) len len)) w' Q) : OpsW C N gd (⟨some d, .buildSlice t len parts, ty, pos, af, g⟩ :: r) σ w Q := by
  have hu := Tab.slice_ C.ok (Nat.eq_of_beq_eq_true hk)
  have he0 : C.T.kind.getD (C.T.elem.getD t 0) 0 ≠ 0 := by have := Nat.le_of_ble_eq_true he; omega
  obtain ⟨i, hi, hs, hz⟩ := Tab.zero_ C.ok (rfl : C.T.kind.getD (C.T.elem.getD t 0) 0 = _) he0
  have hzc := zeroV_cells C.ok (rfl : C.T.kind.getD (C.T.elem.getD t 0) 0 = _) he0
  have hs' : C.T.size.getD (C.T.elem.getD t 0) 0 = sz := by rw [List.getD_eq_getElem?_getD, hsz]; rfl
  have hm' := Nat.le_of_ble_eq_true hm
  obtain ⟨c, hc, e⟩ := fill_run _ _ _ _ hf
  simp only [Value.agg.injEq] at e
  subst e
  have hp : (parts.map (fun (p : Nat × Operand) => ((p.1, ev σ p.2) : Nat × Value))).toList = mapP σ parts.toList := by rw [mapP_eq, Array.toList_map]
  refine .val (v := .slice (some ⟨w.heap.size, 0, none⟩) len len) (w' := { w with heap := w.heap.push (.cells l.toArray (C.T.elem.getD t 0)) }) hg (run_v ?_) (by simp only [putE, hd]) (k w.heap.size _ (H.new _ l))
  rw [Instr.buildSlice, X.run_bind _ _ _ _ _ _ (run_und hu w)]
  dsimp only
  rw [X.run_bind _ _ _ _ _ _ (run_sizeOf hi w), hs, hs', if_neg (by omega)]
  by_cases h0 : len * sz = 0
  · rw [if_pos h0]
    have e0 : (Array.range (len * sz)).map (fun i => (#[] : Array Value)[i % (#[] : Array Value).size]!) = (repl len (C.T.zero.getD (C.T.elem.getD t 0) [])).toArray := by
      rw [h0]
      have : (repl len (C.T.zero.getD (C.T.elem.getD t 0) [])).length = 0 := by rw [repl_length, hsz1]; exact h0
      rw [List.length_eq_zero_iff.1 this]; simp
    show (match Instr.fill (fun i => some (i * sz, sz)) ((Array.range (len * sz)).map (fun i => (#[] : Array Value)[i % (#[] : Array Value).size]!)) ((parts.map (fun (p : Nat × Operand) => ((p.1, ev σ p.2) : Nat × Value))).toList) with | some cells => (newRow (C.T.elem.getD t 0) cells >>= fun a => pure (Value.slice (some a) len len)) | _ => stuck "buildSlice: a part of the wrong size").run C.P w = _
    rw [e0, hp, hc]
    rfl
  · rw [if_neg h0]
    refine (X.run_bind _ _ _ _ _ _ (run_zeroValue hi hz w)).trans ?_
    have e0 : (Array.range (len * sz)).map (fun i => (C.T.zero.getD (C.T.elem.getD t 0) []).toArray[i % (C.T.zero.getD (C.T.elem.getD t 0) []).toArray.size]!) = (repl len (C.T.zero.getD (C.T.elem.getD t 0) [])).toArray := by
      have h2 := range_repl len (C.T.zero.getD (C.T.elem.getD t 0) []).toArray
      have e3 : (C.T.zero.getD (C.T.elem.getD t 0) []).toArray.size = sz := by rw [List.size_toArray]; exact hsz1
      rw [e3] at h2
      rw [e3]
      exact h2
    rw [hzc]
    show (match Instr.fill (fun i => some (i * sz, sz)) ((Array.range (len * sz)).map (fun i => (C.T.zero.getD (C.T.elem.getD t 0) []).toArray[i % (C.T.zero.getD (C.T.elem.getD t 0) []).toArray.size]!)) ((parts.map (fun (p : Nat × Operand) => ((p.1, ev σ p.2) : Nat × Value))).toList) with | some cells => (newRow (C.T.elem.getD t 0) cells >>= fun a => pure (Value.slice (some a) len len)) | _ => stuck "buildSlice: a part of the wrong size").run C.P w = _
    rw [e0, hp, hc]
    rfl
/-! ### A part of a slice that is read -/
theorem sub_run {P : Program} {e : TypeId} {i : TypeInfo} (hu : P.underlying t = some (.slice e)) (hi : P.info? e = some i) {a : Option Addr} {n cap l h : Nat} {lo hi_ : Option Value} {kl kh : IntKind}
    (hlo : lo = none ∧ l = 0 ∨ lo = some (.int kl l)) (hhi : hi_ = none ∧ h = n ∨ hi_ = some (.int kh h)) (h1 : l ≤ h) (h2 : h ≤ cap) :
    (Instr.sliceAt t (.slice a n cap) lo hi_ none).run P w = .ok (.slice (if cap = l then a else a.map (·.add (l * i.size))) (h - l) (cap - l)) w := by
  rw [Instr.sliceAt, X.run_bind _ _ _ _ _ _ (run_und hu w)]
  dsimp only
  rw [Instr.slice, X.run_bind _ _ _ _ _ _ (run_und hu w)]
  dsimp only
  have hb : (Instr.sliceBounds true n cap lo hi_ none).run P w = .ok (l, h, cap) w := by
    rcases hlo with ⟨rfl, rfl⟩ | rfl <;> rcases hhi with ⟨rfl, rfl⟩ | rfl <;>
      simp [Instr.sliceBounds, Instr.sliceBound, asIntOf, h1, h2]
  rw [X.run_bind _ _ _ _ _ _ hb]
  dsimp only
  rw [X.run_bind _ _ _ _ _ _ (run_sizeOf hi w)]
  rfl
theorem SlR.sub {n l h sz cap : Nat} {c : List Value} {a : Option Addr} (hs : SlR As (.slice a n cap) sz n c) (h1 : l ≤ h) (h2 : h ≤ n) :
    SlR As (.slice (if cap = l then a else a.map (·.add (l * sz))) (h - l) (cap - l)) sz (h - l) ((c.drop (l * sz)).take ((h - l) * sz)) := by
  obtain ⟨e1, a', cap', e, hc, h3⟩ := hs
  simp only [Value.slice.injEq] at e
  obtain ⟨rfl, -, rfl⟩ := e
  have hm : h * sz ≤ n * sz := Nat.mul_le_mul_right _ h2
  have hm2 : l * sz ≤ h * sz := Nat.mul_le_mul_right _ h1
  refine ⟨?_, _, _, rfl, by omega, ?_⟩
  · rw [List.length_take, List.length_drop, e1, Nat.sub_mul]; omega
  by_cases h0 : h - l = 0
  · exact .inl h0
  · right
    rcases h3 with h3 | ⟨b, off, m, E, fr, h3, h4, h5⟩
    · omega
    · refine ⟨b, off + l * sz, m, E, fr, ?_, h4, fun j hj => ?_⟩
      · rw [if_neg (by omega), h3]; simp [add_off]
      · rw [Nat.add_assoc, h5 _ (by rw [Nat.sub_mul] at hj; omega), List.getElem?_take, if_pos hj, List.getElem?_drop]
variable {n k kk sz : Nat} {i : Int} {c : List Value} {sv : Value} {kd : IntKind}
theorem OpsW.slcFrom (h : SlR As sv sz n c) (hg : wan gd σ g = some true) (hx : ev σ x = sv) (hy : ev σ y = .int kd i) (hk : Nat.beq (C.T.kind.getD t 0) 4 = true) (he : Nat.blt 0 (C.T.kind.getD (C.T.elem.getD t 0) 0) = true)
    (hsz : C.T.size[C.T.elem.getD t 0]? = some sz) (hn : i = k) (hl : k ≤ n) (hd : Nat.blt d N = true)
    (K : ∀ v, SlR As v sz (n - k) (c.drop (k * sz)) → OpsW C N gd r (upd σ d v) w Q) : OpsW C N gd (⟨some d, .slice t x (some y) none none, ty, pos, af, g⟩ :: r) σ w Q := by
  have hu := Tab.slice_ C.ok (Nat.eq_of_beq_eq_true hk)
  obtain ⟨ie, hie, hse⟩ := Tab.info_ C.ok (rfl : C.T.kind.getD (C.T.elem.getD t 0) 0 = _) (by have := Nat.le_of_ble_eq_true he; omega)
  have hse' : ie.size = sz := by rw [hse, List.getD_eq_getElem?_getD, hsz]; rfl
  obtain ⟨a, cap, rfl⟩ := lenW h
  have hc : n ≤ cap := by obtain ⟨_, _, _, e, hc, _⟩ := h; simp at e; omega
  have hsub := h.sub hl (Nat.le_refl n)
  have e2 : (c.drop (k * sz)).take ((n - k) * sz) = c.drop (k * sz) := by
    rw [List.take_of_length_le]
    rw [List.length_drop, h.1, Nat.sub_mul]; omega
  rw [e2] at hsub
  refine .val (v := .slice (if cap = k then a else a.map (·.add (k * sz))) (n - k) (cap - k)) (w' := w) hg (run_v ?_) (by simp only [putE, hd]) (K _ hsub)
  subst hn
  have hr := sub_run (w := w) (P := C.P) hu hie (a := a) (n := n) (cap := cap) (l := k) (h := n) (lo := some (.int kd k)) (hi_ := none) (kl := kd) (kh := kd) (.inr rfl) (.inl ⟨rfl, rfl⟩) hl hc
  rw [hse'] at hr
  simpa [hx, hy] using hr
theorem OpsW.slcTo (h : SlR As sv sz n c) (hg : wan gd σ g = some true) (hx : ev σ x = sv) (hy : ev σ y = .int kd i) (hk : Nat.beq (C.T.kind.getD t 0) 4 = true) (he : Nat.blt 0 (C.T.kind.getD (C.T.elem.getD t 0) 0) = true)
    (hsz : C.T.size[C.T.elem.getD t 0]? = some sz) (hn : i = k) (hl : k ≤ n) (hd : Nat.blt d N = true)
    (K : ∀ v, SlR As v sz k (c.take (k * sz)) → OpsW C N gd r (upd σ d v) w Q) : OpsW C N gd (⟨some d, .slice t x none (some y) none, ty, pos, af, g⟩ :: r) σ w Q := by
  have hu := Tab.slice_ C.ok (Nat.eq_of_beq_eq_true hk)
  obtain ⟨ie, hie, hse⟩ := Tab.info_ C.ok (rfl : C.T.kind.getD (C.T.elem.getD t 0) 0 = _) (by have := Nat.le_of_ble_eq_true he; omega)
  have hse' : ie.size = sz := by rw [hse, List.getD_eq_getElem?_getD, hsz]; rfl
  obtain ⟨a, cap, rfl⟩ := lenW h
  have hc : n ≤ cap := by obtain ⟨_, _, _, e, hc, _⟩ := h; simp at e; omega
  have hsub := h.sub (Nat.zero_le k) hl
  simp only [Nat.zero_mul, List.drop_zero, Nat.sub_zero] at hsub
  refine .val (v := .slice (if cap = 0 then a else a.map (·.add 0)) k cap) (w' := w) hg (run_v ?_) (by simp only [putE, hd]) (K _ hsub)
  subst hn
  have hr := sub_run (w := w) (P := C.P) hu hie (a := a) (n := n) (cap := cap) (l := 0) (h := k) (lo := none) (hi_ := some (.int kd k)) (kl := kd) (kh := kd) (.inl ⟨rfl, rfl⟩) (.inr rfl) (Nat.zero_le _) (by omega)
  rw [hse'] at hr
  simp only [Nat.zero_mul, Nat.sub_zero] at hr
  simpa [hx, hy] using hr
end
end Go.Proofs.YtgaabaohkpjllaaDoor.X
