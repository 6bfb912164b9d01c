/- The engine of this seat's proofs, part 14: rows that are ours, whatever room they have; parts of slices; clear; conditions: none. -/
import Derived.Test.YtgaabaohkpjllaaDoorX12
namespace Go.Proofs.YtgaabaohkpjllaaDoor.X
open Go
set_option linter.unusedSimpArgs false
set_option linter.unusedVariables false

section
variable {z w : World} {As Rs : List HP} {A B : HP}
theorem Sat.or_ (H : Sat z w ((fun h => A h ∨ B h) :: As)) : Sat z w (A :: As) ∨ Sat z w (B :: As) := by
  obtain ⟨h, hs, f, g, d, e, a | a, r⟩ := H.part
  · exact .inl ⟨H.os, H.tape, H.output, H.size, h, hs, f, g, d, e, a, r⟩
  · exact .inr ⟨H.os, H.tape, H.output, H.size, h, hs, f, g, d, e, a, r⟩
theorem Sat.and_ {p : Prop} (H : Sat z w ((fun h => p ∧ A h) :: As)) : p ∧ Sat z w (A :: As) := by
  obtain ⟨h, hs, f, g, d, e, ⟨hp, a⟩, r⟩ := H.part
  exact ⟨hp, H.os, H.tape, H.output, H.size, h, hs, f, g, d, e, a, r⟩
theorem Sat.mkemp (H : Sat z w As) : Sat z w (emp :: As) :=
  ⟨H.os, H.tape, H.output, H.size, by obtain ⟨h, hs, r⟩ := H.part; exact ⟨h, hs, nil_, h, Dis.nil_left _, rfl, rfl, r⟩⟩

/-- A row of n elements that is ours, with its room; or none at all. -/
def vec (E : TypeId) (a : Option Addr) (n cap sz : Nat) (c : List Value) : HP := fun h =>
  (∃ b, ∃ rest : List Value, (a = some ⟨b, 0, none⟩ ∧ c.length = n * sz ∧ rest.length = (cap - n) * sz ∧ n ≤ cap) ∧ blk b E (c ++ rest) h) ∨ ((a = none ∧ n = 0 ∧ cap = 0 ∧ c = []) ∧ emp h)
theorem Sat.vcases {E : TypeId} {a : Option Addr} {n cap sz : Nat} {c : List Value} (H : Sat z w (vec E a n cap sz c :: As)) :
    (∃ b, ∃ rest : List Value, (a = some ⟨b, 0, none⟩ ∧ c.length = n * sz ∧ rest.length = (cap - n) * sz ∧ n ≤ cap) ∧ Sat z w (blk b E (c ++ rest) :: As)) ∨ ((a = none ∧ n = 0 ∧ cap = 0 ∧ c = []) ∧ Sat z w (emp :: As)) := by
  rcases H.or_ with H | H
  · obtain ⟨b, H⟩ := H.ex
    obtain ⟨rest, H⟩ := H.ex
    obtain ⟨hp, H⟩ := H.and_
    exact .inl ⟨b, rest, hp, H⟩
  · obtain ⟨hp, H⟩ := H.and_
    exact .inr ⟨hp, H⟩
theorem vec_nil {E : TypeId} {sz : Nat} {h : Hp} (e : emp h) : vec E none 0 0 sz [] h := .inr ⟨⟨rfl, rfl, rfl, rfl⟩, e⟩
theorem Sat.vnil {E : TypeId} {sz : Nat} (H : Sat z w As) : Sat z w (vec E none 0 0 sz [] :: As) := H.mkemp.imp fun _ e => vec_nil e
theorem vec_blk {E : TypeId} {b n cap sz : Nat} {c rest : List Value} {h : Hp} (e : blk b E (c ++ rest) h) (hc : c.length = n * sz) (hr : rest.length = (cap - n) * sz) (hn : n ≤ cap) : vec E (some ⟨b, 0, none⟩) n cap sz c h :=
  .inl ⟨b, rest, ⟨rfl, hc, hr, hn⟩, e⟩
theorem Sat.vopen {E : TypeId} {a : Option Addr} {n cap sz : Nat} {c : List Value} (H : Sat z w (vec E a n cap sz c :: As)) :
    ∃ T : HP, (∀ h, T h → vec E a n cap sz c h) ∧ (∀ Rs, SlR (T :: Rs) (.slice a n cap) sz n c) ∧ Sat z w (T :: As) := by
  rcases H.vcases with ⟨b, rest, ⟨rfl, hc, hr, hn⟩, H2⟩ | ⟨⟨rfl, rfl, rfl, rfl⟩, H2⟩
  · exact ⟨blk b E (c ++ rest), fun h e => vec_blk e hc hr hn, fun Rs => SlR.of_blk hc hn, H2⟩
  · exact ⟨emp, fun h e => vec_nil e, fun Rs => SlR.nil_, H2⟩
theorem Sat.vlen {E : TypeId} {a : Option Addr} {n cap sz : Nat} {c : List Value} (H : Sat z w (vec E a n cap sz c :: As)) : c.length = n * sz ∧ n ≤ cap := by
  rcases H.vcases with ⟨b, rest, ⟨rfl, hc, hr, hn⟩, H⟩ | ⟨⟨rfl, rfl, rfl, rfl⟩, H⟩
  · exact ⟨hc, hn⟩
  · exact ⟨by simp, Nat.le_refl _⟩
end

section
variable {C : Cfg} {N : Nat} {gd : List (Option Nat)} {r : List Oper} {σ : Env} {w z : World} {Q : Env → World → Prop} {As Rs : List HP} {x y : Operand} {d t b off n1 cap1 n2 sz : Nat} {ty : TypeId} {pos : String} {af : Array Edge} {g : Option (Nat × Bool)} {v2 : Value} {c c1 c2 rest : List Value} {a : Option Addr} {dst : Option Nat}
/-- append onto a row that is ours. -/
theorem OpsW.vapp (H : Sat z w As) (hp : As.Perm (vec (C.T.elem.getD t 0) a n1 cap1 sz c1 :: Rs)) (h2 : SlR Rs v2 sz n2 c2) (hs2 : c2.all scal = true) (h0 : 0 < n2) (hn : n1 + n2 ≤ 1000000)
    (hg : wan gd σ g = some true) (hx : ev σ x = .slice a n1 cap1) (hy : ev σ y = v2) (hk : Nat.beq (C.T.kind.getD t 0) 4 = true) (he : Nat.blt 0 (C.T.kind.getD (C.T.elem.getD t 0) 0) = true)
    (hsz : C.T.size.getD (C.T.elem.getD t 0) 0 = sz) (hzc : (C.T.zero.getD (C.T.elem.getD t 0) []).length = sz) (hby : ((C.P.info? (C.T.elem.getD t 0)).elim false fun i => Nat.ble i.bytes 4096) = true) (hd : Nat.blt d N = true)
    (K : ∀ a' cap' w', Sat z w' (vec (C.T.elem.getD t 0) a' (n1 + n2) cap' sz (c1 ++ c2) :: Rs) → OpsW C N gd r (upd σ d (.slice a' (n1 + n2) cap')) w' Q) :
    OpsW C N gd (⟨some d, .call ⟨.builtin .append, #[x, y], #[t, t]⟩, ty, pos, af, g⟩ :: r) σ w Q := by
  have e2 := h2.1
  rcases (H.perm hp).vcases with ⟨b, rest, ⟨rfl, hc, hr, hcap⟩, H⟩ | ⟨⟨rfl, rfl, rfl, rfl⟩, H⟩
  · refine .app H (.refl _) h2 hs2 hn hc hr hcap hg hx hy hk he hsz hzc hby hd fun b' cap' rest' w' h3 h4 H => K _ _ _ (H.imp fun h e => vec_blk e ?_ h4 h3)
    rw [List.length_append, hc, e2, Nat.add_mul]
  · refine .app0 H.drop h2 h0 (by omega) hg hx hy hk he hsz hzc hby hd fun b' cap' rest' w' h3 h4 H => ?_
    have hK := K (some ⟨b', 0, none⟩) cap' w'
    simp only [Nat.zero_add, List.nil_append] at hK
    exact hK (H.imp fun h e => vec_blk e e2 h4 h3)
/-- append within room that is ours, of whatever lies there. -/
theorem OpsW.appIn (H : Sat z w As) (hp : As.Perm (blk b (C.T.elem.getD t 0) c :: Rs)) (h2 : SlR As v2 sz n2 c2) (hs2 : c2.all scal = true) (hroom : n1 + n2 ≤ cap1) (hin : off + (n1 + n2) * sz ≤ c.length)
    (hg : wan gd σ g = some true) (hx : ev σ x = .slice (some ⟨b, off, none⟩) n1 cap1) (hy : ev σ y = v2) (hk : Nat.beq (C.T.kind.getD t 0) 4 = true) (he : Nat.blt 0 (C.T.kind.getD (C.T.elem.getD t 0) 0) = true)
    (hsz : C.T.size.getD (C.T.elem.getD t 0) 0 = sz) (hd : Nat.blt d N = true)
    (K : ∀ w', Sat z w' (blk b (C.T.elem.getD t 0) (splice c (off + n1 * sz) c2) :: Rs) → OpsW C N gd r (upd σ d (.slice (some ⟨b, off, none⟩) (n1 + n2) cap1)) w' Q) :
    OpsW C N gd (⟨some d, .call ⟨.builtin .append, #[x, y], #[t, t]⟩, ty, pos, af, g⟩ :: r) σ w Q := by
  have hu := Tab.slice_ C.ok (Nat.eq_of_beq_eq_true hk)
  obtain ⟨i, hi, hs⟩ := Tab.info_ C.ok (rfl : C.T.kind.getD (C.T.elem.getD t 0) 0 = _) (by have := Nat.le_of_ble_eq_true he; omega)
  have hf := first_run (P := C.P) H h2
  have hlen2 := h2.1
  obtain ⟨a2, cp2, rfl⟩ := lenW h2
  obtain ⟨w', hw, H'⟩ := storeCells_run (P := C.P) c2 (off := off + n1 * sz) 0 (H.perm hp) (by rw [hlen2]; rw [Nat.add_mul] at hin; omega) hs2
  rw [Nat.add_zero] at H'
  refine .val (v := .slice (some ⟨b, off, none⟩) (n1 + n2) cap1) (w' := w') hg ?_ (by simp only [putE, hd]) (K w' H')
  refine run_v ?_
  have e : (#[x, y] : Array Operand).map (ev σ) = #[ev σ x, ev σ y] := by simp
  show (Builtin.append_ #[t, t] ty ((#[x, y] : Array Operand).map (ev σ))).run C.P w = _
  rw [e, hx, hy]
  have hs' : i.size = sz := hs.trans hsz
  clear K H' hs hsz hin hp
  subst hs'
  generalize C.T.elem.getD t 0 = E at *
  simp [Builtin.append_, run_underlying hu, sizeOf, typeInfo, hi, Builtin.lenOf, hroom, hf, add_off, hw]

/-! ### Parts of slices, with their values -/
theorem slc_run {P : Program} {e : TypeId} {i : TypeInfo} (hu : P.underlying t = some (.slice e)) (hi : P.info? e = some i) {n cap l h m : Nat} {lo hi_ mx : Option Value}
    (hb : (Instr.sliceBounds true n cap lo hi_ mx).run P w = .ok (l, h, m) w) :
    (Instr.sliceAt t (.slice a n cap) lo hi_ mx).run P w = .ok (.slice (if m = l then a else a.map (·.add (l * i.size))) (h - l) (m - l)) w := by
  rw [Instr.sliceAt, X.run_bind _ _ _ _ _ _ (run_und hu w)]
  dsimp only
  rw [Instr.slice, X.run_bind _ _ _ _ _ _ (run_und hu w)]
  dsimp only
  rw [X.run_bind _ _ _ _ _ _ hb]
  dsimp only
  rw [X.run_bind _ _ _ _ _ _ (run_sizeOf hi w)]
  rfl
theorem OpsW.slcG {n cap l h m : Nat} {lo hi mx : Option Operand} (hg : wan gd σ g = some true) (hx : ev σ x = .slice a n cap)
    (hb : (Instr.sliceBounds true n cap (lo.map (ev σ)) (hi.map (ev σ)) (mx.map (ev σ))).run C.P w = .ok (l, h, m) w) (hk : Nat.beq (C.T.kind.getD t 0) 4 = true) (he : Nat.blt 0 (C.T.kind.getD (C.T.elem.getD t 0) 0) = true)
    (hsz : C.T.size.getD (C.T.elem.getD t 0) 0 = sz) (hd : Nat.blt d N = true)
    (K : OpsW C N gd r (upd σ d (.slice (if m = l then a else a.map (·.add (l * sz))) (h - l) (m - l))) w Q) : OpsW C N gd (⟨some d, .slice t x lo hi mx, ty, pos, af, g⟩ :: r) σ w Q := by
  have hu := Tab.slice_ C.ok (Nat.eq_of_beq_eq_true hk)
  obtain ⟨ie, hie, hse⟩ := Tab.info_ C.ok (rfl : C.T.kind.getD (C.T.elem.getD t 0) 0 = _) (by have := Nat.le_of_ble_eq_true he; omega)
  have hs' : ie.size = sz := hse.trans hsz
  refine .val (v := .slice (if m = l then a else a.map (·.add (l * sz))) (h - l) (m - l)) (w' := w) hg (run_v ?_) (by simp only [putE, hd]) K
  have hr := slc_run (w := w) (P := C.P) hu hie (a := a) hb
  rw [hs'] at hr
  simpa [hx] using hr
theorem add0 (a : Option Addr) : a.map (·.add 0) = a := by cases a <;> simp [Addr.add]
/-- s[:k], as a value. -/
theorem OpsW.slcT {n cap k : Nat} {i : Int} {kd : IntKind} (hg : wan gd σ g = some true) (hx : ev σ x = .slice a n cap) (hy : ev σ y = .int kd i) (hk : Nat.beq (C.T.kind.getD t 0) 4 = true) (he : Nat.blt 0 (C.T.kind.getD (C.T.elem.getD t 0) 0) = true)
    (hn : i = k) (hl : k ≤ cap) (hd : Nat.blt d N = true)
    (K : OpsW C N gd r (upd σ d (.slice a k cap)) w Q) : OpsW C N gd (⟨some d, .slice t x none (some y) none, ty, pos, af, g⟩ :: r) σ w Q := by
  subst hn
  refine .slcG (l := 0) (h := k) (m := cap) hg hx ?_ hk he rfl hd ?_
  · simp [Instr.sliceBounds, Instr.sliceBound, asIntOf, hy, hl]
  · rw [Nat.zero_mul, add0]; simpa using K
/-- s[k:], as a value. -/
theorem OpsW.slcF {n cap k : Nat} {i : Int} {kd : IntKind} (hg : wan gd σ g = some true) (hx : ev σ x = .slice a n cap) (hy : ev σ y = .int kd i) (hk : Nat.beq (C.T.kind.getD t 0) 4 = true) (he : Nat.blt 0 (C.T.kind.getD (C.T.elem.getD t 0) 0) = true)
    (hsz : C.T.size.getD (C.T.elem.getD t 0) 0 = sz) (hn : i = k) (hl : k ≤ n) (hc : n ≤ cap) (hd : Nat.blt d N = true)
    (K : OpsW C N gd r (upd σ d (.slice (if cap = k then a else a.map (·.add (k * sz))) (n - k) (cap - k))) w Q) : OpsW C N gd (⟨some d, .slice t x (some y) none none, ty, pos, af, g⟩ :: r) σ w Q := by
  subst hn
  refine .slcG (l := k) (h := n) (m := cap) hg hx ?_ hk he hsz hd K
  simp [Instr.sliceBounds, Instr.sliceBound, asIntOf, hy, hl, hc]
/-- s[k:j], as a value. -/
theorem OpsW.slcFT {n cap k j : Nat} {i i' : Int} {kd kd' : IntKind} {y' : Operand} (hg : wan gd σ g = some true) (hx : ev σ x = .slice a n cap) (hy : ev σ y = .int kd i) (hy' : ev σ y' = .int kd' i') (hk : Nat.beq (C.T.kind.getD t 0) 4 = true) (he : Nat.blt 0 (C.T.kind.getD (C.T.elem.getD t 0) 0) = true)
    (hsz : C.T.size.getD (C.T.elem.getD t 0) 0 = sz) (hn : i = k) (hj : i' = j) (hl : k ≤ j) (hc : j ≤ cap) (hd : Nat.blt d N = true)
    (K : OpsW C N gd r (upd σ d (.slice (if cap = k then a else a.map (·.add (k * sz))) (j - k) (cap - k))) w Q) : OpsW C N gd (⟨some d, .slice t x (some y) (some y') none, ty, pos, af, g⟩ :: r) σ w Q := by
  subst hn hj
  refine .slcG (l := k) (h := j) (m := cap) hg hx ?_ hk he hsz hd K
  simp [Instr.sliceBounds, Instr.sliceBound, asIntOf, hy, hy', hl, hc]
/-- s[k:j:m], as a value. -/
theorem OpsW.slc3 {n cap k j m : Nat} {i i' i'' : Int} {kd kd' kd'' : IntKind} {y' y'' : Operand} (hg : wan gd σ g = some true) (hx : ev σ x = .slice a n cap) (hy : ev σ y = .int kd i) (hy' : ev σ y' = .int kd' i') (hy'' : ev σ y'' = .int kd'' i'') (hk : Nat.beq (C.T.kind.getD t 0) 4 = true) (he : Nat.blt 0 (C.T.kind.getD (C.T.elem.getD t 0) 0) = true)
    (hsz : C.T.size.getD (C.T.elem.getD t 0) 0 = sz) (hn : i = k) (hj : i' = j) (hm : i'' = m) (hl : k ≤ j) (hc : j ≤ m) (hm' : m ≤ cap) (hd : Nat.blt d N = true)
    (K : OpsW C N gd r (upd σ d (.slice (if m = k then a else a.map (·.add (k * sz))) (j - k) (m - k))) w Q) : OpsW C N gd (⟨some d, .slice t x (some y) (some y') (some y''), ty, pos, af, g⟩ :: r) σ w Q := by
  subst hn hj hm
  refine .slcG (l := k) (h := j) (m := m) hg hx ?_ hk he hsz hd K
  simp [Instr.sliceBounds, Instr.sliceBound, asIntOf, hy, hy', hy'', hl, hc, hm']
theorem SlR.to_ {n k cap : Nat} (hs : SlR As (.slice a n cap) sz n c) (h : k ≤ n) : SlR As (.slice a k cap) sz k (c.take (k * sz)) := by
  have := hs.sub (Nat.zero_le k) h
  rw [Nat.zero_mul, add0] at this
  simpa using this
theorem SlR.from_ {n k cap : Nat} (hs : SlR As (.slice a n cap) sz n c) (h : k ≤ n) : SlR As (.slice (if cap = k then a else a.map (·.add (k * sz))) (n - k) (cap - k)) sz (n - k) (c.drop (k * sz)) := by
  have := hs.sub h (Nat.le_refl n)
  rwa [List.take_of_length_le (by rw [List.length_drop, hs.1, Nat.sub_mul]; omega)] at this

/-! ### clear -/
theorem repl_all {p : Value → Bool} {l : List Value} (h : l.all p = true) : ∀ n, (repl n l).all p = true := by
  intro n
  induction n with
  | zero => rfl
  | succ n ih => rw [repl, List.all_append, h, ih]; rfl
theorem zeroCells_repl (n : Nat) (zc : Array Value) : (Builtin.zeroCells zc n).toList = repl n zc.toList := by
  have := range_repl n zc
  unfold Builtin.zeroCells
  rw [this]
theorem OpsW.clr {n cap : Nat} (H : Sat z w As) (hp : As.Perm (blk b (C.T.elem.getD t 0) c :: Rs)) (hin : 0 < n → off + n * sz ≤ c.length)
    (hg : wan gd σ g = some true) (hx : ev σ x = .slice (some ⟨b, off, none⟩) n cap) (hk : Nat.beq (C.T.kind.getD t 0) 4 = true) (he : Nat.blt 0 (C.T.kind.getD (C.T.elem.getD t 0) 0) = true)
    (hzc : (C.T.zero.getD (C.T.elem.getD t 0) []).length = sz) (hza : (C.T.zero.getD (C.T.elem.getD t 0) []).all scal = true) (hdst : dst = none)
    (K : ∀ w' zs, zs.length = n * sz → zs.all scal = true → Sat z w' (blk b (C.T.elem.getD t 0) (splice c off zs) :: Rs) → OpsW C N gd r σ w' Q) :
    OpsW C N gd (⟨dst, .call ⟨.builtin .clear, #[x], #[t]⟩, ty, pos, af, g⟩ :: r) σ w Q := by
  subst hdst
  have hu := Tab.slice_ C.ok (Nat.eq_of_beq_eq_true hk)
  have he0 : C.T.kind.getD (C.T.elem.getD t 0) 0 ≠ 0 := by have := Nat.le_of_ble_eq_true he; omega
  obtain ⟨i, hi, hs, hz⟩ := Tab.zero_ C.ok (rfl : C.T.kind.getD (C.T.elem.getD t 0) 0 = _) he0
  have hzc' := zeroV_cells C.ok (rfl : C.T.kind.getD (C.T.elem.getD t 0) 0 = _) he0
  have e : (#[x] : Array Operand).map (ev σ) = #[ev σ x] := by simp
  have H' := H.perm hp
  cases n with
  | zero =>
    refine .val (v := .tuple #[]) (w' := w) hg ?_ rfl (K w [] (by simp) rfl H')
    refine run_v ?_
    show (Builtin.clear_ #[t] ty ((#[x] : Array Operand).map (ev σ))).run C.P w = _
    rw [e, hx]
    simp [Builtin.clear_, run_underlying hu]
  | succ n =>
    have hlen : (repl (n + 1) (C.T.zero.getD (C.T.elem.getD t 0) [])).length = (n + 1) * sz := by rw [repl_length, hzc]
    obtain ⟨w', hw, H2⟩ := storeCells_run (P := C.P) (repl (n + 1) (C.T.zero.getD (C.T.elem.getD t 0) [])) (off := off) 0 H' (by rw [hlen]; have := hin (Nat.succ_pos n); omega) (repl_all hza _)
    rw [Nat.add_zero] at H2
    refine .val (v := .tuple #[]) (w' := w') hg ?_ rfl (K w' _ hlen (repl_all hza _) H2)
    refine run_v ?_
    show (Builtin.clear_ #[t] ty ((#[x] : Array Operand).map (ev σ))).run C.P w = _
    rw [e, hx]
    have hzc'' : (C.T.zeroV (C.T.elem.getD t 0)).cells.toList = C.T.zero.getD (C.T.elem.getD t 0) [] := by rw [hzc']
    have hzv : (zeroValue (C.T.elem.getD t 0)).run C.P w = .ok (C.T.zeroV (C.T.elem.getD t 0)) w := run_zeroValue hi hz w
    rw [← hzc''] at hw
    clear K H2 hlen H' hp hzc hza
    generalize C.T.zeroV (C.T.elem.getD t 0) = zv at *
    generalize C.T.elem.getD t 0 = E at *
    simp only [Builtin.clear_]
    simp [run_underlying hu, hzv, zeroCells_repl, hw]
end
/-! ### splice -/
theorem splice_mid (m vs : List Value) : ∀ a r : List Value, vs.length = m.length → splice (a ++ m ++ r) a.length vs = a ++ vs ++ r := by
  intro a r h
  rw [List.append_assoc, splice_app vs a (m ++ r) (by rw [List.length_append]; omega), h, List.drop_left]
end Go.Proofs.YtgaabaohkpjllaaDoor.X
