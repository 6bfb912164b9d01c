/- The engine of this seat's proofs, part 18: values put in another form as they are made; conditions: none. -/
import Derived.Test.YtnfefbhjdncccaaDoorGB
namespace Go.Proofs.YtnfefbhjdncccaaDoor.X
open Go
set_option linter.unusedSimpArgs false
set_option linter.unusedVariables false
section
variable {C : Cfg} {N : Nat} {gd : List (Option Nat)} {r : List Oper} {σ : Env} {w z : World} {Q : Env → World → Prop} {d : Nat}
theorem OpsW.stV {o : Oper} {v0 v : Value} (h : stepE C.T N gd σ o = some (upd σ d v0)) (e : v0 = v) (k : OpsW C N gd r (upd σ d v) w Q) : OpsW C N gd (o :: r) σ w Q := by
  subst e; exact .st h k
end
theorem upds_self {σ : Env} : ∀ {l : List (Nat × Value)}, AllEq σ l → upds σ l = σ
  | [], _ => rfl
  | (d, v) :: l, ⟨h1, h2⟩ => by rw [upds, upds_self h2, upd_self h1]
theorem CW.trim {C : Cfg} {N : Nat} {x : Code} {σ : Env} {w : World} {Q : Post} (l : List (Nat × Value)) (h : AllEq σ l) (k : ∀ τ, upds τ l = σ → CW C N x (upds τ l) w Q) : CW C N x σ w Q := by
  have := k σ (upds_self h); rwa [upds_self h] at this
theorem OpsW.trim {C : Cfg} {N : Nat} {gd : List (Option Nat)} {r : List Oper} {σ : Env} {w : World} {Q : Env → World → Prop} (l : List (Nat × Value)) (h : AllEq σ l) (k : ∀ τ, upds τ l = σ → OpsW C N gd r (upds τ l) w Q) : OpsW C N gd r σ w Q := by
  have := k σ (upds_self h); rwa [upds_self h] at this
theorem Agree.trim {D : Nat → Bool} {τ σ σ₀ : Env} {l : List (Nat × Value)} (hτ : upds τ l = σ) (h : Agree D σ σ₀) : Agree D (upds τ l) σ₀ := hτ ▸ h
end Go.Proofs.YtnfefbhjdncccaaDoor.X
namespace Go.Proofs.YtnfefbhjdncccaaDoor.X
open Go
set_option linter.unusedSimpArgs false
set_option linter.unusedVariables false
section
variable {α : Type} (c : α → List Value) (sz : Nat) (hc : ∀ x, (c x).length = sz)
include hc
theorem fl_splice (l : List α) (i : Nat) (hi : i < l.length) (x : α) : splice (l.flatMap c) (i * sz) (c x) = (l.set i x).flatMap c := by
  have h1 : ((l.take i).flatMap c).length = i * sz := by rw [fl_length c sz hc, List.length_take, Nat.min_eq_left (by omega)]
  rw [fl_split c l i hi, ← List.append_assoc, ← h1, splice_mid _ _ _ _ (by rw [hc, hc])]
  rw [List.set_eq_take_append_cons_drop, if_pos hi, List.flatMap_append, List.flatMap_cons, List.append_assoc]
end
section
variable {C : Cfg} {N : Nat} {gd : List (Option Nat)} {r : List Oper} {σ σ' : Env} {w z : World} {Q : Env → World → Prop} {As Rs : List HP} {x y : Operand} {d t t2 b off n1 cap1 n2 sz : Nat} {ty E : TypeId} {pos : String} {af : Array Edge} {g : Option (Nat × Bool)} {v2 : Value} {c c2 : List Value} {dst : Option Nat}
theorem OpsW.cpy (H : Sat z w As) (hp : As.Perm (blk b E c :: Rs)) (h2 : SlR As v2 sz n2 c2) (hs2 : c2.all scal = true) (hroom : n2 ≤ n1) (hin : off + n2 * sz ≤ c.length)
    (hg : wan gd σ g = some true) (hx : ev σ x = .slice (some ⟨b, off, none⟩) n1 cap1) (hy : ev σ y = v2) (hk : Nat.beq (C.T.kind.getD t 0) 4 = true) (he : Nat.blt 0 (C.T.kind.getD (C.T.elem.getD t 0) 0) = true)
    (hsz : C.T.size.getD (C.T.elem.getD t 0) 0 = sz) (hd : putE N σ dst (.int .i64 n2) = some σ')
    (K : ∀ w', Sat z w' (blk b E (splice c off c2) :: Rs) → OpsW C N gd r σ' w' Q) :
    OpsW C N gd (⟨dst, .call ⟨.builtin .copy, #[x, y], #[t, t2]⟩, ty, pos, af, g⟩ :: r) σ w Q := by
  have hu := Tab.slice_ C.ok (Nat.eq_of_beq_eq_true hk)
  obtain ⟨i, hi, hs⟩ := Tab.info_ C.ok (rfl : C.T.kind.getD (C.T.elem.getD t 0) 0 = _) (by have := Nat.le_of_ble_eq_true he; omega)
  have hf := first_run (P := C.P) H h2
  have hlen2 := h2.1
  obtain ⟨a2, cp2, rfl⟩ := lenW h2
  obtain ⟨w', hw, H'⟩ := storeCells_run (P := C.P) c2 (off := off) 0 (H.perm hp) (by rw [hlen2]; omega) hs2
  rw [Nat.add_zero] at H'
  refine .val (v := .int .i64 n2) (w' := w') hg ?_ hd (K w' H')
  refine run_v ?_
  have e : (#[x, y] : Array Operand).map (ev σ) = #[ev σ x, ev σ y] := by simp
  show (Builtin.copy_ #[t, t2] ty ((#[x, y] : Array Operand).map (ev σ))).run C.P w = _
  rw [e, hx, hy]
  have hs' : i.size = sz := hs.trans hsz
  have hmin : Nat.min n2 n1 = n2 := Nat.min_eq_left hroom
  clear K H' hs hsz hin hp
  subst hs'
  generalize C.T.elem.getD t 0 = E at *
  simp [Builtin.copy_, run_underlying hu, sizeOf, typeInfo, hi, Builtin.lenOf, hmin, hf, hw, goInt]
theorem OpsW.slcA {n : Nat} (hg : wan gd σ g = some true) (hx : ev σ x = .pointer (some ⟨b, off, none⟩)) (hk : Nat.beq (C.T.kind.getD t 0) 5 = true) (he : Nat.blt 0 (C.T.kind.getD (C.T.elem.getD t 0) 0) = true)
    (hn : C.T.alen.getD t 0 = n) (hd : Nat.blt d N = true)
    (K : OpsW C N gd r (upd σ d (.slice (some ⟨b, off, none⟩) n n)) w Q) : OpsW C N gd (⟨some d, .slice t x none none none, ty, pos, af, g⟩ :: r) σ w Q := by
  have hu := Tab.array_ C.ok (Nat.eq_of_beq_eq_true hk)
  obtain ⟨ie, hie, hse⟩ := Tab.info_ C.ok (rfl : C.T.kind.getD (C.T.elem.getD t 0) 0 = _) (by have := Nat.le_of_ble_eq_true he; omega)
  subst hn
  refine .val (v := .slice (some ⟨b, off, none⟩) (C.T.alen.getD t 0) (C.T.alen.getD t 0)) (w' := w) hg (run_v ?_) (by simp only [putE, hd]) K
  show (Instr.sliceAt t (ev σ x) none none none).run C.P w = _
  rw [hx, Instr.sliceAt, X.run_bind _ _ _ _ _ _ (run_und hu w)]
  have hr := run_sizeOf hie w
  generalize C.T.elem.getD t 0 = E at *
  generalize C.T.alen.getD t 0 = n at *
  simp [Instr.sureAddr, Instr.sliceBounds, Instr.sliceBound, hr, Addr.add]
end
end Go.Proofs.YtnfefbhjdncccaaDoor.X
namespace Go.Proofs.YtnfefbhjdncccaaDoor.X
open Go
set_option linter.unusedSimpArgs false
set_option linter.unusedVariables false
section
variable {C : Cfg} {N : Nat} {gd : List (Option Nat)} {r : List Oper} {σ : Env} {w z : World} {Q : Env → World → Prop} {As : List HP} {x y : Operand} {d t E : Nat} {ty yt : TypeId} {pos : String} {af : Array Edge} {g : Option (Nat × Bool)}
end
end Go.Proofs.YtnfefbhjdncccaaDoor.X
namespace Go.Proofs.YtnfefbhjdncccaaDoor.X
open Go
set_option linter.unusedSimpArgs false
set_option linter.unusedVariables false
theorem mk_add {α : Type} (n m : Nat) (g : Nat → α) : mk (n + m) g = mk n g ++ mk m fun i => g (n + i) := by
  rw [mk, List.range_add, List.map_append, List.map_map]; rfl
theorem mk_rows {α : Type} (N M : Nat) (hM : 0 < M) (f : Nat → Nat → α) : (mk N f).flatMap (fun p => mk M p) = mk (N * M) fun m => f (m / M) (m % M) := by
  induction N with
  | zero => rw [Nat.zero_mul]; rfl
  | succ N ih =>
    rw [mk_add, List.flatMap_append, ih, Nat.succ_mul, mk_add]
    congr 1
    show (mk 1 fun i => f (N + i)).flatMap (fun p => mk M p) = _
    rw [show (mk 1 fun i => f (N + i)) = [f N] from rfl, List.flatMap_cons, List.flatMap_nil, List.append_nil]
    refine mk_congr fun i hi => ?_
    rw [Nat.add_comm, Nat.add_mul_div_right _ _ hM, Nat.div_eq_of_lt hi, Nat.zero_add, Nat.add_mul_mod_self_right, Nat.mod_eq_of_lt hi]
theorem takeK_run {β : Type} : ∀ (n : Nat) (l : List Value) (k : List Value → Option β), n ≤ l.length → takeK n l k = k (l.take n)
  | 0, _, k, _ => by simp [takeK]
  | n + 1, [], _, h => by simp at h
  | n + 1, a :: r, k, h => by simp only [takeK, force_eq]; rw [takeK_run n r _ (by simpa using h)]; rfl
end Go.Proofs.YtnfefbhjdncccaaDoor.X
namespace Go.Proofs.YtnfefbhjdncccaaDoor.X
open Go Go.Proofs
set_option linter.unusedSimpArgs false
set_option linter.unusedVariables false
section
variable {C : Cfg} {N : Nat} {gd : List (Option Nat)} {r : List Oper} {σ : Env} {w z : World} {Q : Env → World → Prop} {As : List HP} {x y y' : Operand} {d t : Nat} {ty yt : TypeId} {pos : String} {af : Array Edge} {g : Option (Nat × Bool)}
end
end Go.Proofs.YtnfefbhjdncccaaDoor.X
namespace Go.Proofs.YtnfefbhjdncccaaDoor.X
open Go
set_option linter.unusedSimpArgs false
set_option linter.unusedVariables false
section
variable {C : Cfg} {N : Nat} {gd : List (Option Nat)} {r : List Oper} {σ σ' : Env} {w z : World} {Q : Env → World → Prop} {As Rs : List HP} {x y : Operand} {d t t2 b off n1 cap1 n2 sz : Nat} {ty E : TypeId} {pos : String} {af : Array Edge} {g : Option (Nat × Bool)} {v2 : Value} {c c2 : List Value} {dst : Option Nat}
theorem first_runM {P : Program} (H : Sat z w As) (h2 : SlR As v2 sz n2 c2) {m : Nat} (hm : m ≤ n2) : (Builtin.firstCells sz m v2).run P w = .ok (c2.take (m * sz)).toArray w := by
  obtain ⟨e2, a2, cp2, rfl, hcp, h3⟩ := h2
  have hms : m * sz ≤ n2 * sz := Nat.mul_le_mul_right _ hm
  have hlen : (c2.take (m * sz)).length = m * sz := by rw [List.length_take, e2]; omega
  by_cases h0 : n2 = 0
  · subst h0
    have h00 : m = 0 := by omega
    subst h00
    rw [Nat.zero_mul, List.take_zero]
    cases a2 with
    | none => exact run_firstCells_none (P := P) w sz 0 0 cp2
    | some a => exact run_firstCells_some (P := P) w sz 0 a 0 cp2 [] (by simp) (by simp)
  · rcases h3 with h3 | ⟨b2, off, mm, E2, fr, rfl, h4, h5⟩
    · exact absurd h3 h0
    · refine run_firstCells_some (P := P) w sz m _ n2 cp2 (c2.take (m * sz)) hlen ?_
      intro j v hj
      have hjl := (List.getElem?_eq_some_iff.1 hj).1
      rw [add_off, cell_blk (H.has h4), h5 j (by omega)]
      rw [List.getElem?_take, if_pos (by omega)] at hj
      exact hj
theorem OpsW.cpyM (H : Sat z w As) (hp : As.Perm (blk b E c :: Rs)) (h2 : SlR As v2 sz n2 c2) (hs2 : c2.all scal = true) {m : Nat} (hm : Nat.min n2 n1 = m) (hin : off + m * sz ≤ c.length)
    (hg : wan gd σ g = some true) (hx : ev σ x = .slice (some ⟨b, off, none⟩) n1 cap1) (hy : ev σ y = v2) (hk : Nat.beq (C.T.kind.getD t 0) 4 = true) (he : Nat.blt 0 (C.T.kind.getD (C.T.elem.getD t 0) 0) = true)
    (hsz : C.T.size.getD (C.T.elem.getD t 0) 0 = sz) (hd : putE N σ dst (.int .i64 m) = some σ')
    (K : ∀ w', Sat z w' (blk b E (splice c off (c2.take (m * sz))) :: Rs) → OpsW C N gd r σ' w' Q) :
    OpsW C N gd (⟨dst, .call ⟨.builtin .copy, #[x, y], #[t, t2]⟩, ty, pos, af, g⟩ :: r) σ w Q := by
  have hu := Tab.slice_ C.ok (Nat.eq_of_beq_eq_true hk)
  obtain ⟨i, hi, hs⟩ := Tab.info_ C.ok (rfl : C.T.kind.getD (C.T.elem.getD t 0) 0 = _) (by have := Nat.le_of_ble_eq_true he; omega)
  have hm2 : m ≤ n2 := by rw [← hm]; exact Nat.min_le_left _ _
  have hf := first_runM (P := C.P) H h2 hm2
  have hlen2 := h2.1
  obtain ⟨a2, cp2, rfl⟩ := lenW h2
  have hms : m * sz ≤ n2 * sz := Nat.mul_le_mul_right _ hm2
  have hsc : (c2.take (m * sz)).all scal = true := by
    rw [List.all_eq_true] at hs2 ⊢
    exact fun v hv => hs2 v (List.mem_of_mem_take hv)
  obtain ⟨w', hw, H'⟩ := storeCells_run (P := C.P) (c2.take (m * sz)) (off := off) 0 (H.perm hp) (by rw [List.length_take, hlen2]; omega) hsc
  rw [Nat.add_zero] at H'
  refine .val (v := .int .i64 m) (w' := w') hg ?_ hd (K w' H')
  refine run_v ?_
  have e : (#[x, y] : Array Operand).map (ev σ) = #[ev σ x, ev σ y] := by simp
  show (Builtin.copy_ #[t, t2] ty ((#[x, y] : Array Operand).map (ev σ))).run C.P w = _
  rw [e, hx, hy]
  have hs' : i.size = sz := hs.trans hsz
  clear K H' hs hsz hin hp
  subst hs'
  generalize C.T.elem.getD t 0 = E at *
  simp [Builtin.copy_, run_underlying hu, sizeOf, typeInfo, hi, Builtin.lenOf, hm, hf, hw, goInt]
end
end Go.Proofs.YtnfefbhjdncccaaDoor.X
namespace Go.Proofs.YtnfefbhjdncccaaDoor.X
open Go
section
variable {C : Cfg} {N : Nat} {σ : Env} {w : World} {Q : Post} {x y u : Code} {c : Operand} {i : Nat}
theorem CW.seqDc (h : CW C N (.cond c x y) σ w (thenQ (fun σ w => CW C N u σ w Q) Q)) : CW C N (.seq (.cond c x y) u) σ w Q := .seqD h
theorem CW.seqDb (h : CW C N (.block i x) σ w (thenQ (fun σ w => CW C N u σ w Q) Q)) : CW C N (.seq (.block i x) u) σ w Q := .seqD h
theorem CW.seqDl (h : CW C N (.loop x) σ w (thenQ (fun σ w => CW C N u σ w Q) Q)) : CW C N (.seq (.loop x) u) σ w Q := .seqD h
theorem CW.seqDs (h : CW C N (.seq x y) σ w (thenQ (fun σ w => CW C N u σ w Q) Q)) : CW C N (.seq (.seq x y) u) σ w Q := .seqD h
theorem CW.seqDk (h : CW C N .skip σ w (thenQ (fun σ w => CW C N u σ w Q) Q)) : CW C N (.seq .skip u) σ w Q := .seqD h
end
section
variable {C : Cfg} {N : Nat} {gd : List (Option Nat)} {r : List Oper} {σ : Env} {w z : World} {Q : Env → World → Prop} {As : List HP} {x : Operand} {d t b off : Nat} {ty : TypeId} {pos : String} {af : Array Edge} {g : Option (Nat × Bool)}
theorem OpsW.ldSA {n cap k sz : Nat} {c vs : List Value} (H : Sat z w As) (h : SlR As (.slice (some ⟨b, off, none⟩) n cap) sz n c) (hg : wan gd σ g = some true) (ha : ev σ x = .pointer (some ⟨b, off + k * sz, none⟩)) (hu : C.T.isAgg t = true)
    (hus : C.T.size.getD t 0 = sz) (hl : k < n) (hv : (c.drop (k * sz)).take sz = vs) (hd : Nat.blt d N = true)
    (K : OpsW C N gd r (upd σ d (.agg vs.toArray)) w Q) : OpsW C N gd (⟨some d, .load t x, ty, pos, af, g⟩ :: r) σ w Q := by
  obtain ⟨h1, a, cap', e, hcp, h2⟩ := h
  rcases h2 with h2 | ⟨b', off', m, E, fr, h3, h4, h5⟩
  · omega
  · subst h3
    simp only [Value.slice.injEq, Option.some.injEq, Addr.mk.injEq] at e
    obtain ⟨⟨rfl, rfl, -⟩, -, -⟩ := e
    have hle : (k + 1) * sz ≤ n * sz := Nat.mul_le_mul_right _ hl
    have hle' : k * sz + sz ≤ n * sz := by rw [← Nat.succ_mul]; exact hle
    refine .ldAh (H.has h4) hg ha hu ?_ ?_ hd K
    · rw [← hv, hus, List.length_take, List.length_drop]; omega
    · intro j v hj
      rw [← hv, List.getElem?_take] at hj
      split at hj
      · rw [List.getElem?_drop] at hj
        rw [Nat.add_assoc, h5 _ (by omega)]; exact hj
      · cases hj
theorem OpsW.ldS {n cap k : Nat} {c : List Value} {v : Value} (H : Sat z w As) (h : SlR As (.slice (some ⟨b, off, none⟩) n cap) 1 n c) (hg : wan gd σ g = some true) (ha : ev σ x = .pointer (some ⟨b, off + k * 1, none⟩)) (hu : C.T.isAgg t = false)
    (h0 : Nat.blt 0 (C.T.kind.getD t 0) = true) (hl : k < n) (hv : c[k]? = some v) (hd : Nat.blt d N = true)
    (K : OpsW C N gd r (upd σ d v) w Q) : OpsW C N gd (⟨some d, .load t x, ty, pos, af, g⟩ :: r) σ w Q := by
  obtain ⟨h1, a, cap', e, hcp, h2⟩ := h
  rcases h2 with h2 | ⟨b', off', m, E, fr, h3, h4, h5⟩
  · omega
  · subst h3
    simp only [Value.slice.injEq, Option.some.injEq, Addr.mk.injEq] at e
    obtain ⟨⟨rfl, rfl, -⟩, -, -⟩ := e
    refine .ldh (H.has h4) hg ha hu h0 ?_ hd K
    rw [Nat.mul_one, h5 k (by omega)]; exact hv
end
end Go.Proofs.YtnfefbhjdncccaaDoor.X
namespace Go.Proofs.YtnfefbhjdncccaaDoor.X
open Go
set_option linter.unusedSimpArgs false
section
variable {C : Cfg} {N : Nat} {gd : List (Option Nat)} {r : List Oper} {σ : Env} {w : World} {Q : Env → World → Prop}
end
end Go.Proofs.YtnfefbhjdncccaaDoor.X
