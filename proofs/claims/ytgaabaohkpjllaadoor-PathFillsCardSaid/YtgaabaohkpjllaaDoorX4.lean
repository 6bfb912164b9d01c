/- The engine of this seat's proofs, part 5: operations, code and calls, rule by rule; conditions: none. -/
import Derived.Test.YtgaabaohkpjllaaDoorX3
namespace Go.Proofs.YtgaabaohkpjllaaDoor.X
open Go
set_option linter.unusedSimpArgs false
set_option linter.unusedVariables false

structure Cfg where
  P : Program
  T : Tab
  ok : T.ok P = true

/-- From the first of these operations on, to the region's end. -/
def OpsW (C : Cfg) (N : Nat) (gd : List (Option Nat)) (l : List Oper) (σ : Env) (w : World) (Q : Env → World → Prop) : Prop :=
  ∀ (ops : Array Oper) (is : List Nat) (a : Act) (Q' : Exit → Act → World → Prop), is.map (fun i => ops[i]?) = l.map some → ops.toList.map (·.dst) = gd → Rel N a σ →
    (∀ a' σ' w', Rel N a' σ' → Q σ' w' → Q' .normal a' w') → wpOps C.P ops Q' is a w

def wan (gd : List (Option Nat)) (σ : Env) : Option (Nat × Bool) → Option Bool
  | none => some true
  | some (j, want) => match gd.getD j none with
    | none => none
    | some d => match σ d with
      | .bool b => match b, want with
        | true, true => some true
        | false, false => some true
        | true, false => some false
        | false, true => some false
      | _ => some false
def stepE (T : Tab) (N : Nat) (gd : List (Option Nat)) (σ : Env) : Oper → Option Env
  | ⟨dst, op, _, _, _, g⟩ => match wan gd σ g with
    | some true => match pureV T σ op with
      | some v => putE N σ dst v
      | none => none
    | some false => putE N σ dst undef
    | none => none

section
variable {C : Cfg} {N : Nat} {gd : List (Option Nat)} {r : List Oper} {σ σ' : Env} {w : World} {Q : Env → World → Prop}

theorem wan_eq {o : Oper} {ops : Array Oper} {a : Act} {b : Bool} (h : wan gd σ o.guard = some b) (hm : ops.toList.map (·.dst) = gd) (R : Rel N a σ) :
    Region.wanted o (yielded ops a.tmps) = b := by
  unfold Region.wanted
  unfold wan at h
  split at h
  · rename_i e; rw [e]; simpa using h
  · rename_i j want e
    rw [e]
    split at h
    · cases h
    · rename_i d hd
      split at h
      · rename_i b' hb
        have hy : yielded ops a.tmps j = some b' := by
          have h1 : (ops[j]?).bind (·.dst) = some d := by
            rw [← hm, List.getD_eq_getElem?_getD, List.getElem?_map, Array.getElem?_toList] at hd
            cases hj : ops[j]? with
            | none => rw [hj] at hd; simp at hd
            | some o' => rw [hj] at hd; simpa using hd
          have h2 : a.tmps[d]? = some (.bool b') := by
            have := R.val d
            rw [hb, Array.getD_eq_getD_getElem?] at this
            cases hd2 : a.tmps[d]? with
            | none => rw [hd2] at this; simp [undef] at this
            | some v => rw [hd2] at this; simpa using this
          unfold yielded; rw [h1]; simp [h2]
        simp only [hy]
        cases b' <;> cases want <;> simp at h <;> subst h <;> rfl
      · rename_i hnb
        have hy : yielded ops a.tmps j = none := by
          have h1 : (ops[j]?).bind (·.dst) = some d := by
            rw [← hm, List.getD_eq_getElem?_getD, List.getElem?_map, Array.getElem?_toList] at hd
            cases hj : ops[j]? with
            | none => rw [hj] at hd; simp at hd
            | some o' => rw [hj] at hd; simpa using hd
          have h2 := R.val d
          rw [Array.getD_eq_getD_getElem?] at h2
          unfold yielded; rw [h1]; simp only [Option.bind_some]
          split
          · rename_i b' hb'
            rw [hb'] at h2
            exact absurd h2.symm (hnb b')
          · rfl
        simp only [hy]
        simp at h; subst h; rfl

theorem OpsW.go {o : Oper} {r : List Oper} (h : OpsW C N gd (o :: r) σ w Q) : OpsW C N gd (o :: r) σ w Q := h
theorem OpsW.goCall {dst : Option Nat} {c : Call} {ty : TypeId} {pos : String} {af : Array Edge} {g : Option (Nat × Bool)} {r : List Oper} (h : OpsW C N gd (⟨dst, .call c, ty, pos, af, g⟩ :: r) σ w Q) : OpsW C N gd (⟨dst, .call c, ty, pos, af, g⟩ :: r) σ w Q := h
theorem OpsW.nil (h : Q σ w) : OpsW C N gd [] σ w Q := by
  intro ops is a Q' hi _ R hq
  cases is with
  | nil => exact hq _ _ _ R h
  | cons i is => simp at hi
theorem is_cons {ops : Array Oper} {is : List Nat} {o : Oper} (h : is.map (fun i => ops[i]?) = (o :: r).map some) : ∃ i is', is = i :: is' ∧ ops[i]? = some o ∧ is'.map (fun i => ops[i]?) = r.map some := by
  cases is with
  | nil => simp at h
  | cons i is =>
    simp only [List.map_cons, List.cons.injEq] at h
    exact ⟨i, is, rfl, h.1, h.2⟩
theorem OpsW.val {o : Oper} {v : Value} {w' : World} (hg : wan gd σ o.guard = some true) (hr : (execOp (ev σ) o).run C.P w = .ok (.value v) w')
    (hp : putE N σ o.dst v = some σ') (k : OpsW C N gd r σ' w' Q) : OpsW C N gd (o :: r) σ w Q := by
  intro ops is a Q' hd hm R hq
  obtain ⟨i, is, rfl, h1, h2⟩ := is_cons hd
  simp only [wpOps, h1, wan_eq hg hm R, if_true]
  refine .inl ?_
  simp only [Oper.wp, R.eval, hr, Oper.upon]
  exact k ops is _ Q' h2 hm (R.putE hp) hq
theorem OpsW.unit {o : Oper} {w' : World} (hg : wan gd σ o.guard = some true) (hr : (execOp (ev σ) o).run C.P w = .ok .skip w')
    (hp : o.dst = none) (k : OpsW C N gd r σ w' Q) : OpsW C N gd (o :: r) σ w Q := by
  intro ops is a Q' hd hm R hq
  obtain ⟨i, is, rfl, h1, h2⟩ := is_cons hd
  simp only [wpOps, h1, wan_eq hg hm R, if_true]
  refine .inl ?_
  simp only [Oper.wp, R.eval, hr, Oper.upon]
  refine k ops is _ Q' h2 hm ?_ hq
  rw [hp]; exact R
theorem OpsW.skp {o : Oper} (hg : wan gd σ o.guard = some false) (hp : putE N σ o.dst undef = some σ') (k : OpsW C N gd r σ' w Q) : OpsW C N gd (o :: r) σ w Q := by
  intro ops is a Q' hd hm R hq
  obtain ⟨i, is, rfl, h1, h2⟩ := is_cons hd
  simp only [wpOps, h1, wan_eq hg hm R, if_false, Bool.false_eq_true]
  exact k ops is _ Q' h2 hm (R.putE hp) hq
/-- An operation that looks at slots alone, or is passed over. -/
theorem OpsW.st {o : Oper} (h : stepE C.T N gd σ o = some σ') (k : OpsW C N gd r σ' w Q) : OpsW C N gd (o :: r) σ w Q := by
  obtain ⟨dst, op, ty, pos, af, g⟩ := o
  simp only [stepE] at h
  split at h
  · rename_i hg
    split at h
    · rename_i v hv
      exact .val hg (pureV_run C.ok hv dst ty pos af g w) h k
    · cases h
  · rename_i hg
    exact .skp hg h k
  · cases h
/-- A guard that is not known: both ways. -/
theorem OpsW.gs {o : Oper} {j d : Nat} {want b : Bool} (hj : o.guard = some (j, want)) (hd : gd.getD j none = some d) (hb : σ d = .bool b)
    (ht : b = true → OpsW C N gd (o :: r) (upd σ d (.bool true)) w Q) (hf : b = false → OpsW C N gd (o :: r) (upd σ d (.bool false)) w Q) : OpsW C N gd (o :: r) σ w Q := by
  intro ops i a Q' h1 h2 R hq
  cases b
  · exact hf rfl ops i a Q' h1 h2 (R.refl hb) hq
  · exact ht rfl ops i a Q' h1 h2 (R.refl hb) hq
theorem OpsW.chk {o : Oper} (h : wan gd σ o.guard = some true) (k : OpsW C N gd (o :: r) σ w Q) : OpsW C N gd (o :: r) σ w Q := k
theorem OpsW.mono {Q₂ : Env → World → Prop} {l : List Oper} (h : OpsW C N gd l σ w Q) (k : ∀ σ w, Q σ w → Q₂ σ w) : OpsW C N gd l σ w Q₂ :=
  fun ops i a Q' h1 h2 R hq => h ops i a Q' h1 h2 R fun a' σ' w' R' q => hq a' σ' w' R' (k _ _ q)

/-! ### Calls -/
def Spec (C : Cfg) (f : FuncId) (args : Array Value) (w : World) (R : Value → World → Prop) : Prop :=
  (∃ fn, C.P.funcs[f]? = some fn ∧ fn.body.isSome = true ∧ (fn.name == "runtime.NumGoroutine") = false) ∧ Calls C.P f args w fun e w' => ∃ v, e = .returned v ∧ R v w'
theorem Spec.mono {f : FuncId} {args : Array Value} {R R' : Value → World → Prop} (h : Spec C f args w R) (k : ∀ v w', R v w' → R' v w') : Spec C f args w R' :=
  ⟨h.1, h.2.mono fun _ _ ⟨v, e, r⟩ => ⟨v, e, k _ _ r⟩⟩
theorem callFunc_run {f : FuncId} {fn : Func} (P : Program) (hf : P.funcs[f]? = some fn) (hb : fn.body.isSome = true) (hn : (fn.name == "runtime.NumGoroutine") = false) (args : Array Value) (w : World) :
    (callFunc f args).run P w = .ok (.enter f args) w := by
  have hn' : fn.name ≠ "runtime.NumGoroutine" := by simpa using hn
  cases hc : fn.body with
  | none => rw [hc] at hb; cases hb
  | some c => simp [callFunc, program, Sem.run, hf, hn', hc, bind, Sem.bind, pure]
theorem OpsW.enter {o : Oper} {f : FuncId} {args : Array Value} {R : Value → World → Prop} (hg : wan gd σ o.guard = some true)
    (hr : (execOp (ev σ) o).run C.P w = .ok (.enter f args) w) (hs : Calls C.P f args w fun e w' => ∃ v, e = .returned v ∧ R v w')
    (k : ∀ v w', R v w' → ∃ σ', putE N σ o.dst v = some σ' ∧ OpsW C N gd r σ' w' Q) : OpsW C N gd (o :: r) σ w Q := by
  intro ops is a Q' hd hm R' hq
  obtain ⟨i, is, rfl, h1, h2⟩ := is_cons hd
  simp only [wpOps, h1, wan_eq hg hm R', if_true]
  refine .inl ?_
  simp only [Oper.wp, R'.eval, hr, Oper.upon]
  refine hs.mono ?_
  rintro e w' ⟨v, rfl, hv⟩
  obtain ⟨σ', hp, hk⟩ := k v w' hv
  exact hk ops is _ Q' h2 hm (R'.putE hp) hq
theorem map_toArray_eq {α β : Type} (f : α → β) (a : Array α) : a.map f = (a.toList.map f).toArray := by rw [← Array.toList_map]
/-- A call of a named function, by its contract. -/
theorem OpsW.call {f : FuncId} {args : Array Operand} {vs : List Value} {ts : Array TypeId} {d : Nat} {ty : TypeId} {pos : String} {af : Array Edge} {g : Option (Nat × Bool)} {R : Value → World → Prop}
    (hg : wan gd σ g = some true) (ha : forceL (mapE σ args.toList) some = some vs) (hd : Nat.blt d N = true) (hs : Spec C f vs.toArray w R)
    (k : ∀ v w', R v w' → OpsW C N gd r (upd σ d v) w' Q) : OpsW C N gd (⟨some d, .call ⟨.value (.func f), args, ts⟩, ty, pos, af, g⟩ :: r) σ w Q := by
  obtain ⟨⟨fn, hf, hb, hn⟩, hs⟩ := hs
  rw [forceL_eq, Option.some.injEq] at ha
  refine .enter (f := f) (args := vs.toArray) hg ?_ hs fun v w' hv => ⟨_, ?_, k v w' hv⟩
  · rw [← ha, mapE_eq, ← map_toArray_eq]
    show (resolve (ev σ) _ ty >>= fun d => invoke d.target d.args).run C.P w = _
    simp [resolve, Deferred.ofValue, ev, invoke, callFunc_run C.P hf hb hn]
  · simp [putE, hd]
theorem OpsW.call0 {f : FuncId} {args : Array Operand} {vs : List Value} {ts : Array TypeId} {ty : TypeId} {pos : String} {af : Array Edge} {g : Option (Nat × Bool)} {R : Value → World → Prop}
    (hg : wan gd σ g = some true) (ha : forceL (mapE σ args.toList) some = some vs) (hs : Spec C f vs.toArray w R)
    (k : ∀ v w', R v w' → OpsW C N gd r σ w' Q) : OpsW C N gd (⟨none, .call ⟨.value (.func f), args, ts⟩, ty, pos, af, g⟩ :: r) σ w Q := by
  obtain ⟨⟨fn, hf, hb, hn⟩, hs⟩ := hs
  rw [forceL_eq, Option.some.injEq] at ha
  refine .enter (f := f) (args := vs.toArray) hg ?_ hs fun v w' hv => ⟨_, ?_, k v w' hv⟩
  · rw [← ha, mapE_eq, ← map_toArray_eq]
    show (resolve (ev σ) _ ty >>= fun d => invoke d.target d.args).run C.P w = _
    simp [resolve, Deferred.ofValue, ev, invoke, callFunc_run C.P hf hb hn]
  · simp [putE]
/-- A call of a function value. -/
theorem OpsW.callv {f : FuncId} {x : Operand} {fs cap : Array Value} {args : Array Operand} {vs : List Value} {ts : Array TypeId} {d : Nat} {ty : TypeId} {pos : String} {af : Array Edge} {g : Option (Nat × Bool)} {R : Value → World → Prop}
    (hg : wan gd σ g = some true) (hx : ev σ x = .func (.func f) fs cap) (ha : forceL (fs.toList ++ mapE σ args.toList ++ cap.toList) some = some vs) (hd : Nat.blt d N = true) (hs : Spec C f vs.toArray w R)
    (k : ∀ v w', R v w' → OpsW C N gd r (upd σ d v) w' Q) : OpsW C N gd (⟨some d, .call ⟨.value x, args, ts⟩, ty, pos, af, g⟩ :: r) σ w Q := by
  obtain ⟨⟨fn, hf, hb, hn⟩, hs⟩ := hs
  rw [forceL_eq, Option.some.injEq] at ha
  refine .enter (f := f) (args := vs.toArray) hg ?_ hs fun v w' hv => ⟨_, ?_, k v w' hv⟩
  · rw [← ha, mapE_eq]
    show (resolve (ev σ) _ ty >>= fun d => invoke d.target d.args).run C.P w = _
    have e : fs ++ args.map (ev σ) ++ cap = (fs.toList ++ args.toList.map (ev σ) ++ cap.toList).toArray := by
      apply Array.ext'; simp
    simp only [resolve, hx, Deferred.ofValue, Sem.run_bind, Sem.run_pure, Result.andThen_ok, invoke, ← e]
    exact callFunc_run C.P hf hb hn _ w
  · simp [putE, hd]

/-! ### Memory -/
theorem cell_blk {b off : Nat} {c : Array Value} {T : TypeId} {fr : Nat × Nat} (h : w.heap[b]? = some (.cells c T fr)) : w.cell? ⟨b, off, none⟩ = c[off]? := by
  simp [World.cell?, h]
theorem add_off (b off n : Nat) : (⟨b, off, none⟩ : Addr).add n = ⟨b, off + n, none⟩ := by
  simp only [Addr.add]; split
  · rename_i h; subst h; rfl
  · rfl
theorem loadVar1 {T : Tab} {P : Program} (hT : T.ok P = true) {t b off : Nat} {c : Array Value} {E : TypeId} {fr : Nat × Nat} {v : Value} (hk : T.isAgg t = false) (h0 : Nat.blt 0 (T.kind.getD t 0) = true)
    (h : w.heap[b]? = some (.cells c E fr)) (hv : c[off]? = some v) : (loadVar t ⟨b, off, none⟩).run P w = .ok v w := by
  have := Tab.run_isAgg hT (rfl : T.kind.getD t 0 = _) (by have := Nat.le_of_ble_eq_true h0; omega) w
  rw [loadVar, X.run_bind _ _ _ _ _ _ this, hk]
  have hc := cell_blk (off := off) h
  simp [load, Sem.run, hc, hv]
theorem loadVarA {T : Tab} {P : Program} (hT : T.ok P = true) {t b off : Nat} {c : Array Value} {E : TypeId} {fr : Nat × Nat} {vs : List Value} (hk : T.isAgg t = true)
    (h : w.heap[b]? = some (.cells c E fr)) (hl : vs.length = T.size.getD t 0) (hv : ∀ j v, vs[j]? = some v → c[off + j]? = some v) : (loadVar t ⟨b, off, none⟩).run P w = .ok (.agg vs.toArray) w := by
  have h0 : T.kind.getD t 0 ≠ 0 := by intro e; unfold Tab.isAgg at hk; rw [e] at hk; simp at hk
  have := Tab.run_isAgg hT (rfl : T.kind.getD t 0 = _) h0 w
  obtain ⟨i, hi, hs⟩ := Tab.info_ hT (rfl : T.kind.getD t 0 = _) h0
  rw [loadVar, X.run_bind _ _ _ _ _ _ this, hk]
  have e : (loadCells ⟨b, off, none⟩ vs.length).run P w = .ok vs.toArray w := by
    refine run_loadCells_list (cs := vs) (a := ⟨b, off, none⟩) (h := fun j v hj => ?_)
    rw [add_off, cell_blk h]; exact hv j v hj
  simp only [if_true]
  rw [X.run_bind _ _ _ _ _ _ (run_sizeOf hi w), hs, ← hl, X.run_bind _ _ _ _ _ _ e]
  rfl
def scal : Value → Bool
  | .agg _ => false
  | .tuple _ => false
  | _ => true
theorem storeCells_run {P : Program} {z : World} {l : List HP} {b : Nat} {T : TypeId} (vs : List Value) : ∀ {w : World} {c : List Value} {off : Nat} (i : Nat), Sat z w (blk b T c :: l) → off + i + vs.length ≤ c.length → vs.all scal = true →
    ∃ w', (storeCells ⟨b, off, none⟩ vs i).run P w = .ok () w' ∧ Sat z w' (blk b T (splice c (off + i) vs) :: l) := by
  induction vs with
  | nil => intro w c off i H _ _; exact ⟨w, rfl, H⟩
  | cons v r ih =>
    intro w c off i H hl hs
    simp only [List.all_cons, Bool.and_eq_true] at hs
    have hb := H.has Has.head
    have hc : w.cell? ⟨b, off + i, none⟩ = some (c[off + i]'(by simp at hl; omega)) := by
      rw [cell_blk hb, List.getElem?_toArray, List.getElem?_eq_getElem]
    have hf : w.frozen? ⟨b, off + i, none⟩ = false := by simp [World.frozen?, hb]
    have e1 : (store (⟨b, off, none⟩ : Addr) v .plain).run P w = .ok () (w.setCell ⟨b, off, none⟩ v) ∨ True := .inr trivial
    have e2 : (store ((⟨b, off, none⟩ : Addr).add i) v).run P w = .ok () (w.setCell ⟨b, off + i, none⟩ v) := by
      rw [add_off]
      cases v <;> simp [scal] at hs <;> simp [store, Sem.run, hc, hf]
    obtain ⟨w', hw, H'⟩ := ih (off := off) (i + 1) (H.set (off + i) v) (by simp at hl ⊢; omega) hs.2
    refine ⟨w', ?_, ?_⟩
    · rw [storeCells, X.run_bind _ _ _ _ _ _ e2]; exact hw
    · simpa [splice, Nat.add_assoc] using H'

variable {z : World} {As Rs : List HP} {b off d : Nat} {l : List Value} {E t : TypeId} {x y : Operand} {ty : TypeId} {pos : String} {af : Array Edge} {g : Option (Nat × Bool)} {v : Value}
theorem OpsW.box (H : Sat z w As) (hg : wan gd σ g = some true) (hc : forceL (ev σ x).cells.toList some = some l) (hd : Nat.blt d N = true)
    (k : ∀ b w', Sat z w' (blk b E l :: As) → OpsW C N gd r (upd σ d (.pointer (some ⟨b, 0, none⟩))) w' Q) : OpsW C N gd (⟨some d, .box E x, ty, pos, af, g⟩ :: r) σ w Q := by
  rw [forceL_eq, Option.some.injEq] at hc
  refine .val (v := .pointer (some ⟨w.heap.size, 0, none⟩)) (w' := { w with heap := w.heap.push (.cells (ev σ x).cells E) }) hg ?_ (by simp only [putE, hd]) (k w.heap.size _ ?_)
  · exact run_v rfl
  · have e : l.toArray = (ev σ x).cells := by rw [← hc]
    rw [← e]; exact H.new E l
theorem OpsW.alloc (H : Sat z w As) (hg : wan gd σ g = some true) (hk : Nat.blt 0 (C.T.kind.getD E 0) = true) (hc : forceL (C.T.zeroV E).cells.toList some = some l) (hd : Nat.blt d N = true)
    (k : ∀ b w', Sat z w' (blk b E l :: As) → OpsW C N gd r (upd σ d (.pointer (some ⟨b, 0, none⟩))) w' Q) : OpsW C N gd (⟨some d, .alloc E, ty, pos, af, g⟩ :: r) σ w Q := by
  rw [forceL_eq, Option.some.injEq] at hc
  obtain ⟨i, hi, hs, hz⟩ := Tab.zero_ C.ok (rfl : C.T.kind.getD E 0 = _) (by have := Nat.le_of_ble_eq_true hk; omega)
  refine .val (v := .pointer (some ⟨w.heap.size, 0, none⟩)) (w' := { w with heap := w.heap.push (.cells (C.T.zeroV E).cells E) }) hg ?_ (by simp only [putE, hd]) (k w.heap.size _ ?_)
  · refine run_v ?_
    rw [Instr.alloc, X.run_bind _ _ _ _ _ _ (run_zeroValue hi hz w)]
    rfl
  · have e : l.toArray = (C.T.zeroV E).cells := by rw [← hc]
    rw [← e]; exact H.new E l
theorem OpsW.ldh {c : Array Value} {fr : Nat × Nat} (h : w.heap[b]? = some (.cells c E fr)) (hg : wan gd σ g = some true) (ha : ev σ x = .pointer (some ⟨b, off, none⟩)) (hk : C.T.isAgg t = false) (h0 : Nat.blt 0 (C.T.kind.getD t 0) = true)
    (hv : c[off]? = some v) (hd : Nat.blt d N = true) (k : OpsW C N gd r (upd σ d v) w Q) : OpsW C N gd (⟨some d, .load t x, ty, pos, af, g⟩ :: r) σ w Q := by
  refine .val (v := v) (w' := w) hg (run_v ?_) (by simp [putE, hd]) k
  rw [ha]
  show (Instr.sureAddr _ >>= fun a => loadVar t a).run C.P w = _
  rw [X.run_bind _ _ _ _ _ _ (show (Instr.sureAddr (.pointer (some ⟨b, off, none⟩))).run C.P w = .ok ⟨b, off, none⟩ w from rfl)]
  exact loadVar1 C.ok hk h0 h hv
theorem OpsW.ld (H : Sat z w As) (hp : As.Perm (blk b E l :: Rs)) (hg : wan gd σ g = some true) (ha : ev σ x = .pointer (some ⟨b, off, none⟩)) (hk : C.T.isAgg t = false) (h0 : Nat.blt 0 (C.T.kind.getD t 0) = true)
    (hv : l[off]? = some v) (hd : Nat.blt d N = true) (k : OpsW C N gd r (upd σ d v) w Q) : OpsW C N gd (⟨some d, .load t x, ty, pos, af, g⟩ :: r) σ w Q :=
  .ldh (c := l.toArray) (fr := (0, 0)) ((H.perm hp).has Has.head) hg ha hk h0 (by simpa using hv) hd k
def takeK {β : Type} : Nat → List Value → (List Value → Option β) → Option β
  | 0, _, k => k []
  | n + 1, a :: r, k => match force a with
    | some a' => takeK n r fun l => k (a' :: l)
    | none => none
  | _ + 1, [], _ => none
theorem takeK_eq {β : Type} : ∀ (n : Nat) (l : List Value) (k : List Value → Option β) (v : β), takeK n l k = some v → n ≤ l.length ∧ k (l.take n) = some v
  | 0, _, k, v, h => ⟨Nat.zero_le _, by simpa [takeK] using h⟩
  | n + 1, a :: r, k, v, h => by
    simp only [takeK, force_eq] at h
    obtain ⟨h1, h2⟩ := takeK_eq n r _ v h
    exact ⟨by simp; omega, by simpa using h2⟩
  | _ + 1, [], _, _, h => by simp [takeK] at h
theorem OpsW.ldAh {c : Array Value} {fr : Nat × Nat} {vs : List Value} (h : w.heap[b]? = some (.cells c E fr)) (hg : wan gd σ g = some true) (ha : ev σ x = .pointer (some ⟨b, off, none⟩)) (hk : C.T.isAgg t = true)
    (hl : vs.length = C.T.size.getD t 0) (hv : ∀ j v, vs[j]? = some v → c[off + j]? = some v) (hd : Nat.blt d N = true) (k : OpsW C N gd r (upd σ d (.agg vs.toArray)) w Q) : OpsW C N gd (⟨some d, .load t x, ty, pos, af, g⟩ :: r) σ w Q := by
  refine .val (v := .agg vs.toArray) (w' := w) hg (run_v ?_) (by simp [putE, hd]) k
  rw [ha]
  show (Instr.sureAddr _ >>= fun a => loadVar t a).run C.P w = _
  rw [X.run_bind _ _ _ _ _ _ (show (Instr.sureAddr (.pointer (some ⟨b, off, none⟩))).run C.P w = .ok ⟨b, off, none⟩ w from rfl)]
  exact loadVarA C.ok hk h hl hv
theorem take_get {l vs : List Value} {n off : Nat} (h : takeK n (l.drop off) some = some vs) : vs.length = n ∧ ∀ j v, vs[j]? = some v → l[off + j]? = some v := by
  obtain ⟨h1, h2⟩ := takeK_eq _ _ _ _ h
  simp only [Option.some.injEq] at h2
  subst h2
  refine ⟨by simp at h1 ⊢; omega, fun j v hj => ?_⟩
  rw [List.getElem?_take] at hj
  split at hj
  · simpa using hj
  · cases hj
theorem OpsW.ldA {vs : List Value} (H : Sat z w As) (hp : As.Perm (blk b E l :: Rs)) (hg : wan gd σ g = some true) (ha : ev σ x = .pointer (some ⟨b, off, none⟩)) (hk : C.T.isAgg t = true)
    (hv : takeK (C.T.size.getD t 0) (l.drop off) some = some vs) (hd : Nat.blt d N = true) (k : OpsW C N gd r (upd σ d (.agg vs.toArray)) w Q) : OpsW C N gd (⟨some d, .load t x, ty, pos, af, g⟩ :: r) σ w Q :=
  .ldAh (c := l.toArray) (fr := (0, 0)) ((H.perm hp).has Has.head) hg ha hk (take_get hv).1 (by simpa using (take_get hv).2) hd k
theorem storeVar_run {T : Tab} {P : Program} (hT : T.ok P = true) {c : List Value} (H : Sat z w (blk b E c :: Rs)) (h0 : Nat.blt 0 (T.kind.getD t 0) = true) {v : Value} (hs : v.cells.toList.all scal = true) (hl : v.cells.toList.length = T.size.getD t 0)
    (ho : off + v.cells.toList.length ≤ c.length) : ∃ w', (storeVar t ⟨b, off, none⟩ v).run P w = .ok () w' ∧ Sat z w' (blk b E (splice c off v.cells.toList) :: Rs) := by
  obtain ⟨i, hi, hs'⟩ := Tab.info_ hT (rfl : T.kind.getD t 0 = _) (by have := Nat.le_of_ble_eq_true h0; omega)
  obtain ⟨w', h1, h2⟩ := storeCells_run (P := P) v.cells.toList (off := off) 0 H (by simpa using ho) hs
  refine ⟨w', ?_, by simpa using h2⟩
  rw [storeVar, X.run_bind _ _ _ _ _ _ (run_sizeOf hi w), hs', ← hl]
  simpa using h1
/-- A store of one cell. -/
theorem OpsW.str (H : Sat z w As) (hp : As.Perm (blk b E l :: Rs)) (hg : wan gd σ g = some true) (ha : ev σ x = .pointer (some ⟨b, off, none⟩)) (hx : force (ev σ y) = some v) (hs : scal v = true) (h0 : Nat.blt 0 (C.T.kind.getD t 0) = true) (hz : Nat.beq (C.T.size.getD t 0) 1 = true)
    (ho : off < l.length) (k : ∀ w', Sat z w' (blk b E (l.set off v) :: Rs) → OpsW C N gd r σ w' Q) : OpsW C N gd (⟨none, .store t x y, ty, pos, af, g⟩ :: r) σ w Q := by
  rw [force_eq, Option.some.injEq] at hx
  have hc : v.cells.toList = [v] := by cases v <;> first | rfl | (simp [scal] at hs)
  obtain ⟨w', h1, h2⟩ := storeVar_run C.ok (t := t) (off := off) (v := v) (H.perm hp) h0 (by rw [hc]; simp [hs]) (by rw [hc, Nat.eq_of_beq_eq_true hz]; rfl) (by rw [hc]; exact ho)
  rw [hc] at h2
  refine .unit (w' := w') hg ?_ rfl (k w' h2)
  simp only [execOp, ha, hx]
  show (Instr.storeAt t _ v >>= fun _ => pure Next.skip).run C.P w = _
  rw [X.run_bind _ _ _ _ _ _ (show (Instr.storeAt t (.pointer (some ⟨b, off, none⟩)) v).run C.P w = .ok () w' from h1)]
  rfl
/-- A store of a struct or an array. -/
theorem OpsW.strA {vs : List Value} (H : Sat z w As) (hp : As.Perm (blk b E l :: Rs)) (hg : wan gd σ g = some true) (ha : ev σ x = .pointer (some ⟨b, off, none⟩)) (hx : forceL (ev σ y).cells.toList some = some vs) (hs : vs.all scal = true) (h0 : Nat.blt 0 (C.T.kind.getD t 0) = true)
    (hz : vs.length = C.T.size.getD t 0) (ho : off + vs.length ≤ l.length) (k : ∀ w', Sat z w' (blk b E (splice l off vs) :: Rs) → OpsW C N gd r σ w' Q) : OpsW C N gd (⟨none, .store t x y, ty, pos, af, g⟩ :: r) σ w Q := by
  rw [forceL_eq, Option.some.injEq] at hx
  obtain ⟨w', h1, h2⟩ := storeVar_run C.ok (t := t) (off := off) (v := ev σ y) (H.perm hp) h0 (by rw [hx]; exact hs) (by rw [hx]; exact hz) (by rw [hx]; exact ho)
  rw [hx] at h2
  refine .unit (w' := w') hg ?_ rfl (k w' h2)
  simp only [execOp, ha]
  show (Instr.storeAt t _ _ >>= fun _ => pure Next.skip).run C.P w = _
  rw [X.run_bind _ _ _ _ _ _ (show (Instr.storeAt t (.pointer (some ⟨b, off, none⟩)) (ev σ y)).run C.P w = .ok () w' from h1)]
  rfl
/-- The address of a slice's element. -/
theorem OpsW.ix {kd : IntKind} {i : Int} {len cap n sz : Nat} (hg : wan gd σ g = some true) (hx : ev σ x = .slice (some ⟨b, off, none⟩) len cap) (hy : ev σ y = .int kd i) (hk : Nat.beq (C.T.kind.getD t 0) 4 = true) (he : Nat.blt 0 (C.T.kind.getD (C.T.elem.getD t 0) 0) = true)
    (hsz : C.T.size[C.T.elem.getD t 0]? = some sz) (hn : i = n) (hl : n < len) (hd : Nat.blt d N = true) (k : OpsW C N gd r (upd σ d (.pointer (some ⟨b, off + n * sz, none⟩))) w Q) : OpsW C N gd (⟨some d, .indexAddr t x y, ty, pos, af, g⟩ :: r) σ w Q := by
  have hsz' : C.T.size.getD (C.T.elem.getD t 0) 0 = sz := by rw [List.getD_eq_getElem?_getD, hsz]; rfl
  refine .val (v := .pointer (some ⟨b, off + n * sz, none⟩)) (w' := w) hg (run_v ?_) (by simp only [putE, hd]) k
  have hu := Tab.slice_ C.ok (Nat.eq_of_beq_eq_true hk)
  obtain ⟨ie, hie, hse⟩ := Tab.info_ C.ok (rfl : C.T.kind.getD (C.T.elem.getD t 0) 0 = _) (by have := Nat.le_of_ble_eq_true he; omega)
  subst hn
  simp only [Instr.indexAt, hx, hy, asIntOf, Sem.run_bind, Sem.run_pure, Result.andThen_ok, run_und hu]
  rw [if_pos ⟨by omega, by omega⟩]
  simp only [Sem.run_bind, run_sizeOf hie, Result.andThen_ok, Sem.run_pure, add_off, hse, hsz']
  simp
/-- The address of an array's element. -/
theorem OpsW.ixA {kd : IntKind} {i : Int} {n sz : Nat} (hg : wan gd σ g = some true) (hx : ev σ x = .pointer (some ⟨b, off, none⟩)) (hy : ev σ y = .int kd i) (hk : Nat.beq (C.T.kind.getD t 0) 5 = true) (he : Nat.blt 0 (C.T.kind.getD (C.T.elem.getD t 0) 0) = true)
    (hsz : C.T.size[C.T.elem.getD t 0]? = some sz) (hn : i = n) (hl : n < C.T.alen.getD t 0) (hd : Nat.blt d N = true) (k : OpsW C N gd r (upd σ d (.pointer (some ⟨b, off + n * sz, none⟩))) w Q) : OpsW C N gd (⟨some d, .indexAddr t x y, ty, pos, af, g⟩ :: r) σ w Q := by
  have hsz' : C.T.size.getD (C.T.elem.getD t 0) 0 = sz := by rw [List.getD_eq_getElem?_getD, hsz]; rfl
  refine .val (v := .pointer (some ⟨b, off + n * sz, none⟩)) (w' := w) hg (run_v ?_) (by simp only [putE, hd]) k
  have hu := Tab.array_ C.ok (Nat.eq_of_beq_eq_true hk)
  obtain ⟨ie, hie, hse⟩ := Tab.info_ C.ok (rfl : C.T.kind.getD (C.T.elem.getD t 0) 0 = _) (by have := Nat.le_of_ble_eq_true he; omega)
  subst hn
  simp only [Instr.indexAt, hx, hy, asIntOf, Sem.run_bind, Sem.run_pure, Result.andThen_ok, run_und hu, Instr.sureAddr]
  rw [if_pos ⟨by omega, by omega⟩]
  simp only [Sem.run_bind, run_sizeOf hie, Result.andThen_ok, Sem.run_pure, add_off, hse, hsz']
  simp
end
end Go.Proofs.YtgaabaohkpjllaaDoor.X
