/- The engine of this seat's proofs, part 10: a statement whose operations Go may carry out in more than one order; conditions: none. -/
import Derived.Test.YtgaabaohkpjllaaDoorX8
import Derived.Orders
namespace Go.Proofs.YtgaabaohkpjllaaDoor.X
open Go
set_option linter.unusedSimpArgs false
set_option linter.unusedVariables false

/-- Of each operation: which others are surely ahead of it (bit j). -/
def bef1 (acc : List Nat) (o : Oper) : Nat := o.after.toList.foldl (fun s e => if Region.binds .any e then s ||| 2 ^ e.on ||| acc.getD e.on 0 else s) 0
def befs : List Nat → List Oper → List Nat
  | acc, [] => acc
  | acc, o :: l => befs (acc ++ [bef1 acc o]) l
def dsts (l : List Oper) : List (Option Nat) := l.map (·.dst)
/-- What is asked of the text alone. -/
def drawOk (l : List Oper) (B : List Nat) : Bool :=
  decide (befs [] l = B) && (List.range l.length).all (fun i => match l[i]? with
    | some o => o.after.toList.all fun e => !Region.binds .any e || Nat.blt e.on i
    | none => true)
/-- Operations k to m: each writes a slot of its own; all others come ahead of k or behind m. -/
def segOk (l : List Oper) (B : List Nat) (k m : Nat) : Bool :=
  Nat.ble k m && Nat.ble m l.length &&
  (List.range l.length).all (fun i => (Nat.blt i m) || (List.range m).all fun j => Nat.blt j k || Nat.testBit (B.getD i 0) j) &&
  (List.range m).all (fun i => Nat.blt i k || (List.range m).all fun j => Nat.blt j k || Nat.beq i j || (match (l[i]?).bind (·.dst), (l[j]?).bind (·.dst) with | some a, some b => !Nat.beq a b | _, _ => true))

theorem befs_length (l : List Oper) : ∀ acc, (befs acc l).length = acc.length + l.length := by
  induction l with
  | nil => intro acc; rfl
  | cons o l ih => intro acc; rw [befs, ih]; simp; omega
theorem befs_pre (l : List Oper) : ∀ acc i, i < acc.length → (befs acc l)[i]? = acc[i]? := by
  induction l with
  | nil => intro acc i _; rfl
  | cons o l ih => intro acc i h; rw [befs, ih _ _ (by simp; omega), List.getElem?_append_left h]
theorem foldl_or {l : List Edge} {acc : List Nat} {j : Nat} : ∀ s, Nat.testBit (l.foldl (fun s e => if Region.binds .any e then s ||| 2 ^ e.on ||| acc.getD e.on 0 else s) s) j = true →
    Nat.testBit s j = true ∨ ∃ e ∈ l, Region.binds .any e = true ∧ (e.on = j ∨ Nat.testBit (acc.getD e.on 0) j = true) := by
  induction l with
  | nil => intro s h; exact .inl h
  | cons e l ih =>
    intro s h
    rw [List.foldl_cons] at h
    rcases ih _ h with h | ⟨e', h1, h2⟩
    · split at h
      · rename_i hb
        simp only [Nat.testBit_or, Bool.or_eq_true] at h
        rcases h with (h | h) | h
        · exact .inl h
        · right; refine ⟨e, List.mem_cons_self .., hb, .inl ?_⟩
          rw [Nat.testBit_two_pow] at h; simpa using h
        · exact .inr ⟨e, List.mem_cons_self .., hb, .inr h⟩
      · exact .inl h
    · exact .inr ⟨e', List.mem_cons_of_mem _ h1, h2⟩
theorem befs_bit (l : List Oper) : ∀ acc i o j, l[i]? = some o → (∀ e ∈ o.after.toList, Region.binds .any e = true → e.on < acc.length + i) → Nat.testBit ((befs acc l).getD (acc.length + i) 0) j = true →
    ∃ e ∈ o.after.toList, Region.binds .any e = true ∧ (e.on = j ∨ Nat.testBit ((befs acc l).getD e.on 0) j = true) := by
  induction l with
  | nil => intro acc i o j h; simp at h
  | cons o l ih =>
    intro acc i o' j h he ht
    cases i with
    | zero =>
      simp only [List.getElem?_cons_zero, Option.some.injEq] at h
      subst h
      rw [befs, List.getD_eq_getElem?_getD, befs_pre _ _ _ (by simp)] at ht
      simp only [Nat.add_zero, List.getElem?_append_right (Nat.le_refl _), Nat.sub_self, List.getElem?_cons_zero, Option.getD_some] at ht
      rcases foldl_or 0 ht with h0 | ⟨e, h1, h2, h3⟩
      · simp at h0
      · refine ⟨e, h1, h2, ?_⟩
        rcases h3 with h3 | h3
        · exact .inl h3
        · right
          have := he e h1 h2
          rw [List.getD_eq_getElem?_getD] at h3 ⊢
          rw [befs, befs_pre _ _ _ (by simp; omega), List.getElem?_append_left (by omega)]; exact h3
    | succ i =>
      simp only [List.getElem?_cons_succ] at h
      rw [befs] at ht ⊢
      have e1 : acc.length + (i + 1) = (acc ++ [bef1 acc o]).length + i := by simp; omega
      rw [e1] at ht
      exact ih _ i o' j h (fun e h1 h2 => by have := he e h1 h2; simp; omega) ht

/-! ### The slots ahead of one of them -/
def knownE (m k : Nat) : Nat → List (Option Nat × Value) → Env → Env
  | _, [], σ => σ
  | j, (some d, v) :: r, σ => knownE m k (j + 1) r (bif Nat.testBit m j then upd σ d v else σ)
  | j, (none, _) :: r, σ => knownE m k (j + 1) r σ
def unkB (l : List (Option Nat)) (B : List Nat) (k m i s : Nat) : Bool :=
  (List.range m).any fun j => !Nat.blt j k && !Nat.beq j i && (match l.getD j none with | some d => Nat.beq d s | none => false) && !(Nat.testBit (B.getD j 0) i) && !(Nat.blt j i && Nat.testBit (B.getD i 0) j)
def envAt (l : List (Option Nat)) (B : List Nat) (k m i : Nat) (done : List (Option Nat × Value)) (τ σ : Env) : Env :=
  knownE (B.getD i 0) k k done (mix (unkB l B k m i) τ σ)
theorem knownE_spec (m k : Nat) (s : Nat) : ∀ (done : List (Option Nat × Value)) (j : Nat) (σ : Env),
    (∃ i v, done[i]? = some (some s, v) ∧ Nat.testBit m (j + i) = true ∧ knownE m k j done σ s = v) ∨ (knownE m k j done σ s = σ s ∧ ∀ i v, done[i]? = some (some s, v) → Nat.testBit m (j + i) = false) := by
  intro done
  induction done with
  | nil => intro j σ; right; exact ⟨rfl, by simp⟩
  | cons p r ih =>
    intro j σ
    obtain ⟨d, v⟩ := p
    cases d with
    | none =>
      rcases ih (j + 1) σ with ⟨i, u, h1, h2, h3⟩ | ⟨h1, h2⟩
      · exact .inl ⟨i + 1, u, by simpa using h1, by rw [← h2]; congr 1; omega, h3⟩
      · refine .inr ⟨h1, fun i u hi => ?_⟩
        cases i with
        | zero => simp at hi
        | succ i => have := h2 i u (by simpa using hi); rw [← this]; congr 1; omega
    | some d =>
      rcases ih (j + 1) (bif Nat.testBit m j then upd σ d v else σ) with ⟨i, u, h1, h2, h3⟩ | ⟨h1, h2⟩
      · exact .inl ⟨i + 1, u, by simpa using h1, by rw [← h2]; congr 1; omega, h3⟩
      · cases hb : Nat.testBit m j
        · refine .inr ⟨?_, fun i u hi => ?_⟩
          · simp only [knownE]; rw [h1, hb]; rfl
          · cases i with
            | zero => simpa using hb
            | succ i => have := h2 i u (by simpa using hi); rw [← this]; congr 1; omega
        · by_cases hd : s = d
          · subst hd
            refine .inl ⟨0, v, rfl, by simpa using hb, ?_⟩
            simp only [knownE]; rw [h1, hb]
            show upd σ s v s = v
            unfold upd; rw [Nat.beq_refl]; rfl
          · refine .inr ⟨?_, fun i u hi => ?_⟩
            · simp only [knownE]; rw [h1, hb]
              show upd σ d v s = σ s
              unfold upd
              have : Nat.beq s d = false := by
                cases h : Nat.beq s d
                · rfl
                · exact absurd (Nat.eq_of_beq_eq_true h) hd
              rw [this]; rfl
            · cases i with
              | zero => simp at hi; exact absurd hi.1.symm hd
              | succ i => have := h2 i u (by simpa using hi); rw [← this]; congr 1; omega

/-- The first k are carried out; the others in any order. -/
def pref (n k : Nat) : Array Bool := (List.replicate k true ++ List.replicate (n - k) false).toArray
def AnyW (C : Cfg) (N : Nat) (l : List Oper) (B : List Nat) (k : Nat) (σ : Env) (w : World) (Q : Env → World → Prop) : Prop :=
  ∀ (a : Act) (Q' : Exit → Act → World → Prop), Rel N a σ → (∀ a' σ' w', Rel N a' σ' → Q σ' w' → Q' .normal a' w') →
    wpAny C.P .any l.toArray Q' (l.length - k) (pref l.length k) a w
section
variable {C : Cfg} {N : Nat} {σ : Env} {w : World} {l : List Oper} {B : List Nat}
theorem pref_get (n k i : Nat) (hk : k ≤ n) : (pref n k).getD i true = (decide (i < k) || !decide (i < n)) := by
  unfold pref
  rw [Array.getD_eq_getD_getElem?, List.getElem?_toArray]
  by_cases h : i < k
  · rw [List.getElem?_append_left (by simpa using h)]; simp [h]
  · rw [List.getElem?_append_right (by simpa using h)]
    simp [List.getElem?_replicate, h]
    split
    · rename_i h2; simp; omega
    · rename_i h2; simp; omega
theorem ready_mem {ops : Array Oper} {listed : Array Bool} {i : Nat} (h : i ∈ Region.ready .any ops listed) : i < ops.size ∧ listed.getD i true = false ∧ ∀ o, ops[i]? = some o → ∀ e ∈ o.after.toList, Region.binds .any e = true → listed.getD e.on false = true := by
  unfold Region.ready at h
  simp only [List.mem_filter, List.mem_range, Bool.and_eq_true, Bool.not_eq_true'] at h
  refine ⟨h.1, h.2.1, fun o ho e he hb => ?_⟩
  have := h.2.2
  rw [ho] at this
  simp only [Option.map_some, Option.getD_some] at this
  have h2 := Array.all_eq_true_iff_forall_mem.1 this e (Array.mem_toList_iff.1 he)
  simpa [hb] using h2
theorem mem_ready {ops : Array Oper} {listed : Array Bool} {i : Nat} {o : Oper} (hi : ops[i]? = some o) (h1 : listed.getD i true = false) (h2 : ∀ e ∈ o.after.toList, Region.binds .any e = true → listed.getD e.on false = true) : i ∈ Region.ready .any ops listed := by
  unfold Region.ready
  simp only [List.mem_filter, List.mem_range, Bool.and_eq_true, Bool.not_eq_true']
  refine ⟨(Array.getElem?_eq_some_iff.1 hi).1, h1, ?_⟩
  rw [hi]
  simp only [Option.map_some, Option.getD_some]
  refine Array.all_eq_true_iff_forall_mem.2 fun e he => ?_
  cases hb : Region.binds .any e
  · rfl
  · simpa using h2 e (Array.mem_toList_iff.2 he) hb

theorem wpOp_of {ops : Array Oper} {i : Nat} {o : Oper} {a : Act} {K : Act → World → Prop} {Q' : Exit → Act → World → Prop} {Q : Env → World → Prop} (ho : ops[i]? = some o) (R : Rel N a σ)
    (h : OpsW C N (ops.toList.map (·.dst)) [o] σ w Q) (k : ∀ a' σ' w', Rel N a' σ' → Q σ' w' → K a' w') : wpOp C.P ops Q' i K a w := by
  have h1 := h ops [i] a (fun e a' w' => match e with | .normal => K a' w' | e => Q' e a' w') (by simp [ho]) rfl R (fun a' σ' w' R' q => k a' σ' w' R' q)
  rw [wpOps_cons] at h1
  unfold wpOp at h1 ⊢
  simp only [ho] at h1 ⊢
  split
  · rename_i hw
    simp only [hw, if_true] at h1
    rcases h1 with h1 | ⟨h1, a0, w0, h2⟩
    · left
      unfold Oper.wp at h1 ⊢
      generalize (execOp a.eval o).run C.P w = res at *
      cases res with
      | ok n w' =>
        cases n <;> simp only [Oper.upon] at h1 ⊢ <;>
          first
            | exact h1
            | exact Calls.mono h1 (fun e w'' he => by cases e <;> first | exact he | (obtain ⟨a0, w0, h2⟩ := he; exact ⟨a0, w0, h2⟩))
            | exact Rows.mono h1 (fun _ _ he => he)
      | halt x w' => cases x <;> simp only [Oper.upon] at h1 ⊢ <;> exact h1
    · exact .inr ⟨h1, a0, w0, h2⟩
  · rename_i hw
    simp only [hw] at h1
    exact h1
theorem drawOk_at (h : drawOk l B = true) : befs [] l = B ∧ ∀ i o, l[i]? = some o → ∀ e ∈ o.after.toList, Region.binds .any e = true → e.on < i := by
  unfold drawOk at h
  simp only [Bool.and_eq_true, decide_eq_true_eq] at h
  refine ⟨h.1, fun i o ho e he hb => ?_⟩
  have := List.all_eq_true.1 h.2 i (List.mem_range.2 (List.getElem?_eq_some_iff.1 ho).1)
  rw [ho] at this
  have := List.all_eq_true.1 this e he
  simp only [hb, Bool.not_true, Bool.false_or] at this
  exact Nat.le_of_ble_eq_true this
theorem bit_of (h : drawOk l B = true) {i : Nat} {o : Oper} (ho : l[i]? = some o) {j : Nat} (hj : Nat.testBit (B.getD i 0) j = true) :
    ∃ e ∈ o.after.toList, Region.binds .any e = true ∧ (e.on = j ∨ Nat.testBit (B.getD e.on 0) j = true) := by
  obtain ⟨h1, h2⟩ := drawOk_at h
  have := befs_bit l [] i o j ho (fun e he hb => by have := h2 i o ho e he hb; simpa using this) (by rw [h1]; simpa using hj)
  rw [h1] at this; exact this
theorem bit_lt (h : drawOk l B = true) : ∀ i o, l[i]? = some o → ∀ j, Nat.testBit (B.getD i 0) j = true → j < i := by
  intro i
  induction i using Nat.strongRecOn with
  | _ i ih =>
    intro o ho j hj
    obtain ⟨e, he, hb, h1⟩ := bit_of h ho hj
    have hlt := (drawOk_at h).2 i o ho e he hb
    rcases h1 with rfl | h1
    · exact hlt
    · have hl : e.on < l.length := by have := (List.getElem?_eq_some_iff.1 ho).1; omega
      have := ih e.on hlt _ (List.getElem?_eq_getElem hl) j h1
      omega

def DrawP (C : Cfg) (N : Nat) (l : List Oper) (B : List Nat) (k m : Nat) (z : World) (As : List HP) (σ0 : Env) (K : Env → World → Prop) : Nat → List (Option Nat × Value) → Env → List Oper → Prop
  | _, _, acc, [] => ∀ w, Sat z w As → K acc w
  | i, done, acc, o :: r => ∃ d v, o.dst = some d ∧ (∀ τ w, Sat z w As → OpsW C N (dsts l) [o] (envAt (dsts l) B k m i done τ σ0) w fun σ' w' => σ' = upd (envAt (dsts l) B k m i done τ σ0) d v ∧ Sat z w' As) ∧
      DrawP C N l B k m z As σ0 K (i + 1) (done ++ [(some d, v)]) (upd acc d v) r
theorem DrawP.nil {k m i : Nat} {z : World} {As : List HP} {σ0 acc : Env} {K : Env → World → Prop} {done : List (Option Nat × Value)} (h : ∀ w, Sat z w As → K acc w) : DrawP C N l B k m z As σ0 K i done acc [] := h
theorem DrawP.cons {k m i d : Nat} {z : World} {As : List HP} {σ0 acc : Env} {K : Env → World → Prop} {done : List (Option Nat × Value)} {o : Oper} {r : List Oper} {v : Value} (hd : o.dst = some d)
    (h : ∀ τ w, Sat z w As → OpsW C N (dsts l) [o] (envAt (dsts l) B k m i done τ σ0) w fun σ' w' => σ' = upd (envAt (dsts l) B k m i done τ σ0) d v ∧ Sat z w' As)
    (k' : DrawP C N l B k m z As σ0 K (i + 1) (done ++ [(some d, v)]) (upd acc d v) r) : DrawP C N l B k m z As σ0 K i done acc (o :: r) := ⟨d, v, hd, h, k'⟩
theorem DrawP.go {k m i : Nat} {z : World} {As : List HP} {σ0 acc : Env} {K : Env → World → Prop} {done : List (Option Nat × Value)} {o : Oper} {r : List Oper} (h : DrawP C N l B k m z As σ0 K i done acc (o :: r)) : DrawP C N l B k m z As σ0 K i done acc (o :: r) := h
theorem DrawP.goNe {k m i : Nat} {z : World} {As : List HP} {σ0 acc : Env} {K : Env → World → Prop} {done : List (Option Nat × Value)} {r : List Oper} {d t yt : Nat} {x y : Operand} {ty : TypeId} {pos : String} {af : Array Edge} {g : Option (Nat × Bool)} (h : DrawP C N l B k m z As σ0 K i done acc (⟨some d, .binOp .neq t x y yt, ty, pos, af, g⟩ :: r)) : DrawP C N l B k m z As σ0 K i done acc (⟨some d, .binOp .neq t x y yt, ty, pos, af, g⟩ :: r) := h
theorem DrawP.goEq {k m i : Nat} {z : World} {As : List HP} {σ0 acc : Env} {K : Env → World → Prop} {done : List (Option Nat × Value)} {r : List Oper} {d t yt : Nat} {x y : Operand} {ty : TypeId} {pos : String} {af : Array Edge} {g : Option (Nat × Bool)} (h : DrawP C N l B k m z As σ0 K i done acc (⟨some d, .binOp .eql t x y yt, ty, pos, af, g⟩ :: r)) : DrawP C N l B k m z As σ0 K i done acc (⟨some d, .binOp .eql t x y yt, ty, pos, af, g⟩ :: r) := h
theorem DrawP.goCall {k m i : Nat} {z : World} {As : List HP} {σ0 acc : Env} {K : Env → World → Prop} {done : List (Option Nat × Value)} {r : List Oper} {dst : Option Nat} {c : Call} {ty : TypeId} {pos : String} {af : Array Edge} {g : Option (Nat × Bool)} (h : DrawP C N l B k m z As σ0 K i done acc (⟨dst, .call c, ty, pos, af, g⟩ :: r)) : DrawP C N l B k m z As σ0 K i done acc (⟨dst, .call c, ty, pos, af, g⟩ :: r) := h
def som (p : Nat × Value) : Option Nat × Value := (some p.1, p.2)
theorem DrawP.all {k m : Nat} {z : World} {As : List HP} {σ0 : Env} {K : Env → World → Prop} : ∀ (rest : List Oper) (i : Nat) (done : List (Option Nat × Value)) (acc : Env), DrawP C N l B k m z As σ0 K i done acc rest →
    ∃ vs : List (Nat × Value), vs.length = rest.length ∧ (∀ t o, rest[t]? = some o → ∃ d v, vs[t]? = some (d, v) ∧ o.dst = some d ∧
      ∀ τ w, Sat z w As → OpsW C N (dsts l) [o] (envAt (dsts l) B k m (i + t) (done ++ (vs.take t).map som) τ σ0) w fun σ' w' => σ' = upd (envAt (dsts l) B k m (i + t) (done ++ (vs.take t).map som) τ σ0) d v ∧ Sat z w' As) ∧
      ∀ w, Sat z w As → K (vs.foldl (fun σ p => upd σ p.1 p.2) acc) w := by
  intro rest
  induction rest with
  | nil => intro i done acc h; exact ⟨[], rfl, by simp, h⟩
  | cons o r ih =>
    intro i done acc h
    obtain ⟨d, v, hd, h1, h2⟩ := h
    obtain ⟨vs, e1, e2, e3⟩ := ih _ _ _ h2
    refine ⟨(d, v) :: vs, by simp [e1], ?_, e3⟩
    intro t o' ht
    cases t with
    | zero =>
      simp only [List.getElem?_cons_zero, Option.some.injEq] at ht
      subst ht
      exact ⟨d, v, rfl, hd, by simpa using h1⟩
    | succ t =>
      obtain ⟨d', v', a1, a2, a3⟩ := e2 t o' (by simpa using ht)
      refine ⟨d', v', by simpa using a1, a2, ?_⟩
      have : done ++ (((d, v) :: vs).take (t + 1)).map som = done ++ [(some d, v)] ++ (vs.take t).map som := by simp [som]
      rw [this, show i + (t + 1) = i + 1 + t by omega]
      exact a3
theorem count_set : ∀ (L : List Bool) (i : Nat), L[i]? = some false → (L.set i true).count false + 1 = L.count false := by
  intro L
  induction L with
  | nil => intro i h; simp at h
  | cons b L ih =>
    intro i h
    cases i with
    | zero => simp at h; subst h; simp
    | succ i => have := ih i (by simpa using h); simp [List.count_cons]; omega
theorem fold_upd (vs : List (Nat × Value)) : ∀ (σ : Env) (s : Nat), (∀ (t u d : Nat) (v v' : Value), vs[t]? = some (d, v) → vs[u]? = some (d, v') → t = u) →
    (∀ (t : Nat) (v : Value), vs[t]? = some (s, v) → vs.foldl (fun σ p => upd σ p.1 p.2) σ s = v) ∧ ((∀ (t : Nat) (v : Value), vs[t]? ≠ some (s, v)) → vs.foldl (fun σ p => upd σ p.1 p.2) σ s = σ s) := by
  induction vs with
  | nil => intro σ s _; exact ⟨by simp, fun _ => rfl⟩
  | cons p vs ih =>
    intro σ s hu
    obtain ⟨d, v⟩ := p
    have hu' : ∀ t u d v v', vs[t]? = some (d, v) → vs[u]? = some (d, v') → t = u := fun t u d' a b h1 h2 => by
      have := hu (t + 1) (u + 1) d' a b (by simpa using h1) (by simpa using h2); omega
    obtain ⟨i1, i2⟩ := ih (upd σ d v) s hu'
    refine ⟨fun t u ht => ?_, fun hn => ?_⟩
    · cases t with
      | zero =>
        simp at ht
        obtain ⟨rfl, rfl⟩ := ht
        rw [List.foldl_cons, i2]
        · show upd σ d v d = v
          unfold upd; rw [Nat.beq_refl]; rfl
        · intro t' v' h'
          have := hu 0 (t' + 1) d v v' rfl (by simpa using h'); omega
      | succ t => exact i1 t u (by simpa using ht)
    · rw [List.foldl_cons, i2 fun t u h => hn (t + 1) u (by simpa using h)]
      show upd σ d v s = σ s
      unfold upd
      have : Nat.beq s d = false := by
        cases h : Nat.beq s d
        · rfl
        · have := Nat.eq_of_beq_eq_true h; subst this; exact absurd rfl (hn 0 v)
      rw [this]; rfl

theorem segOk_at {k m : Nat} (h : segOk l B k m = true) : k ≤ m ∧ m ≤ l.length ∧ (∀ i j, m ≤ i → i < l.length → k ≤ j → j < m → Nat.testBit (B.getD i 0) j = true) ∧
    (∀ i j a, k ≤ i → i < m → k ≤ j → j < m → (l[i]?).bind (·.dst) = some a → (l[j]?).bind (·.dst) = some a → i = j) := by
  unfold segOk at h
  simp only [Bool.and_eq_true] at h
  obtain ⟨⟨⟨h1, h2⟩, h3⟩, h4⟩ := h
  refine ⟨Nat.le_of_ble_eq_true h1, Nat.le_of_ble_eq_true h2, fun i j hi hil hj hjm => ?_, fun i j a hi him hj hjm ha hb => ?_⟩
  · have := List.all_eq_true.1 h3 i (List.mem_range.2 hil)
    rw [Bool.or_eq_true] at this
    rcases this with this | this
    · have := Nat.le_of_ble_eq_true this; omega
    · have := List.all_eq_true.1 this j (List.mem_range.2 hjm)
      rw [Bool.or_eq_true] at this
      rcases this with this | this
      · have := Nat.le_of_ble_eq_true this; omega
      · exact this
  · have := List.all_eq_true.1 h4 i (List.mem_range.2 him)
    rw [Bool.or_eq_true] at this
    rcases this with this | this
    · have := Nat.le_of_ble_eq_true this; omega
    · have := List.all_eq_true.1 this j (List.mem_range.2 hjm)
      rw [ha, hb] at this
      simp only [Nat.beq_refl, Bool.not_true, Bool.or_false, Bool.or_eq_true] at this
      rcases this with this | this
      · have := Nat.le_of_ble_eq_true this; omega
      · exact Nat.eq_of_beq_eq_true this

/-- Some operations in any order, each with its value; then the others. -/
theorem AnyW.seg {k m : Nat} {z : World} {As : List HP} {rest : List Oper} {Q : Env → World → Prop} (hB : drawOk l B = true) (hs : segOk l B k m = true) (H : Sat z w As) (hr : (l.drop k).take (m - k) = rest)
    (h : DrawP C N l B k m z As σ (fun σ w => AnyW C N l B m σ w Q) k [] σ rest) : AnyW C N l B k σ w Q := by
  intro a Q' R hq
  obtain ⟨hkm, hml, hseg, huniq⟩ := segOk_at hs
  obtain ⟨vs, hvl, hv, hend⟩ := DrawP.all rest k [] σ h
  have hrl : rest.length = m - k := by rw [← hr, List.length_take, List.length_drop]; omega
  have hrest : ∀ t, t < m - k → rest[t]? = l[k + t]? := fun t ht => by rw [← hr, List.getElem?_take, if_pos ht, List.getElem?_drop]
  have hdst : ∀ t d v, vs[t]? = some (d, v) → (l[k + t]?).bind (·.dst) = some d := by
    intro t d v ht
    have htl : t < m - k := by have := (List.getElem?_eq_some_iff.1 ht).1; omega
    obtain ⟨d', v', e1, e2, _⟩ := hv t (rest[t]'(by omega)) (List.getElem?_eq_getElem _)
    rw [ht] at e1; simp at e1
    rw [← hrest t htl, List.getElem?_eq_getElem (by omega)]
    simp [e2, e1.1]
  have hvu : ∀ (t u d : Nat) (v v' : Value), vs[t]? = some (d, v) → vs[u]? = some (d, v') → t = u := by
    intro t u d v v' h1 h2
    have htl : t < m - k := by have := (List.getElem?_eq_some_iff.1 h1).1; omega
    have hul : u < m - k := by have := (List.getElem?_eq_some_iff.1 h2).1; omega
    have := huniq (k + t) (k + u) d (by omega) (by omega) (by omega) (by omega) (hdst _ _ _ h1) (hdst _ _ _ h2)
    omega
  -- what holds while some of them are carried out
  have key : ∀ fuel (listed : Array Bool) (a : Act) (σ₁ : Env) (w : World), listed.size = l.length → (∀ j, j < k → listed[j]? = some true) → (∀ j, m ≤ j → j < l.length → listed[j]? = some false) →
      (∀ i j, listed[i]? = some true → Nat.testBit (B.getD i 0) j = true → listed[j]? = some true) →
      (∀ t d v, vs[t]? = some (d, v) → listed[k + t]? = some true → σ₁ d = v) → (∀ s, (∀ t v, vs[t]? = some (s, v) → listed[k + t]? = some false) → σ₁ s = σ s) →
      Rel N a σ₁ → Sat z w As → listed.toList.count false = fuel → wpAny C.P .any l.toArray Q' fuel listed a w := by
    intro fuel
    induction fuel
    case' succ fuel ih => intro listed a σ₁ w hsz hlo hhi hcl f1 f2 R H hc
    case' zero => intro listed a σ₁ w hsz hlo hhi hcl f1 f2 R H hc
    all_goals
      by_cases hall : ∀ j, k ≤ j → j < m → listed[j]? = some true
      · -- all of them are
        have hpre : listed = pref l.length m := by
          apply Array.ext'
          apply List.ext_getElem?
          intro j
          rw [Array.getElem?_toList]
          unfold pref
          by_cases h1 : j < m
          · rw [List.getElem?_append_left (by simpa using h1)]
            simp [List.getElem?_replicate, h1]
            by_cases h2 : j < k
            · exact hlo j h2
            · exact hall j (by omega) h1
          · rw [List.getElem?_append_right (by simpa using h1)]
            simp [List.getElem?_replicate]
            by_cases h2 : j < l.length
            · rw [if_pos (by omega)]; exact hhi j (by omega) h2
            · rw [if_neg (by omega)]; exact Array.getElem?_eq_none (by omega)
        have hfu : listed.toList.count false = l.length - m := by
          rw [hpre]; unfold pref; simp [List.count_replicate]
        have hσ : σ₁ = vs.foldl (fun σ p => upd σ p.1 p.2) σ := by
          funext s
          by_cases hx : ∃ (t : Nat) (v : Value), vs[t]? = some (s, v)
          · obtain ⟨t, v, ht⟩ := hx
            have htl : t < m - k := by have := (List.getElem?_eq_some_iff.1 ht).1; omega
            rw [(fold_upd vs σ s hvu).1 t v ht]
            exact f1 t s v ht (hall _ (by omega) (by omega))
          · rw [(fold_upd vs σ s hvu).2 fun t v ht => hx ⟨t, v, ht⟩]
            exact f2 s fun t v ht => absurd ⟨t, v, ht⟩ hx
        have := hend w H a Q' (hσ ▸ R) hq
        rw [hpre, ← hc, hfu]; exact this
    · -- none is left, and yet not all
      exfalso
      apply hall
      intro j hj hjm
      cases hlj : listed[j]? with
      | none => have := Array.getElem?_eq_none_iff.1 hlj; omega
      | some b =>
        cases b
        · have : false ∈ listed.toList := by
            rw [Array.mem_toList_iff]; exact Array.mem_of_getElem? hlj
          have := List.count_pos_iff.2 this; omega
        · rfl
    · -- the least of those that are not
      have hready : Region.ready .any l.toArray listed ≠ [] := by
        have hex : ∃ j, k ≤ j ∧ j < m ∧ listed[j]? = some false ∧ ∀ i, i < j → listed[i]? = some true := by
          have h1 : ∃ j, k ≤ j ∧ j < m ∧ listed[j]? ≠ some true := by
            apply Classical.byContradiction
            intro hn
            apply hall
            intro j hj hjm
            apply Classical.byContradiction
            intro h; exact hn ⟨j, hj, hjm, h⟩
          obtain ⟨j, hj⟩ := h1
          have : ∀ n j, j ≤ n → (k ≤ j ∧ j < m ∧ listed[j]? ≠ some true) → ∃ j, k ≤ j ∧ j < m ∧ listed[j]? ≠ some true ∧ ∀ i, i < j → listed[i]? = some true := by
            intro n
            induction n with
            | zero =>
              intro j hjn hj
              have hj0 : j = 0 := by omega
              subst hj0
              exact ⟨0, hj.1, hj.2.1, hj.2.2, fun i hi => by omega⟩
            | succ n ihn =>
              intro j hjn hj
              by_cases hb : ∃ i, i < j ∧ k ≤ i ∧ listed[i]? ≠ some true
              · obtain ⟨i, h1, h2, h3⟩ := hb
                exact ihn i (by omega) ⟨h2, by omega, h3⟩
              · refine ⟨j, hj.1, hj.2.1, hj.2.2, fun i hi => ?_⟩
                by_cases hik : i < k
                · exact hlo i hik
                · apply Classical.byContradiction
                  intro h; exact hb ⟨i, hi, by omega, h⟩
          obtain ⟨j, h1, h2, h3, h4⟩ := this j j (Nat.le_refl _) hj
          refine ⟨j, h1, h2, ?_, h4⟩
          cases hlj : listed[j]? with
          | none => have := Array.getElem?_eq_none_iff.1 hlj; omega
          | some b => cases b
                      · rfl
                      · exact absurd hlj h3
        obtain ⟨j, h1, h2, h3, h4⟩ := hex
        have hol : l.toArray[j]? = some (l[j]'(by omega)) := by rw [List.getElem?_toArray]; exact List.getElem?_eq_getElem _
        intro he
        have := mem_ready (listed := listed) hol (by rw [Array.getD_eq_getD_getElem?, h3]; rfl) (fun e hm hb => by
          have := (drawOk_at hB).2 j _ (List.getElem?_eq_getElem (by omega)) e hm hb
          rw [Array.getD_eq_getD_getElem?, h4 _ this]; rfl)
        rw [he] at this; simp at this
      refine ⟨fun h => absurd h hready, fun i hi => ?_⟩
      obtain ⟨hi1, hi2, hi3⟩ := ready_mem hi
      simp only [List.size_toArray] at hi1
      have hio : l[i]? = some l[i] := List.getElem?_eq_getElem hi1
      have hil : listed[i]? = some false := by
        rw [Array.getD_eq_getD_getElem?] at hi2
        cases hx : listed[i]? with
        | none => rw [hx] at hi2; simp at hi2
        | some b => rw [hx] at hi2; simp at hi2; rw [hi2]
      have hdir : ∀ e ∈ (l[i]).after.toList, Region.binds .any e = true → listed[e.on]? = some true := by
        intro e he hb
        have := hi3 l[i] (by rw [List.getElem?_toArray]; exact hio) e he hb
        rw [Array.getD_eq_getD_getElem?] at this
        cases hx : listed[e.on]? with
        | none => rw [hx] at this; simp at this
        | some b => rw [hx] at this; simp at this; rw [this]
      have hbits : ∀ j, Nat.testBit (B.getD i 0) j = true → listed[j]? = some true := by
        intro j hj
        obtain ⟨e, he, hb, h1⟩ := bit_of hB hio hj
        rcases h1 with rfl | h1
        · exact hdir e he hb
        · exact hcl _ _ (hdir e he hb) h1
      have hki : k ≤ i := by
        apply Classical.byContradiction
        intro h; have := hlo i (by omega); rw [hil] at this; cases this
      have him : i < m := by
        apply Classical.byContradiction
        intro h
        apply hall
        intro j hj hjm
        exact hbits j (hseg i j (by omega) hi1 hj hjm)
      obtain ⟨t, rfl⟩ : ∃ t, i = k + t := ⟨i - k, by omega⟩
      obtain ⟨d, v, e1, e2, e3⟩ := hv t l[k + t] (by rw [hrest t (by omega)]; exact hio)
      have henv : envAt (dsts l) B k m (k + t) ((vs.take t).map som) σ₁ σ = σ₁ := by
        funext s
        unfold envAt
        rcases knownE_spec (B.getD (k + t) 0) k s ((vs.take t).map som) k (mix (unkB (dsts l) B k m (k + t)) σ₁ σ) with ⟨u, x, a1, a2, a3⟩ | ⟨a1, a2⟩
        · rw [a3]
          rw [List.getElem?_map, List.getElem?_take] at a1
          split at a1
          · rename_i hut
            cases hx : vs[u]? with
            | none => rw [hx] at a1; simp at a1
            | some p =>
              rw [hx] at a1; simp [som] at a1
              obtain ⟨p1, p2⟩ := p
              simp at a1
              obtain ⟨rfl, rfl⟩ := a1
              exact (f1 u p1 p2 hx (hbits _ a2)).symm
          · simp at a1
        · rw [a1]
          unfold mix
          cases hb : unkB (dsts l) B k m (k + t) s
          · -- whoever writes it is not carried out yet
            refine (f2 s fun u x hx => ?_).symm
            have hul : u < m - k := by have := (List.getElem?_eq_some_iff.1 hx).1; omega
            have hds := hdst u s x hx
            unfold unkB at hb
            have hb2 := List.any_eq_false.1 hb (k + u) (List.mem_range.2 (by omega))
            have g1 : Nat.blt (k + u) k = false := by
              cases h : Nat.blt (k + u) k
              · rfl
              · have := Nat.le_of_ble_eq_true h; omega
            have g2 : (dsts l).getD (k + u) none = some s := by
              unfold dsts
              rw [List.getD_eq_getElem?_getD, List.getElem?_map]
              cases h : l[k + u]? with
              | none => rw [h] at hds; simp at hds
              | some o => rw [h] at hds; simpa using hds
            rw [g1, g2] at hb2
            simp only [Nat.beq_refl, Bool.not_false, Bool.true_and, Bool.and_true] at hb2
            by_cases hue : k + u = k + t
            · rw [hue]; exact hil
            · have g3 : Nat.beq (k + u) (k + t) = false := by
                cases h : Nat.beq (k + u) (k + t)
                · rfl
                · exact absurd (Nat.eq_of_beq_eq_true h) hue
              rw [g3] at hb2
              simp only [Bool.not_false, Bool.true_and, Bool.not_eq_true, Bool.and_eq_false_iff, Bool.not_eq_false'] at hb2
              rcases hb2 with hb2 | hb2
              · -- it hangs on this one
                cases hx2 : listed[k + u]? with
                | none => have := Array.getElem?_eq_none_iff.1 hx2; omega
                | some b => cases b
                            · rfl
                            · have := hcl _ _ hx2 hb2; rw [hil] at this; cases this
              · simp only [Bool.and_eq_true] at hb2
                have hlt : u < t := by have := Nat.le_of_ble_eq_true hb2.1; omega
                exact absurd hb2.2 (by rw [a2 u x (by rw [List.getElem?_map, List.getElem?_take, if_pos hlt, hx]; rfl)]; simp)
          · rfl
      have hop := e3 σ₁ w H
      rw [List.nil_append, henv] at hop
      refine wpOp_of (o := l[k + t]) (by rw [List.getElem?_toArray]; exact hio) R (by simpa [dsts] using hop) ?_
      rintro a' σ' w' R' ⟨rfl, H'⟩
      have hset : ∀ j, (listed.setIfInBounds (k + t) true)[j]? = if j = k + t then some true else listed[j]? := by
        intro j
        rw [Array.getElem?_setIfInBounds]
        by_cases hj : k + t = j
        · subst hj; rw [if_pos rfl, if_pos (by omega), if_pos rfl]
        · rw [if_neg hj, if_neg (fun e => hj e.symm)]
      refine ih _ a' _ w' (by simpa using hsz) ?_ ?_ ?_ ?_ ?_ R' H' ?_
      · intro j hj; rw [hset, if_neg (by omega)]; exact hlo j hj
      · intro j hj hjl; rw [hset, if_neg (by omega)]; exact hhi j hj hjl
      · intro i' j hi' hj
        rw [hset] at hi' ⊢
        by_cases hi'' : i' = k + t
        · subst hi''
          split
          · rfl
          · exact hbits j hj
        · rw [if_neg hi''] at hi'
          split
          · rfl
          · exact hcl _ _ hi' hj
      · intro u d' x hx hl
        rw [hset] at hl
        by_cases hd : d' = d
        · subst hd
          have := hvu u t d' x v hx e1
          subst this
          rw [e1] at hx; simp at hx; subst hx
          show upd σ₁ d' v d' = v
          unfold upd; rw [Nat.beq_refl]; rfl
        · have hne : k + u ≠ k + t := by
            intro h; have : u = t := by omega
            subst this; rw [e1] at hx; simp at hx; exact hd hx.1.symm
          rw [if_neg hne] at hl
          have hbq : Nat.beq d' d = false := by
            cases h : Nat.beq d' d
            · rfl
            · exact absurd (Nat.eq_of_beq_eq_true h) hd
          show upd σ₁ d v d' = x
          unfold upd; rw [hbq]; exact f1 u d' x hx hl
      · intro s hs
        have hd : s ≠ d := by
          rintro rfl
          have := hs t v e1
          rw [hset, if_pos rfl] at this; cases this
        have hbq : Nat.beq s d = false := by
          cases h : Nat.beq s d
          · rfl
          · exact absurd (Nat.eq_of_beq_eq_true h) hd
        show upd σ₁ d v s = σ s
        unfold upd; rw [hbq]
        refine f2 s fun u x hx => ?_
        have := hs u x hx
        rw [hset] at this
        split at this
        · cases this
        · exact this
      · have := count_set listed.toList (k + t) (by rw [Array.getElem?_toList]; exact hil)
        rw [Array.toList_setIfInBounds]; omega
  refine key (l.length - k) (pref l.length k) a σ w ?_ ?_ ?_ ?_ ?_ ?_ R H ?_
  · simp [pref]; omega
  · intro j hj; unfold pref; rw [List.getElem?_toArray, List.getElem?_append_left (by simpa using hj)]; simp [List.getElem?_replicate, hj]
  · intro j hj hjl; unfold pref; rw [List.getElem?_toArray, List.getElem?_append_right (by simp; omega)]; simp [List.getElem?_replicate]; omega
  · intro i j hi hj
    have hik : i < k := by
      apply Classical.byContradiction
      intro h
      unfold pref at hi
      rw [List.getElem?_toArray, List.getElem?_append_right (by simp; omega)] at hi
      simp [List.getElem?_replicate] at hi
    have hlt := bit_lt hB i _ (List.getElem?_eq_getElem (by omega)) j hj
    unfold pref; rw [List.getElem?_toArray, List.getElem?_append_left (by simp; omega)]; simp [List.getElem?_replicate]; omega
  · intro t d v hv hl
    exfalso
    have htl : t < m - k := by have := (List.getElem?_eq_some_iff.1 hv).1; omega
    unfold pref at hl
    rw [List.getElem?_toArray, List.getElem?_append_right (by simp)] at hl
    simp [List.getElem?_replicate] at hl
  · intro s _; rfl
  · unfold pref; simp [List.count_replicate]
theorem AnyW.done {Q : Env → World → Prop} (h : Q σ w) : AnyW C N l B l.length σ w Q := by
  intro a Q' R hq
  rw [Nat.sub_self]
  have hn : Region.ready .any l.toArray (pref l.length l.length) = [] := by
    apply List.eq_nil_iff_forall_not_mem.2
    intro i hi
    obtain ⟨h1, h2, _⟩ := ready_mem hi
    rw [pref_get _ _ _ (Nat.le_refl _)] at h2
    simp at h2 h1
  exact ⟨hn, hq _ _ _ R h⟩
theorem CW.draw {id : Nat} {Q : Post} {z : World} {As : List HP} (hm : C.P.follows .mixedOrders = true) (H : Sat z w As) (B : List Nat) (h : ∀ w' : World, Sat z w' As → AnyW C N l B 0 σ w' (fun σ w => Q .normal σ w)) : CW C N (.region id l.toArray true) σ w Q := by
  intro a R
  refine wp_region_any hm ?_
  have := h _ (H.drawn (w.drawn + 1)) a (fun e a' w' => ∃ σ', Rel N a' σ' ∧ Q e σ' w') R (fun a' σ' w' R' q => ⟨σ', R', q⟩)
  have e : pref l.length 0 = Array.replicate l.toArray.size false := by
    unfold pref; apply Array.ext'; simp
  rw [e] at this
  simpa using this
theorem CW.seqDraw {id : Nat} {Q : Post} {y : Code} {z : World} {As : List HP} (hm : C.P.follows .mixedOrders = true) (H : Sat z w As) (B : List Nat) (h : ∀ w' : World, Sat z w' As → AnyW C N l B 0 σ w' (fun σ w => CW C N y σ w Q)) : CW C N (.seq (.region id l.toArray true) y) σ w Q :=
  .seqD (.draw hm H B h)
/-- One operation that all others come ahead of, or behind. -/
theorem AnyW.one {k : Nat} {o : Oper} {Q : Env → World → Prop} (hB : drawOk l B = true) (hs : segOk l B k (k + 1) = true) (ho : l[k]? = some o)
    (h : OpsW C N (dsts l) [o] σ w (fun σ' w' => AnyW C N l B (k + 1) σ' w' Q)) : AnyW C N l B k σ w Q := by
  intro a Q' R hq
  obtain ⟨_, hml, hseg, _⟩ := segOk_at hs
  have hkl : k < l.length := by omega
  obtain ⟨fuel, hfu⟩ : ∃ f, l.length - k = f + 1 := ⟨l.length - k - 1, by omega⟩
  rw [hfu]
  have hlo : ∀ j, j < k → (pref l.length k)[j]? = some true := fun j hj => by
    unfold pref; rw [List.getElem?_toArray, List.getElem?_append_left (by simpa using hj)]; simp [List.getElem?_replicate, hj]
  have hhi : ∀ j, k ≤ j → j < l.length → (pref l.length k)[j]? = some false := fun j hj hjl => by
    unfold pref; rw [List.getElem?_toArray, List.getElem?_append_right (by simp; omega)]; simp [List.getElem?_replicate]; omega
  have hok : l.toArray[k]? = some o := by rw [List.getElem?_toArray]; exact ho
  have hready : k ∈ Region.ready .any l.toArray (pref l.length k) := mem_ready hok (by rw [Array.getD_eq_getD_getElem?, hhi k (Nat.le_refl _) hkl]; rfl) (fun e hm hb => by
    have := (drawOk_at hB).2 k o ho e hm hb
    rw [Array.getD_eq_getD_getElem?, hlo _ this]; rfl)
  refine ⟨fun h => (by rw [h] at hready; simp at hready), fun i hi => ?_⟩
  obtain ⟨hi1, hi2, hi3⟩ := ready_mem hi
  simp only [List.size_toArray] at hi1
  have hio : l[i]? = some l[i] := List.getElem?_eq_getElem hi1
  have hik : i = k := by
    apply Classical.byContradiction
    intro hne
    by_cases hlt : i < k
    · rw [Array.getD_eq_getD_getElem?, hlo i hlt] at hi2; simp at hi2
    · have hbit := hseg i k (by omega) hi1 (Nat.le_refl _) (by omega)
      obtain ⟨e, he, hb, h1⟩ := bit_of hB hio hbit
      have hl := hi3 l[i] (by rw [List.getElem?_toArray]; exact hio) e he hb
      have heon := (drawOk_at hB).2 i _ hio e he hb
      rcases h1 with h1 | h1
      · rw [h1, Array.getD_eq_getD_getElem?, hhi k (Nat.le_refl _) hkl] at hl; simp at hl
      · have h2 := bit_lt hB e.on _ (List.getElem?_eq_getElem (by omega)) k h1
        rw [Array.getD_eq_getD_getElem?, hhi e.on (by omega) (by omega)] at hl; simp at hl
  subst hik
  refine wpOp_of (o := o) hok R (by simpa [dsts] using h) ?_
  intro a' σ' w' R' hk
  have := hk a' Q' R' hq
  have e : (pref l.length i).setIfInBounds i true = pref l.length (i + 1) := by
    apply Array.ext'
    apply List.ext_getElem?
    intro j
    rw [Array.getElem?_toList, Array.getElem?_toList, Array.getElem?_setIfInBounds]
    by_cases hj : i = j
    · subst hj
      rw [if_pos rfl, if_pos (by simp [pref]; omega)]
      unfold pref; rw [List.getElem?_toArray, List.getElem?_append_left (by simp)]; simp [List.getElem?_replicate]
    · rw [if_neg hj]
      by_cases hj2 : j < i
      · rw [hlo j hj2]; unfold pref; rw [List.getElem?_toArray, List.getElem?_append_left (by simp; omega)]; simp [List.getElem?_replicate]; omega
      · by_cases hj3 : j < l.length
        · rw [hhi j (by omega) hj3]; unfold pref; rw [List.getElem?_toArray, List.getElem?_append_right (by simp; omega)]; simp [List.getElem?_replicate]; omega
        · rw [Array.getElem?_eq_none (by simp [pref]; omega), Array.getElem?_eq_none (by simp [pref]; omega)]
  rw [e]
  have hf2 : l.length - (i + 1) = fuel := by omega
  rw [hf2] at this
  exact this
theorem DrawP.split {k m i d : Nat} {z : World} {As : List HP} {σ0 acc : Env} {K : Env → World → Prop} {done : List (Option Nat × Value)} {r : List Oper} {b : Bool}
    (ht : b = true → DrawP C N l B k m z As σ0 K i (done ++ [(some d, .bool true)]) (upd acc d (.bool true)) r) (hf : b = false → DrawP C N l B k m z As σ0 K i (done ++ [(some d, .bool false)]) (upd acc d (.bool false)) r) :
    DrawP C N l B k m z As σ0 K i (done ++ [(some d, .bool b)]) (upd acc d (.bool b)) r := by
  cases b
  · exact hf rfl
  · exact ht rfl
theorem AnyW.gs {k d : Nat} {b : Bool} {Q : Env → World → Prop} (hb : σ d = .bool b) (ht : b = true → AnyW C N l B k (upd σ d (.bool true)) w Q) (hf : b = false → AnyW C N l B k (upd σ d (.bool false)) w Q) : AnyW C N l B k σ w Q := by
  intro a Q' R hq
  cases b
  · exact hf rfl a Q' (R.refl hb) hq
  · exact ht rfl a Q' (R.refl hb) hq
end
end Go.Proofs.YtgaabaohkpjllaaDoor.X
