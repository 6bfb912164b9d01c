/- The engine of this seat's proofs: a stretch in any order in which some operations make memory; conditions: none. -/
import Derived.Test.YtbmfpkpcljihgaaDoorX25
namespace Go.Proofs.YtbmfpkpcljihgaaDoor.X
open Go
set_option linter.unusedSimpArgs false
set_option linter.unusedVariables false
/-- An operation's slot; its value; or, where it makes memory, what is known of the value that it gives. -/
structure Ent where
  d : Nat
  v : Value
  e : Option (Value → HP)
def Ent.val (x : Ent) (ys : Nat → Value) (i : Nat) : Value := match x.e with | none => x.v | some _ => ys i
def vsF (ys : Nat → Value) : Nat → List Ent → List (Nat × Value)
  | _, [] => []
  | i, x :: r => (x.d, x.val ys i) :: vsF ys (i + 1) r
def psF (ys : Nat → Value) : Nat → List Ent → List HP
  | _, [] => []
  | i, x :: r => match x.e with | none => psF ys (i + 1) r | some P => P (ys i) :: psF ys (i + 1) r
def effOk (B : List Nat) (k m i : Nat) : Bool := (List.range m).all fun j => Nat.blt j k || !(Nat.testBit (B.getD j 0) i)
section
variable {C : Cfg} {N : Nat} {σ : Env} {w : World} {l : List Oper} {B : List Nat}
def DrawX (C : Cfg) (N : Nat) (l : List Oper) (B : List Nat) (k m : Nat) (z : World) (As : List HP) (σ0 : Env) (K : Env → World → Prop) : Nat → List (Option Nat × Value) → ((Nat → Value) → Env) → ((Nat → Value) → List HP) → List Oper → Prop
  | _, _, acc, ps, [] => ∀ ys w, Sat z w (ps ys ++ As) → K (acc ys) w
  | i, done, acc, ps, o :: r => (∃ d v, o.dst = some d ∧ (∀ X τ w, Sat z w (X :: As) → OpsW C N (dsts l) [o] (envR (dsts l) B k m i done τ σ0) w fun σ' w' => σ' = upd (envR (dsts l) B k m i done τ σ0) d v ∧ Sat z w' (X :: As)) ∧
      DrawX C N l B k m z As σ0 K (i + 1) ((some d, v) :: done) (fun ys => upd (acc ys) d v) ps r) ∨
    (∃ d, ∃ P : Value → HP, o.dst = some d ∧ effOk B k m i = true ∧ (∀ X τ w, Sat z w (X :: As) → OpsW C N (dsts l) [o] (envR (dsts l) B k m i done τ σ0) w fun σ' w' => ∃ y, σ' = upd (envR (dsts l) B k m i done τ σ0) d y ∧ Sat z w' (P y :: X :: As)) ∧
      DrawX C N l B k m z As σ0 K (i + 1) ((some d, undef) :: done) (fun ys => upd (acc ys) d (ys i)) (fun ys => ps ys ++ [P (ys i)]) r)
section
variable {k m i d : Nat} {z : World} {As : List HP} {σ0 : Env} {acc : (Nat → Value) → Env} {ps : (Nat → Value) → List HP} {K : Env → World → Prop} {done : List (Option Nat × Value)} {o : Oper} {r : List Oper} {v : Value} {P : Value → HP}
theorem DrawX.nil (h : ∀ ys w, Sat z w (ps ys ++ As) → K (acc ys) w) : DrawX C N l B k m z As σ0 K i done acc ps [] := h
theorem DrawX.cons (hd : o.dst = some d)
    (h : ∀ X τ w, Sat z w (X :: As) → OpsW C N (dsts l) [o] (envR (dsts l) B k m i done τ σ0) w fun σ' w' => σ' = upd (envR (dsts l) B k m i done τ σ0) d v ∧ Sat z w' (X :: As))
    (k' : DrawX C N l B k m z As σ0 K (i + 1) ((some d, v) :: done) (fun ys => upd (acc ys) d v) ps r) : DrawX C N l B k m z As σ0 K i done acc ps (o :: r) := .inl ⟨d, v, hd, h, k'⟩
theorem DrawX.eff (P : Value → HP) (hd : o.dst = some d) (he : effOk B k m i = true)
    (h : ∀ X τ w, Sat z w (X :: As) → OpsW C N (dsts l) [o] (envR (dsts l) B k m i done τ σ0) w fun σ' w' => ∃ y, σ' = upd (envR (dsts l) B k m i done τ σ0) d y ∧ Sat z w' (P y :: X :: As))
    (k' : DrawX C N l B k m z As σ0 K (i + 1) ((some d, undef) :: done) (fun ys => upd (acc ys) d (ys i)) (fun ys => ps ys ++ [P (ys i)]) r) : DrawX C N l B k m z As σ0 K i done acc ps (o :: r) := .inr ⟨d, P, hd, he, h, k'⟩
theorem DrawX.go (h : DrawX C N l B k m z As σ0 K i done acc ps (o :: r)) : DrawX C N l B k m z As σ0 K i done acc ps (o :: r) := h
end
theorem DrawX.all {k m : Nat} {z : World} {As : List HP} {σ0 : Env} {K : Env → World → Prop} : ∀ (rest : List Oper) (i : Nat) (done : List (Option Nat × Value)) (acc : (Nat → Value) → Env) (ps : (Nat → Value) → List HP), i = k + done.length → DrawX C N l B k m z As σ0 K i done acc ps rest →
    ∃ vs : List Ent, vs.length = rest.length ∧ (∀ t o, rest[t]? = some o → ∃ x, vs[t]? = some x ∧ o.dst = some x.d ∧ (x.e.isSome = true → effOk B k m (i + t) = true) ∧
      ∀ X τ w, Sat z w (X :: As) → OpsW C N (dsts l) [o] (envAt (dsts l) B k m (i + t) (done.reverse ++ (vs.take t).map fun y => (some y.d, y.v)) τ σ0) w fun σ' w' => match x.e with
        | none => σ' = upd (envAt (dsts l) B k m (i + t) (done.reverse ++ (vs.take t).map fun y => (some y.d, y.v)) τ σ0) x.d x.v ∧ Sat z w' (X :: As)
        | some P => ∃ y, σ' = upd (envAt (dsts l) B k m (i + t) (done.reverse ++ (vs.take t).map fun y => (some y.d, y.v)) τ σ0) x.d y ∧ Sat z w' (P y :: X :: As)) ∧
      ∀ ys w, Sat z w ((ps ys ++ psF ys i vs) ++ As) → K ((vsF ys i vs).foldl (fun σ p => upd σ p.1 p.2) (acc ys)) w := by
  intro rest
  induction rest with
  | nil => intro i done acc ps _ h; exact ⟨[], rfl, by simp, fun ys w H => h ys w (by simpa [psF] using H)⟩
  | cons o r ih =>
    intro i done acc ps hi h
    rcases h with ⟨d, v, hd, h1, h2⟩ | ⟨d, P, hd, he, h1, h2⟩
    · obtain ⟨vs, e1, e2, e3⟩ := ih _ _ _ _ (by rw [List.length_cons]; omega) h2
      refine ⟨⟨d, v, none⟩ :: vs, by simp [e1], ?_, fun ys w H => e3 ys w H⟩
      intro t o' ht
      cases t with
      | zero =>
        simp only [List.getElem?_cons_zero, Option.some.injEq] at ht
        subst ht
        refine ⟨⟨d, v, none⟩, rfl, hd, fun h => (by cases h), ?_⟩
        have h1' := h1
        simp only [envR_eq hi] at h1'
        simpa using h1'
      | succ t =>
        obtain ⟨x, a1, a2, a3, a4⟩ := e2 t o' (by simpa using ht)
        refine ⟨x, by simpa using a1, a2, by rw [show i + (t + 1) = i + 1 + t by omega]; exact a3, ?_⟩
        have : done.reverse ++ (((⟨d, v, none⟩ : Ent) :: vs).take (t + 1)).map (fun y : Ent => (some y.d, y.v)) = ((some d, v) :: done).reverse ++ (vs.take t).map (fun y : Ent => (some y.d, y.v)) := by simp
        rw [this, show i + (t + 1) = i + 1 + t by omega]
        exact a4
    · obtain ⟨vs, e1, e2, e3⟩ := ih _ _ _ _ (by rw [List.length_cons]; omega) h2
      refine ⟨⟨d, undef, some P⟩ :: vs, by simp [e1], ?_, fun ys w H => e3 ys w (by
        have e : (ps ys ++ [P (ys i)]) ++ psF ys (i + 1) vs = ps ys ++ psF ys i (⟨d, undef, some P⟩ :: vs) := by
          rw [List.append_assoc]; rfl
        rw [e]; exact H)⟩
      intro t o' ht
      cases t with
      | zero =>
        simp only [List.getElem?_cons_zero, Option.some.injEq] at ht
        subst ht
        refine ⟨⟨d, undef, some P⟩, rfl, hd, fun _ => he, ?_⟩
        have h1' := h1
        simp only [envR_eq hi] at h1'
        simpa using h1'
      | succ t =>
        obtain ⟨x, a1, a2, a3, a4⟩ := e2 t o' (by simpa using ht)
        refine ⟨x, by simpa using a1, a2, by rw [show i + (t + 1) = i + 1 + t by omega]; exact a3, ?_⟩
        have : done.reverse ++ (((⟨d, undef, some P⟩ : Ent) :: vs).take (t + 1)).map (fun y : Ent => (some y.d, y.v)) = ((some d, undef) :: done).reverse ++ (vs.take t).map (fun y : Ent => (some y.d, y.v)) := by simp
        rw [this, show i + (t + 1) = i + 1 + t by omega]
        exact a4
end
/-! ### What is often made -/
def pblk (E : TypeId) (l : List Value) : Value → HP := fun y h => ∃ b : Nat, y = .pointer (some ⟨b, 0, none⟩) ∧ blk b E l h
section
variable {z w : World} {As : List HP} {E : TypeId} {l0 : List Value} {y : Value}
theorem pblk_mk {b : Nat} (H : Sat z w (blk b E l0 :: As)) : Sat z w (pblk E l0 (.pointer (some ⟨b, 0, none⟩)) :: As) := H.imp fun h e => ⟨b, rfl, e⟩
end
section
variable {C : Cfg} {N : Nat} {l : List Oper} {B : List Nat} {k m i d : Nat} {z : World} {As : List HP} {σ0 : Env} {acc : (Nat → Value) → Env} {ps : (Nat → Value) → List HP} {K : Env → World → Prop} {done : List (Option Nat × Value)} {o : Oper} {r : List Oper} {E E' : TypeId} {l0 l1 : List Value} {ty : TypeId} {pos : String} {af : Array Edge} {g : Option (Nat × Bool)} {x : Operand}
theorem DrawX.alloc (he : effOk B k m i = true) (hk : Nat.blt 0 (C.T.kind.getD E 0) = true) (hc : forceL (C.T.zeroV E).cells.toList some = some l0) (hd : Nat.blt d N = true)
    (k' : DrawX C N l B k m z As σ0 K (i + 1) ((some d, undef) :: done) (fun ys => upd (acc ys) d (ys i)) (fun ys => ps ys ++ [pblk E l0 (ys i)]) r) : DrawX C N l B k m z As σ0 K i done acc ps (⟨some d, .alloc E, ty, pos, af, none⟩ :: r) :=
  DrawX.eff (pblk E l0) rfl he (fun X τ w H => OpsW.alloc H rfl hk hc hd fun b w H => OpsW.nil ⟨_, rfl, pblk_mk H⟩) k'
theorem DrawX.box (he : effOk B k m i = true) (hx : ∀ τ, forceL (ev (envR (dsts l) B k m i done τ σ0) x).cells.toList some = some l0) (hd : Nat.blt d N = true)
    (k' : DrawX C N l B k m z As σ0 K (i + 1) ((some d, undef) :: done) (fun ys => upd (acc ys) d (ys i)) (fun ys => ps ys ++ [pblk E l0 (ys i)]) r) : DrawX C N l B k m z As σ0 K i done acc ps (⟨some d, .box E x, ty, pos, af, none⟩ :: r) :=
  DrawX.eff (pblk E l0) rfl he (fun X τ w H => OpsW.box H rfl (hx τ) hd fun b w H => OpsW.nil ⟨_, rfl, pblk_mk H⟩) k'
end
def sblk (n E : Nat) (l : List Value) : Value → HP := fun y h => ∃ b : Nat, y = .slice (some ⟨b, 0, none⟩) n n ∧ blk b E l h
section
variable {z w : World} {As : List HP} {n E : Nat} {l0 : List Value} {y : Value}
theorem sblk_mk {b : Nat} (H : Sat z w (blk b E l0 :: As)) : Sat z w (sblk n E l0 (.slice (some ⟨b, 0, none⟩) n n) :: As) := H.imp fun h e => ⟨b, rfl, e⟩
end
section
variable {C : Cfg} {N : Nat} {l : List Oper} {B : List Nat} {k m i d : Nat} {z : World} {As : List HP} {σ0 : Env} {acc : (Nat → Value) → Env} {ps : (Nat → Value) → List HP} {K : Env → World → Prop} {done : List (Option Nat × Value)} {r : List Oper} {E : TypeId} {l0 : List Value} {ty : TypeId} {pos : String} {af : Array Edge} {t : TypeId} {n sz : Nat} {parts : Array (Nat × Operand)}
theorem DrawX.bsl (he : effOk B k m i = true) (hk : Nat.beq (C.T.kind.getD t 0) 4 = true) (he2 : Nat.blt 0 (C.T.kind.getD (C.T.elem.getD t 0) 0) = true)
    (hsz : C.T.size[C.T.elem.getD t 0]? = some sz) (hsz1 : (C.T.zero.getD (C.T.elem.getD t 0) []).length = sz) (hm : Nat.ble (n * sz) 1000 = true)
    (hf : ∀ τ, fillK (fun i => some (i * sz, sz)) (repl n (C.T.zero.getD (C.T.elem.getD t 0) [])) (mapP (envR (dsts l) B k m i done τ σ0) parts.toList) = some (.agg l0.toArray)) (hd : Nat.blt d N = true)
    (k' : DrawX C N l B k m z As σ0 K (i + 1) ((some d, undef) :: done) (fun ys => upd (acc ys) d (ys i)) (fun ys => ps ys ++ [sblk n (C.T.elem.getD t 0) l0 (ys i)]) r) : DrawX C N l B k m z As σ0 K i done acc ps (⟨some d, .buildSlice t n parts, ty, pos, af, none⟩ :: r) :=
  DrawX.eff (sblk n (C.T.elem.getD t 0) l0) rfl he (fun X τ w H => OpsW.bsl H rfl hk he2 hsz hsz1 hm (hf τ) hd fun b w H => OpsW.nil ⟨_, rfl, sblk_mk H⟩) k'
end
/-! ### A struct that is built of what slots have, its cells told by a lemma -/
section
variable {C : Cfg} {N : Nat} {gd : List (Option Nat)} {r : List Oper} {σ : Env} {w : World} {Q : Env → World → Prop} {d t : Nat} {parts : Array (Nat × Operand)} {ty : TypeId} {pos : String} {af : Array Edge} {g : Option (Nat × Bool)}
end
/-! ### A part of an array as a slice -/
section
variable {C : Cfg} {N : Nat} {gd : List (Option Nat)} {r : List Oper} {σ : Env} {w : World} {Q : Env → World → Prop} {x y : Operand} {d t b off : Nat} {ty : TypeId} {pos : String} {af : Array Edge} {g : Option (Nat × Bool)}
end
end Go.Proofs.YtbmfpkpcljihgaaDoor.X
