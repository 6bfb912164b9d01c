/- The engine of this seat's proofs: a stretch in any order in which some operations make memory; conditions: none. -/
import Derived.Test.YtdbnkimegdogjaaX25
namespace Go.Proofs.Ytdbnkimegdogjaa.X
open Go
set_option linter.unusedSimpArgs false
set_option linter.unusedVariables false
/-- An operation's slot; its value; or, where it makes memory, what is known of the value that it gives. -/
structure Ent where
  d : Nat
  v : Value
  e : Option (Value → HP)
def Ent.val (x : Ent) (ys : Nat → Value) (i : Nat) : Value := match x.e with | none => x.v | some _ => ys i
def vsF (ys : Nat → Value) : Nat → List Ent → List (Nat × Value)
  | _, [] => []
  | i, x :: r => (x.d, x.val ys i) :: vsF ys (i + 1) r
def exS (L : Nat → Bool) (ys : Nat → Value) : Nat → List Ent → List HP
  | _, [] => []
  | i, x :: r => match x.e with | none => exS L ys (i + 1) r | some P => (bif L i then P (ys i) else emp) :: exS L ys (i + 1) r
def psF (ys : Nat → Value) : Nat → List Ent → List HP
  | _, [] => []
  | i, x :: r => match x.e with | none => psF ys (i + 1) r | some P => P (ys i) :: psF ys (i + 1) r
theorem vsF_get (ys : Nat → Value) : ∀ (vs : List Ent) (i t : Nat), (vsF ys i vs)[t]? = (vs[t]?).map fun x => (x.d, x.val ys (i + t))
  | [], i, t => by simp [vsF]
  | x :: r, i, 0 => by simp [vsF]
  | x :: r, i, t + 1 => by
    have := vsF_get ys r (i + 1) t
    simp only [vsF, List.getElem?_cons_succ, this, show i + 1 + t = i + (t + 1) by omega]
theorem exS_congr {L L' : Nat → Bool} {ys ys' : Nat → Value} : ∀ (vs : List Ent) (i : Nat), (∀ t x P, vs[t]? = some x → x.e = some P → L (i + t) = L' (i + t) ∧ ys (i + t) = ys' (i + t)) → exS L ys i vs = exS L' ys' i vs
  | [], i, _ => rfl
  | x :: r, i, h => by
    have ih := exS_congr (L := L) (L' := L') (ys := ys) (ys' := ys') r (i + 1) (fun t y P h1 h2 => by have := h (t + 1) y P (by simpa using h1) h2; rw [show i + 1 + t = i + (t + 1) by omega]; exact this)
    unfold exS
    cases he : x.e with
    | none => exact ih
    | some P =>
      have := h 0 x P rfl he
      rw [Nat.add_zero] at this
      show (bif L i then P (ys i) else emp) :: exS L ys (i + 1) r = (bif L' i then P (ys' i) else emp) :: exS L' ys' (i + 1) r
      rw [this.1, this.2, ih]
theorem exS_put {L L' : Nat → Bool} {ys ys' : Nat → Value} {y : Value} : ∀ (vs : List Ent) (i t : Nat) (x : Ent) (P : Value → HP), vs[t]? = some x → x.e = some P → L (i + t) = false → L' (i + t) = true → ys' (i + t) = y →
    (∀ j, j ≠ i + t → L j = L' j ∧ ys j = ys' j) → stars (exS L' ys' i vs) = star (P y) (stars (exS L ys i vs))
  | [], i, t, x, P, h, _, _, _, _, _ => by simp at h
  | x0 :: r, i, 0, x, P, h, he, hL, hL', hy, ho => by
    simp only [List.getElem?_cons_zero, Option.some.injEq] at h
    subst h
    rw [Nat.add_zero] at hL hL' hy ho
    have hc := exS_congr (L := L) (L' := L') (ys := ys) (ys' := ys') r (i + 1) (fun t y P h1 h2 => ho _ (by omega))
    unfold exS
    rw [he]
    show star (bif L' i then P (ys' i) else emp) (stars (exS L' ys' (i + 1) r)) = star (P y) (star (bif L i then P (ys i) else emp) (stars (exS L ys (i + 1) r)))
    rw [hL, hL', hy, hc]
    show star (P y) _ = star (P y) (star emp _)
    rw [emp_star]
  | x0 :: r, i, t + 1, x, P, h, he, hL, hL', hy, ho => by
    have e : i + (t + 1) = i + 1 + t := by omega
    rw [e] at hL hL' hy ho
    have ih := exS_put (L := L) (L' := L') (ys := ys) (ys' := ys') (y := y) r (i + 1) t x P (by simpa using h) he hL hL' hy ho
    unfold exS
    cases he0 : x0.e with
    | none => exact ih
    | some P0 =>
      have h0 := ho i (by omega)
      show star (bif L' i then P0 (ys' i) else emp) (stars (exS L' ys' (i + 1) r)) = star (P y) (star (bif L i then P0 (ys i) else emp) (stars (exS L ys (i + 1) r)))
      rw [ih, ← h0.1, ← h0.2, star_left_comm]
theorem exS_all {L : Nat → Bool} {ys : Nat → Value} : ∀ (vs : List Ent) (i : Nat), (∀ t x, vs[t]? = some x → L (i + t) = true) → exS L ys i vs = psF ys i vs
  | [], i, _ => rfl
  | x :: r, i, h => by
    have ih := exS_all (L := L) (ys := ys) r (i + 1) (fun t y h1 => by have := h (t + 1) y (by simpa using h1); rw [show i + 1 + t = i + (t + 1) by omega]; exact this)
    have h0 := h 0 x rfl
    rw [Nat.add_zero] at h0
    unfold exS psF
    cases he : x.e with
    | none => exact ih
    | some P =>
      show (bif L i then P (ys i) else emp) :: exS L ys (i + 1) r = P (ys i) :: psF ys (i + 1) r
      rw [h0, ih]; rfl
theorem exS_none {L : Nat → Bool} {ys : Nat → Value} : ∀ (vs : List Ent) (i : Nat), (∀ t, t < vs.length → L (i + t) = false) → stars (exS L ys i vs) = emp
  | [], i, _ => rfl
  | x :: r, i, h => by
    have ih := exS_none (L := L) (ys := ys) r (i + 1) (fun t h1 => by have := h (t + 1) (by simp; omega); rw [show i + 1 + t = i + (t + 1) by omega]; exact this)
    have h0 := h 0 (by simp)
    rw [Nat.add_zero] at h0
    unfold exS
    cases he : x.e with
    | none => exact ih
    | some P =>
      show star (bif L i then P (ys i) else emp) (stars (exS L ys (i + 1) r)) = emp
      rw [h0, ih]
      show star emp emp = emp
      rw [emp_star]
def effOk (B : List Nat) (k m i : Nat) : Bool := (List.range m).all fun j => Nat.blt j k || !(Nat.testBit (B.getD j 0) i)
theorem effOk_at {B : List Nat} {k m i : Nat} (h : effOk B k m i = true) (j : Nat) (hk : k ≤ j) (hm : j < m) : Nat.testBit (B.getD j 0) i = false := by
  have := List.all_eq_true.1 h j (List.mem_range.2 hm)
  rw [Bool.or_eq_true] at this
  rcases this with this | this
  · have := Nat.le_of_ble_eq_true this; omega
  · simpa using this
section
variable {C : Cfg} {N : Nat} {σ : Env} {w : World} {l : List Oper} {B : List Nat}
def DrawX (C : Cfg) (N : Nat) (l : List Oper) (B : List Nat) (k m : Nat) (z : World) (As : List HP) (σ0 : Env) (K : Env → World → Prop) : Nat → List (Option Nat × Value) → ((Nat → Value) → Env) → ((Nat → Value) → List HP) → List Oper → Prop
  | _, _, acc, ps, [] => ∀ ys w, Sat z w (ps ys ++ As) → K (acc ys) w
  | i, done, acc, ps, o :: r => (∃ d v, o.dst = some d ∧ (∀ X τ w, Sat z w (X :: As) → OpsW C N (dsts l) [o] (envR (dsts l) B k m i done τ σ0) w fun σ' w' => σ' = upd (envR (dsts l) B k m i done τ σ0) d v ∧ Sat z w' (X :: As)) ∧
      DrawX C N l B k m z As σ0 K (i + 1) ((some d, v) :: done) (fun ys => upd (acc ys) d v) ps r) ∨
    (∃ d, ∃ P : Value → HP, o.dst = some d ∧ effOk B k m i = true ∧ (∀ X τ w, Sat z w (X :: As) → OpsW C N (dsts l) [o] (envR (dsts l) B k m i done τ σ0) w fun σ' w' => ∃ y, σ' = upd (envR (dsts l) B k m i done τ σ0) d y ∧ Sat z w' (P y :: X :: As)) ∧
      DrawX C N l B k m z As σ0 K (i + 1) ((some d, undef) :: done) (fun ys => upd (acc ys) d (ys i)) (fun ys => ps ys ++ [P (ys i)]) r)
section
variable {k m i d : Nat} {z : World} {As : List HP} {σ0 : Env} {acc : (Nat → Value) → Env} {ps : (Nat → Value) → List HP} {K : Env → World → Prop} {done : List (Option Nat × Value)} {o : Oper} {r : List Oper} {v : Value} {P : Value → HP}
theorem DrawX.nil (h : ∀ ys w, Sat z w (ps ys ++ As) → K (acc ys) w) : DrawX C N l B k m z As σ0 K i done acc ps [] := h
theorem DrawX.cons (hd : o.dst = some d)
    (h : ∀ X τ w, Sat z w (X :: As) → OpsW C N (dsts l) [o] (envR (dsts l) B k m i done τ σ0) w fun σ' w' => σ' = upd (envR (dsts l) B k m i done τ σ0) d v ∧ Sat z w' (X :: As))
    (k' : DrawX C N l B k m z As σ0 K (i + 1) ((some d, v) :: done) (fun ys => upd (acc ys) d v) ps r) : DrawX C N l B k m z As σ0 K i done acc ps (o :: r) := .inl ⟨d, v, hd, h, k'⟩
theorem DrawX.eff (P : Value → HP) (hd : o.dst = some d) (he : effOk B k m i = true)
    (h : ∀ X τ w, Sat z w (X :: As) → OpsW C N (dsts l) [o] (envR (dsts l) B k m i done τ σ0) w fun σ' w' => ∃ y, σ' = upd (envR (dsts l) B k m i done τ σ0) d y ∧ Sat z w' (P y :: X :: As))
    (k' : DrawX C N l B k m z As σ0 K (i + 1) ((some d, undef) :: done) (fun ys => upd (acc ys) d (ys i)) (fun ys => ps ys ++ [P (ys i)]) r) : DrawX C N l B k m z As σ0 K i done acc ps (o :: r) := .inr ⟨d, P, hd, he, h, k'⟩
theorem DrawX.go (h : DrawX C N l B k m z As σ0 K i done acc ps (o :: r)) : DrawX C N l B k m z As σ0 K i done acc ps (o :: r) := h
end
theorem DrawX.all {k m : Nat} {z : World} {As : List HP} {σ0 : Env} {K : Env → World → Prop} : ∀ (rest : List Oper) (i : Nat) (done : List (Option Nat × Value)) (acc : (Nat → Value) → Env) (ps : (Nat → Value) → List HP), i = k + done.length → DrawX C N l B k m z As σ0 K i done acc ps rest →
    ∃ vs : List Ent, vs.length = rest.length ∧ (∀ t o, rest[t]? = some o → ∃ x, vs[t]? = some x ∧ o.dst = some x.d ∧ (x.e.isSome = true → effOk B k m (i + t) = true) ∧
      ∀ X τ w, Sat z w (X :: As) → OpsW C N (dsts l) [o] (envAt (dsts l) B k m (i + t) (done.reverse ++ (vs.take t).map fun y => (some y.d, y.v)) τ σ0) w fun σ' w' => match x.e with
        | none => σ' = upd (envAt (dsts l) B k m (i + t) (done.reverse ++ (vs.take t).map fun y => (some y.d, y.v)) τ σ0) x.d x.v ∧ Sat z w' (X :: As)
        | some P => ∃ y, σ' = upd (envAt (dsts l) B k m (i + t) (done.reverse ++ (vs.take t).map fun y => (some y.d, y.v)) τ σ0) x.d y ∧ Sat z w' (P y :: X :: As)) ∧
      ∀ ys w, Sat z w ((ps ys ++ psF ys i vs) ++ As) → K ((vsF ys i vs).foldl (fun σ p => upd σ p.1 p.2) (acc ys)) w := by
  intro rest
  induction rest with
  | nil => intro i done acc ps _ h; exact ⟨[], rfl, by simp, fun ys w H => h ys w (by simpa [psF] using H)⟩
  | cons o r ih =>
    intro i done acc ps hi h
    rcases h with ⟨d, v, hd, h1, h2⟩ | ⟨d, P, hd, he, h1, h2⟩
    · obtain ⟨vs, e1, e2, e3⟩ := ih _ _ _ _ (by rw [List.length_cons]; omega) h2
      refine ⟨⟨d, v, none⟩ :: vs, by simp [e1], ?_, fun ys w H => e3 ys w H⟩
      intro t o' ht
      cases t with
      | zero =>
        simp only [List.getElem?_cons_zero, Option.some.injEq] at ht
        subst ht
        refine ⟨⟨d, v, none⟩, rfl, hd, fun h => (by cases h), ?_⟩
        have h1' := h1
        simp only [envR_eq hi] at h1'
        simpa using h1'
      | succ t =>
        obtain ⟨x, a1, a2, a3, a4⟩ := e2 t o' (by simpa using ht)
        refine ⟨x, by simpa using a1, a2, by rw [show i + (t + 1) = i + 1 + t by omega]; exact a3, ?_⟩
        have : done.reverse ++ (((⟨d, v, none⟩ : Ent) :: vs).take (t + 1)).map (fun y : Ent => (some y.d, y.v)) = ((some d, v) :: done).reverse ++ (vs.take t).map (fun y : Ent => (some y.d, y.v)) := by simp
        rw [this, show i + (t + 1) = i + 1 + t by omega]
        exact a4
    · obtain ⟨vs, e1, e2, e3⟩ := ih _ _ _ _ (by rw [List.length_cons]; omega) h2
      refine ⟨⟨d, undef, some P⟩ :: vs, by simp [e1], ?_, fun ys w H => e3 ys w (by
        have e : (ps ys ++ [P (ys i)]) ++ psF ys (i + 1) vs = ps ys ++ psF ys i (⟨d, undef, some P⟩ :: vs) := by
          rw [List.append_assoc]; rfl
        rw [e]; exact H)⟩
      intro t o' ht
      cases t with
      | zero =>
        simp only [List.getElem?_cons_zero, Option.some.injEq] at ht
        subst ht
        refine ⟨⟨d, undef, some P⟩, rfl, hd, fun _ => he, ?_⟩
        have h1' := h1
        simp only [envR_eq hi] at h1'
        simpa using h1'
      | succ t =>
        obtain ⟨x, a1, a2, a3, a4⟩ := e2 t o' (by simpa using ht)
        refine ⟨x, by simpa using a1, a2, by rw [show i + (t + 1) = i + 1 + t by omega]; exact a3, ?_⟩
        have : done.reverse ++ (((⟨d, undef, some P⟩ : Ent) :: vs).take (t + 1)).map (fun y : Ent => (some y.d, y.v)) = ((some d, undef) :: done).reverse ++ (vs.take t).map (fun y : Ent => (some y.d, y.v)) := by simp
        rw [this, show i + (t + 1) = i + 1 + t by omega]
        exact a4
/-- Some operations in any order, each with its value, or with memory that it makes; then the others. -/
theorem AnyW.segX {k m : Nat} {z : World} {As : List HP} {rest : List Oper} {Q : Env → World → Prop} (hB : drawOk l B = true) (hs : segOk l B k m = true) (H : Sat z w As) (hr : (l.drop k).take (m - k) = rest)
    (h : DrawX C N l B k m z As σ (fun σ w => AnyW C N l B m σ w Q) k [] (fun _ => σ) (fun _ => []) rest) : AnyW C N l B k σ w Q := by
  intro a Q' R hq
  obtain ⟨hkm, hml, hseg, huniq⟩ := segOk_at hs
  obtain ⟨vs, hvl, hv, hend⟩ := DrawX.all rest k [] (fun _ => σ) (fun _ => []) rfl h
  have hrl : rest.length = m - k := by rw [← hr, List.length_take, List.length_drop]; omega
  have hrest : ∀ t, t < m - k → rest[t]? = l[k + t]? := fun t ht => by rw [← hr, List.getElem?_take, if_pos ht, List.getElem?_drop]
  have hdst : ∀ t x, vs[t]? = some x → (l[k + t]?).bind (·.dst) = some x.d := by
    intro t x ht
    have htl : t < m - k := by have := (List.getElem?_eq_some_iff.1 ht).1; omega
    obtain ⟨x', e1, e2, _⟩ := hv t (rest[t]'(by omega)) (List.getElem?_eq_getElem _)
    rw [ht] at e1; simp at e1
    rw [← hrest t htl, List.getElem?_eq_getElem (by omega)]
    simp [e2, e1]
  have hvu : ∀ (t u : Nat) (x x' : Ent), vs[t]? = some x → vs[u]? = some x' → x.d = x'.d → t = u := by
    intro t u x x' h1 h2 hd
    have htl : t < m - k := by have := (List.getElem?_eq_some_iff.1 h1).1; omega
    have hul : u < m - k := by have := (List.getElem?_eq_some_iff.1 h2).1; omega
    have := huniq (k + t) (k + u) x.d (by omega) (by omega) (by omega) (by omega) (hdst _ _ h1) (hd ▸ hdst _ _ h2)
    omega
  -- what holds while some of them are carried out
  have key : ∀ fuel (listed : Array Bool) (a : Act) (σ₁ : Env) (w : World) (ys : Nat → Value), listed.size = l.length → (∀ j, j < k → listed[j]? = some true) → (∀ j, m ≤ j → j < l.length → listed[j]? = some false) →
      (∀ i j, listed[i]? = some true → Nat.testBit (B.getD i 0) j = true → listed[j]? = some true) →
      (∀ t x, vs[t]? = some x → listed[k + t]? = some true → σ₁ x.d = x.val ys (k + t)) → (∀ s, (∀ t x, vs[t]? = some x → x.d = s → listed[k + t]? = some false) → σ₁ s = σ s) →
      Rel N a σ₁ → Sat z w (stars (exS (fun j => listed.getD j false) ys k vs) :: As) → listed.toList.count false = fuel → wpAny C.P .any l.toArray Q' fuel listed a w := by
    intro fuel
    induction fuel
    case' succ fuel ih => intro listed a σ₁ w ys hsz hlo hhi hcl f1 f2 R H hc
    case' zero => intro listed a σ₁ w ys hsz hlo hhi hcl f1 f2 R H hc
    all_goals
      by_cases hall : ∀ j, k ≤ j → j < m → listed[j]? = some true
      · -- all of them are
        have hpre : listed = pref l.length m := by
          apply Array.ext'
          apply List.ext_getElem?
          intro j
          rw [Array.getElem?_toList]
          unfold pref
          by_cases h1 : j < m
          · rw [List.getElem?_append_left (by simpa using h1)]
            simp [List.getElem?_replicate, h1]
            by_cases h2 : j < k
            · exact hlo j h2
            · exact hall j (by omega) h1
          · rw [List.getElem?_append_right (by simpa using h1)]
            simp [List.getElem?_replicate]
            by_cases h2 : j < l.length
            · rw [if_pos (by omega)]; exact hhi j (by omega) h2
            · rw [if_neg (by omega)]; exact Array.getElem?_eq_none (by omega)
        have hfu : listed.toList.count false = l.length - m := by
          rw [hpre]; unfold pref; simp [List.count_replicate]
        have hvF : ∀ (t u d : Nat) (v v' : Value), (vsF ys k vs)[t]? = some (d, v) → (vsF ys k vs)[u]? = some (d, v') → t = u := by
          intro t u d v v' h1 h2
          rw [vsF_get] at h1 h2
          obtain ⟨x, hx, e⟩ := Option.map_eq_some_iff.1 h1
          obtain ⟨x', hx', e'⟩ := Option.map_eq_some_iff.1 h2
          simp only [Prod.mk.injEq] at e e'
          exact hvu t u x x' hx hx' (e.1.trans e'.1.symm)
        have hσ : σ₁ = (vsF ys k vs).foldl (fun σ p => upd σ p.1 p.2) σ := by
          funext s
          by_cases hx : ∃ (t : Nat) (x : Ent), vs[t]? = some x ∧ x.d = s
          · obtain ⟨t, x, ht, hxs⟩ := hx
            subst hxs
            have htl : t < m - k := by have := (List.getElem?_eq_some_iff.1 ht).1; omega
            rw [(fold_upd (vsF ys k vs) σ x.d hvF).1 t (x.val ys (k + t)) (by rw [vsF_get, ht]; rfl)]
            exact f1 t x ht (hall _ (by omega) (by omega))
          · rw [(fold_upd (vsF ys k vs) σ s hvF).2 fun t v ht => by
              rw [vsF_get] at ht
              obtain ⟨x, hx', e⟩ := Option.map_eq_some_iff.1 ht
              simp only [Prod.mk.injEq] at e
              exact hx ⟨t, x, hx', e.1⟩]
            exact f2 s fun t x ht hd => absurd ⟨t, x, ht, hd⟩ hx
        have HE : Sat z w (psF ys k vs ++ As) := by
          rw [exS_all vs k (fun t x ht => by
            have htl : t < m - k := by have := (List.getElem?_eq_some_iff.1 ht).1; omega
            show listed.getD (k + t) false = true
            rw [Array.getD_eq_getD_getElem?, hall (k + t) (by omega) (by omega)]; rfl)] at H
          exact H.splits
        have := hend ys w HE a Q' (hσ ▸ R) hq
        rw [hpre, ← hc, hfu]; exact this
    · -- none is left, and yet not all
      exfalso
      apply hall
      intro j hj hjm
      cases hlj : listed[j]? with
      | none => have := Array.getElem?_eq_none_iff.1 hlj; omega
      | some b =>
        cases b
        · have : false ∈ listed.toList := by
            rw [Array.mem_toList_iff]; exact Array.mem_of_getElem? hlj
          have := List.count_pos_iff.2 this; omega
        · rfl
    · -- the least of those that are not
      have hready : Region.ready .any l.toArray listed ≠ [] := by
        have hex : ∃ j, k ≤ j ∧ j < m ∧ listed[j]? = some false ∧ ∀ i, i < j → listed[i]? = some true := by
          have h1 : ∃ j, k ≤ j ∧ j < m ∧ listed[j]? ≠ some true := by
            apply Classical.byContradiction
            intro hn
            apply hall
            intro j hj hjm
            apply Classical.byContradiction
            intro h; exact hn ⟨j, hj, hjm, h⟩
          obtain ⟨j, hj⟩ := h1
          have : ∀ n j, j ≤ n → (k ≤ j ∧ j < m ∧ listed[j]? ≠ some true) → ∃ j, k ≤ j ∧ j < m ∧ listed[j]? ≠ some true ∧ ∀ i, i < j → listed[i]? = some true := by
            intro n
            induction n with
            | zero =>
              intro j hjn hj
              have hj0 : j = 0 := by omega
              subst hj0
              exact ⟨0, hj.1, hj.2.1, hj.2.2, fun i hi => by omega⟩
            | succ n ihn =>
              intro j hjn hj
              by_cases hb : ∃ i, i < j ∧ k ≤ i ∧ listed[i]? ≠ some true
              · obtain ⟨i, h1, h2, h3⟩ := hb
                exact ihn i (by omega) ⟨h2, by omega, h3⟩
              · refine ⟨j, hj.1, hj.2.1, hj.2.2, fun i hi => ?_⟩
                by_cases hik : i < k
                · exact hlo i hik
                · apply Classical.byContradiction
                  intro h; exact hb ⟨i, hi, by omega, h⟩
          obtain ⟨j, h1, h2, h3, h4⟩ := this j j (Nat.le_refl _) hj
          refine ⟨j, h1, h2, ?_, h4⟩
          cases hlj : listed[j]? with
          | none => have := Array.getElem?_eq_none_iff.1 hlj; omega
          | some b => cases b
                      · rfl
                      · exact absurd hlj h3
        obtain ⟨j, h1, h2, h3, h4⟩ := hex
        have hol : l.toArray[j]? = some (l[j]'(by omega)) := by rw [List.getElem?_toArray]; exact List.getElem?_eq_getElem _
        intro he
        have := mem_ready (listed := listed) hol (by rw [Array.getD_eq_getD_getElem?, h3]; rfl) (fun e hm hb => by
          have := (drawOk_at hB).2 j _ (List.getElem?_eq_getElem (by omega)) e hm hb
          rw [Array.getD_eq_getD_getElem?, h4 _ this]; rfl)
        rw [he] at this; simp at this
      refine ⟨fun h => absurd h hready, fun i hi => ?_⟩
      obtain ⟨hi1, hi2, hi3⟩ := ready_mem hi
      simp only [List.size_toArray] at hi1
      have hio : l[i]? = some l[i] := List.getElem?_eq_getElem hi1
      have hil : listed[i]? = some false := by
        rw [Array.getD_eq_getD_getElem?] at hi2
        cases hx : listed[i]? with
        | none => rw [hx] at hi2; simp at hi2
        | some b => rw [hx] at hi2; simp at hi2; rw [hi2]
      have hdir : ∀ e ∈ (l[i]).after.toList, Region.binds .any e = true → listed[e.on]? = some true := by
        intro e he hb
        have := hi3 l[i] (by rw [List.getElem?_toArray]; exact hio) e he hb
        rw [Array.getD_eq_getD_getElem?] at this
        cases hx : listed[e.on]? with
        | none => rw [hx] at this; simp at this
        | some b => rw [hx] at this; simp at this; rw [this]
      have hbits : ∀ j, Nat.testBit (B.getD i 0) j = true → listed[j]? = some true := by
        intro j hj
        obtain ⟨e, he, hb, h1⟩ := bit_of hB hio hj
        rcases h1 with rfl | h1
        · exact hdir e he hb
        · exact hcl _ _ (hdir e he hb) h1
      have hki : k ≤ i := by
        apply Classical.byContradiction
        intro h; have := hlo i (by omega); rw [hil] at this; cases this
      have him : i < m := by
        apply Classical.byContradiction
        intro h
        apply hall
        intro j hj hjm
        exact hbits j (hseg i j (by omega) hi1 hj hjm)
      obtain ⟨t, rfl⟩ : ∃ t, i = k + t := ⟨i - k, by omega⟩
      obtain ⟨x, e1, e2, eO, e3⟩ := hv t l[k + t] (by rw [hrest t (by omega)]; exact hio)
      have henv : envAt (dsts l) B k m (k + t) ((vs.take t).map fun y => (some y.d, y.v)) σ₁ σ = σ₁ := by
        funext s
        unfold envAt
        rcases knownE_spec (B.getD (k + t) 0) k s ((vs.take t).map fun y => (some y.d, y.v)) k (mix (unkB (dsts l) B k m (k + t)) σ₁ σ) with ⟨u, vx, a1, a2, a3⟩ | ⟨a1, a2⟩
        · rw [a3]
          rw [List.getElem?_map, List.getElem?_take] at a1
          split at a1
          · rename_i hut
            cases hx : vs[u]? with
            | none => rw [hx] at a1; simp at a1
            | some p =>
              rw [hx] at a1; simp at a1
              obtain ⟨rfl, rfl⟩ := a1
              have hul : u < m - k := by have := (List.getElem?_eq_some_iff.1 hx).1; omega
              have hf := f1 u p hx (hbits _ a2)
              cases hpe : p.e with
              | none => rw [hf]; unfold Ent.val; rw [hpe]
              | some P =>
                exfalso
                obtain ⟨x', c1, _, c3, _⟩ := hv u (rest[u]'(by omega)) (List.getElem?_eq_getElem _)
                rw [hx] at c1; simp at c1; subst c1
                have := effOk_at (c3 (by rw [hpe]; rfl)) (k + t) (by omega) him
                rw [this] at a2; cases a2
          · simp at a1
        · rw [a1]
          unfold mix
          cases hb : unkB (dsts l) B k m (k + t) s
          · -- whoever writes it is not carried out yet
            refine (f2 s fun u xu hx hxs => ?_).symm
            subst hxs
            have hul : u < m - k := by have := (List.getElem?_eq_some_iff.1 hx).1; omega
            have hds := hdst u xu hx
            unfold unkB at hb
            have hb2 := List.any_eq_false.1 hb (k + u) (List.mem_range.2 (by omega))
            have g1 : Nat.blt (k + u) k = false := by
              cases h : Nat.blt (k + u) k
              · rfl
              · have := Nat.le_of_ble_eq_true h; omega
            have g2 : (dsts l).getD (k + u) none = some xu.d := by
              unfold dsts
              rw [List.getD_eq_getElem?_getD, List.getElem?_map]
              cases h : l[k + u]? with
              | none => rw [h] at hds; simp at hds
              | some o => rw [h] at hds; simpa using hds
            rw [g1, g2] at hb2
            simp only [Nat.beq_refl, Bool.not_false, Bool.true_and, Bool.and_true] at hb2
            by_cases hue : k + u = k + t
            · rw [hue]; exact hil
            · have g3 : Nat.beq (k + u) (k + t) = false := by
                cases h : Nat.beq (k + u) (k + t)
                · rfl
                · exact absurd (Nat.eq_of_beq_eq_true h) hue
              rw [g3] at hb2
              simp only [Bool.not_false, Bool.true_and, Bool.not_eq_true, Bool.and_eq_false_iff, Bool.not_eq_false'] at hb2
              rcases hb2 with hb2 | hb2
              · -- it hangs on this one
                cases hx2 : listed[k + u]? with
                | none => have := Array.getElem?_eq_none_iff.1 hx2; omega
                | some b => cases b
                            · rfl
                            · have := hcl _ _ hx2 hb2; rw [hil] at this; cases this
              · simp only [Bool.and_eq_true] at hb2
                have hlt : u < t := by have := Nat.le_of_ble_eq_true hb2.1; omega
                exact absurd hb2.2 (by rw [a2 u xu.v (by rw [List.getElem?_map, List.getElem?_take, if_pos hlt, hx]; rfl)]; simp)
          · rfl
      have hop := e3 _ σ₁ w H
      rw [List.reverse_nil, List.nil_append, henv] at hop
      have hset : ∀ j, (listed.setIfInBounds (k + t) true)[j]? = if j = k + t then some true else listed[j]? := by
        intro j
        rw [Array.getElem?_setIfInBounds]
        by_cases hj : k + t = j
        · subst hj; rw [if_pos rfl, if_pos (by omega), if_pos rfl]
        · rw [if_neg hj, if_neg (fun e => hj e.symm)]
      have hgetD : ∀ j, (listed.setIfInBounds (k + t) true).getD j false = if j = k + t then true else listed.getD j false := by
        intro j
        rw [Array.getD_eq_getD_getElem?, hset, Array.getD_eq_getD_getElem?]
        split <;> rfl
      have hlF : listed.getD (k + t) false = false := by rw [Array.getD_eq_getD_getElem?, hil]; rfl
      have st1 : ∀ j, j < k → (listed.setIfInBounds (k + t) true)[j]? = some true := fun j hj => by rw [hset, if_neg (by omega)]; exact hlo j hj
      have st2 : ∀ j, m ≤ j → j < l.length → (listed.setIfInBounds (k + t) true)[j]? = some false := fun j hj hjl => by rw [hset, if_neg (by omega)]; exact hhi j hj hjl
      have st3 : ∀ i j, (listed.setIfInBounds (k + t) true)[i]? = some true → Nat.testBit (B.getD i 0) j = true → (listed.setIfInBounds (k + t) true)[j]? = some true := by
        intro i' j hi' hj
        rw [hset] at hi' ⊢
        by_cases hi'' : i' = k + t
        · subst hi''
          split
          · rfl
          · exact hbits j hj
        · rw [if_neg hi''] at hi'
          split
          · rfl
          · exact hcl _ _ hi' hj
      -- the slots behind
      have st4 : ∀ (y : Value) (ys' : Nat → Value), y = x.val ys' (k + t) → (∀ j, j ≠ k + t → ys' j = ys j) → ∀ u xu, vs[u]? = some xu → (listed.setIfInBounds (k + t) true)[k + u]? = some true → upd σ₁ x.d y xu.d = xu.val ys' (k + u) := by
        intro y ys' hy hys u xu hx hl
        rw [hset] at hl
        by_cases hd : xu.d = x.d
        · have := hvu u t xu x hx e1 hd
          subst this
          rw [e1] at hx; simp at hx; subst hx
          show upd σ₁ x.d y x.d = _
          unfold upd; rw [Nat.beq_refl]; exact hy
        · have hne : k + u ≠ k + t := by
            intro h; have : u = t := by omega
            subst this; rw [e1] at hx; simp at hx; exact hd (by rw [hx])
          rw [if_neg hne] at hl
          have hbq : Nat.beq xu.d x.d = false := by
            cases h : Nat.beq xu.d x.d
            · rfl
            · exact absurd (Nat.eq_of_beq_eq_true h) hd
          show upd σ₁ x.d y xu.d = _
          unfold upd; rw [hbq]
          show σ₁ xu.d = _
          rw [f1 u xu hx hl]
          unfold Ent.val
          cases xu.e with
          | none => rfl
          | some P => exact (hys _ hne).symm
      have st5 : ∀ (y : Value) s, (∀ t' x', vs[t']? = some x' → x'.d = s → (listed.setIfInBounds (k + t) true)[k + t']? = some false) → upd σ₁ x.d y s = σ s := by
        intro y s hs
        have hd : s ≠ x.d := by
          rintro rfl
          have := hs t x e1 rfl
          rw [hset, if_pos rfl] at this; cases this
        have hbq : Nat.beq s x.d = false := by
          cases h : Nat.beq s x.d
          · rfl
          · exact absurd (Nat.eq_of_beq_eq_true h) hd
        show upd σ₁ x.d y s = σ s
        unfold upd; rw [hbq]
        refine f2 s fun u xu hx hxs => ?_
        have := hs u xu hx hxs
        rw [hset] at this
        split at this
        · cases this
        · exact this
      have st6 : (listed.setIfInBounds (k + t) true).toList.count false = fuel := by
        have := count_set listed.toList (k + t) (by rw [Array.getElem?_toList]; exact hil)
        rw [Array.toList_setIfInBounds]; omega
      refine wpOp_of (o := l[k + t]) (by rw [List.getElem?_toArray]; exact hio) R (by rw [show l.toArray.toList.map (·.dst) = dsts l from by simp [dsts]]; exact hop) ?_
      cases hxe : x.e with
      | none =>
        rintro a' σ' w' R' hpost
        obtain ⟨rfl, H'⟩ := hpost
        refine ih _ a' _ w' ys (by simpa using hsz) st1 st2 st3 (st4 x.v ys (by unfold Ent.val; rw [hxe]) (fun _ _ => rfl)) (st5 x.v) R' ?_ st6
        have hcg : ∀ u xu P, vs[u]? = some xu → xu.e = some P → (listed.setIfInBounds (k + t) true).getD (k + u) false = listed.getD (k + u) false ∧ ys (k + u) = ys (k + u) := by
          intro u xu P hx he
          refine ⟨?_, rfl⟩
          rw [hgetD, if_neg]
          intro h
          have : u = t := by omega
          subst this; rw [e1] at hx; simp at hx; subst hx
          exact absurd (hxe.symm.trans he) (by simp)
        rw [exS_congr (L := fun j => (listed.setIfInBounds (k + t) true).getD j false) (L' := fun j => listed.getD j false) (ys := ys) (ys' := ys) vs k hcg]
        exact H'
      | some P =>
        rintro a' σ' w' R' hpost
        obtain ⟨y, rfl, H'⟩ := hpost
        refine ih _ a' _ w' (fun j => if j = k + t then y else ys j) (by simpa using hsz) st1 st2 st3 (st4 y _ (by unfold Ent.val; rw [hxe]; exact (if_pos rfl).symm) (fun j hj => if_neg hj)) (st5 y) R' ?_ st6
        rw [exS_put (L := fun j => listed.getD j false) (L' := fun j => (listed.setIfInBounds (k + t) true).getD j false) (ys := ys) (ys' := fun j => if j = k + t then y else ys j) (y := y) vs k t x P e1 hxe hlF (by rw [hgetD, if_pos rfl]) (if_pos rfl) (fun j hj => ⟨by rw [hgetD, if_neg hj], (if_neg hj).symm⟩)]
        exact H'.join
  refine key (l.length - k) (pref l.length k) a σ w (fun _ => undef) ?_ ?_ ?_ ?_ ?_ ?_ R ?_ ?_
  · simp [pref]; omega
  · intro j hj; unfold pref; rw [List.getElem?_toArray, List.getElem?_append_left (by simpa using hj)]; simp [List.getElem?_replicate, hj]
  · intro j hj hjl; unfold pref; rw [List.getElem?_toArray, List.getElem?_append_right (by simp; omega)]; simp [List.getElem?_replicate]; omega
  · intro i j hi hj
    have hik : i < k := by
      apply Classical.byContradiction
      intro h
      unfold pref at hi
      rw [List.getElem?_toArray, List.getElem?_append_right (by simp; omega)] at hi
      simp [List.getElem?_replicate] at hi
    have hlt := bit_lt hB i _ (List.getElem?_eq_getElem (by omega)) j hj
    unfold pref; rw [List.getElem?_toArray, List.getElem?_append_left (by simp; omega)]; simp [List.getElem?_replicate]; omega
  · intro t x hv hl
    exfalso
    have htl : t < m - k := by have := (List.getElem?_eq_some_iff.1 hv).1; omega
    unfold pref at hl
    rw [List.getElem?_toArray, List.getElem?_append_right (by simp)] at hl
    simp [List.getElem?_replicate] at hl
  · intro s _; rfl
  · rw [exS_none vs k (fun t ht => by
      show (pref l.length k).getD (k + t) false = false
      unfold pref
      rw [Array.getD_eq_getD_getElem?, List.getElem?_toArray, List.getElem?_append_right (by simp)]
      simp [List.getElem?_replicate]
      split <;> rfl)]
    exact Sat.mkemp H
  · unfold pref; simp [List.count_replicate]
end
/-! ### What is often made -/
def pblk (E : TypeId) (l : List Value) : Value → HP := fun y h => ∃ b : Nat, y = .pointer (some ⟨b, 0, none⟩) ∧ blk b E l h
section
variable {z w : World} {As : List HP} {E : TypeId} {l0 : List Value} {y : Value}
theorem pblk_mk {b : Nat} (H : Sat z w (blk b E l0 :: As)) : Sat z w (pblk E l0 (.pointer (some ⟨b, 0, none⟩)) :: As) := H.imp fun h e => ⟨b, rfl, e⟩
end
section
variable {C : Cfg} {N : Nat} {l : List Oper} {B : List Nat} {k m i d : Nat} {z : World} {As : List HP} {σ0 : Env} {acc : (Nat → Value) → Env} {ps : (Nat → Value) → List HP} {K : Env → World → Prop} {done : List (Option Nat × Value)} {o : Oper} {r : List Oper} {E E' : TypeId} {l0 l1 : List Value} {ty : TypeId} {pos : String} {af : Array Edge} {g : Option (Nat × Bool)} {x : Operand}
theorem DrawX.alloc (he : effOk B k m i = true) (hk : Nat.blt 0 (C.T.kind.getD E 0) = true) (hc : forceL (C.T.zeroV E).cells.toList some = some l0) (hd : Nat.blt d N = true)
    (k' : DrawX C N l B k m z As σ0 K (i + 1) ((some d, undef) :: done) (fun ys => upd (acc ys) d (ys i)) (fun ys => ps ys ++ [pblk E l0 (ys i)]) r) : DrawX C N l B k m z As σ0 K i done acc ps (⟨some d, .alloc E, ty, pos, af, none⟩ :: r) :=
  DrawX.eff (pblk E l0) rfl he (fun X τ w H => OpsW.alloc H rfl hk hc hd fun b w H => OpsW.nil ⟨_, rfl, pblk_mk H⟩) k'
theorem DrawX.box (he : effOk B k m i = true) (hx : ∀ τ, forceL (ev (envR (dsts l) B k m i done τ σ0) x).cells.toList some = some l0) (hd : Nat.blt d N = true)
    (k' : DrawX C N l B k m z As σ0 K (i + 1) ((some d, undef) :: done) (fun ys => upd (acc ys) d (ys i)) (fun ys => ps ys ++ [pblk E l0 (ys i)]) r) : DrawX C N l B k m z As σ0 K i done acc ps (⟨some d, .box E x, ty, pos, af, none⟩ :: r) :=
  DrawX.eff (pblk E l0) rfl he (fun X τ w H => OpsW.box H rfl (hx τ) hd fun b w H => OpsW.nil ⟨_, rfl, pblk_mk H⟩) k'
end
def sblk (n E : Nat) (l : List Value) : Value → HP := fun y h => ∃ b : Nat, y = .slice (some ⟨b, 0, none⟩) n n ∧ blk b E l h
section
variable {z w : World} {As : List HP} {n E : Nat} {l0 : List Value} {y : Value}
theorem sblk_mk {b : Nat} (H : Sat z w (blk b E l0 :: As)) : Sat z w (sblk n E l0 (.slice (some ⟨b, 0, none⟩) n n) :: As) := H.imp fun h e => ⟨b, rfl, e⟩
theorem sblk_open (H : Sat z w (sblk n E l0 y :: As)) : ∃ b : Nat, y = .slice (some ⟨b, 0, none⟩) n n ∧ Sat z w (blk b E l0 :: As) := by
  obtain ⟨b, H⟩ := H.ex
  obtain ⟨e, H⟩ := H.and_
  exact ⟨b, e, H⟩
end
section
variable {C : Cfg} {N : Nat} {l : List Oper} {B : List Nat} {k m i d : Nat} {z : World} {As : List HP} {σ0 : Env} {acc : (Nat → Value) → Env} {ps : (Nat → Value) → List HP} {K : Env → World → Prop} {done : List (Option Nat × Value)} {r : List Oper} {E : TypeId} {l0 : List Value} {ty : TypeId} {pos : String} {af : Array Edge} {t : TypeId} {n sz : Nat} {parts : Array (Nat × Operand)}
theorem DrawX.bsl (he : effOk B k m i = true) (hk : Nat.beq (C.T.kind.getD t 0) 4 = true) (he2 : Nat.blt 0 (C.T.kind.getD (C.T.elem.getD t 0) 0) = true)
    (hsz : C.T.size[C.T.elem.getD t 0]? = some sz) (hsz1 : (C.T.zero.getD (C.T.elem.getD t 0) []).length = sz) (hm : Nat.ble (n * sz) 1000 = true)
    (hf : ∀ τ, fillK (fun i => some (i * sz, sz)) (repl n (C.T.zero.getD (C.T.elem.getD t 0) [])) (mapP (envR (dsts l) B k m i done τ σ0) parts.toList) = some (.agg l0.toArray)) (hd : Nat.blt d N = true)
    (k' : DrawX C N l B k m z As σ0 K (i + 1) ((some d, undef) :: done) (fun ys => upd (acc ys) d (ys i)) (fun ys => ps ys ++ [sblk n (C.T.elem.getD t 0) l0 (ys i)]) r) : DrawX C N l B k m z As σ0 K i done acc ps (⟨some d, .buildSlice t n parts, ty, pos, af, none⟩ :: r) :=
  DrawX.eff (sblk n (C.T.elem.getD t 0) l0) rfl he (fun X τ w H => OpsW.bsl H rfl hk he2 hsz hsz1 hm (hf τ) hd fun b w H => OpsW.nil ⟨_, rfl, sblk_mk H⟩) k'
/-- One of them made a slice. -/
theorem DrawX.nilS {q : Nat} (hp : ∀ ys, ps ys = [sblk n E l0 (ys q)]) (ha : ∀ ys, acc ys = acc (fun _ => ys q)) (h : ∀ b w, Sat z w (blk b E l0 :: As) → K (acc fun _ => .slice (some ⟨b, 0, none⟩) n n) w) : DrawX C N l B k m z As σ0 K i done acc ps [] := by
  refine DrawX.nil fun ys w H => ?_
  rw [hp] at H
  obtain ⟨b, hb, H⟩ := sblk_open H
  rw [ha, hb]
  exact h b w H
end
/-! ### A struct that is built of what slots have, its cells told by a lemma -/
section
variable {C : Cfg} {N : Nat} {gd : List (Option Nat)} {r : List Oper} {σ : Env} {w : World} {Q : Env → World → Prop} {d t : Nat} {parts : Array (Nat × Operand)} {ty : TypeId} {pos : String} {af : Array Edge} {g : Option (Nat × Bool)}
end
/-! ### A part of an array as a slice -/
section
variable {C : Cfg} {N : Nat} {gd : List (Option Nat)} {r : List Oper} {σ : Env} {w : World} {Q : Env → World → Prop} {x y : Operand} {d t b off : Nat} {ty : TypeId} {pos : String} {af : Array Edge} {g : Option (Nat × Bool)}
end
end Go.Proofs.Ytdbnkimegdogjaa.X
