/- The engine of this seat's proofs, part 6: code, loops, returns, and entering a function; conditions: none. -/
import Derived.Test.YtgaabaohkpjllaaDoorX4
namespace Go.Proofs.YtgaabaohkpjllaaDoor.X
open Go
set_option linter.unusedSimpArgs false
set_option linter.unusedVariables false

abbrev Post := Exit → Env → World → Prop
def CW (C : Cfg) (N : Nat) (c : Code) (σ : Env) (w : World) (Q : Post) : Prop :=
  ∀ a, Rel N a σ → Code.wp C.P c (fun e a' w' => ∃ σ', Rel N a' σ' ∧ Q e σ' w') a w
def thenQ (K : Env → World → Prop) (Q : Post) : Post := fun e σ w => match e with
  | .normal => K σ w
  | .exit i => Q (.exit i) σ w
  | .goto l => Q (.goto l) σ w
  | .ret => Q .ret σ w
  | .panic c => Q (.panic c) σ w
  | .outgrown => Q .outgrown σ w
def blkQ (id : Nat) (Q : Post) : Post := fun e σ w => match e with
  | .normal => Q .normal σ w
  | .exit i => match Nat.beq i id with | true => Q .normal σ w | false => Q (.exit i) σ w
  | .goto l => Q (.goto l) σ w
  | .ret => Q .ret σ w
  | .panic c => Q (.panic c) σ w
  | .outgrown => Q .outgrown σ w

section
variable {C : Cfg} {N : Nat} {σ : Env} {w : World} {Q : Post} {x y : Code}
theorem CW.mono {Q' : Post} (h : CW C N x σ w Q) (k : ∀ e σ w, Q e σ w → Q' e σ w) : CW C N x σ w Q' :=
  fun a R => wp_mono (h a R) fun e a w ⟨σ', R', q⟩ => ⟨σ', R', k _ _ _ q⟩
theorem CW.seq (h : ∀ K : Env → World → Prop, (∀ σ w, CW C N y σ w Q → K σ w) → CW C N x σ w (thenQ K Q)) : CW C N (.seq x y) σ w Q := by
  intro a R
  refine wp_seq (wp_mono (h _ (fun _ _ h => h) a R) ?_)
  rintro e a w ⟨σ', R', q⟩
  cases e <;> first | exact q a R' | exact ⟨σ', R', q⟩
theorem CW.seqD (h : CW C N x σ w (thenQ (fun σ w => CW C N y σ w Q) Q)) : CW C N (.seq x y) σ w Q := by
  intro a R
  refine wp_seq (wp_mono (h a R) ?_)
  rintro e a w ⟨σ', R', q⟩
  cases e <;> first | exact q a R' | exact ⟨σ', R', q⟩
theorem CW.go (h : CW C N x σ w Q) : CW C N x σ w Q := h
theorem CW.skip (h : Q .normal σ w) : CW C N .skip σ w Q := fun a R => wp_skip ⟨σ, R, h⟩
theorem CW.exit {id : Nat} (h : Q (.exit id) σ w) : CW C N (.exit id) σ w Q := fun a R => wp_exit ⟨σ, R, h⟩
theorem CW.ret (h : Q .ret σ w) : CW C N .ret σ w Q := fun a R => wp_ret ⟨σ, R, h⟩
theorem CW.block {id : Nat} (h : CW C N x σ w (blkQ id Q)) : CW C N (.block id x) σ w Q := by
  intro a R
  refine wp_block (wp_mono (h a R) ?_)
  rintro e a w ⟨σ', R', q⟩
  cases e with
  | exit i =>
    simp only [Exit.inBlock]
    simp only [blkQ] at q
    split at q
    · rename_i hb; rw [if_pos (Nat.eq_of_beq_eq_true hb)]; exact ⟨σ', R', q⟩
    · rename_i hb
      have : i ≠ id := by intro e; subst e; simp at hb
      rw [if_neg this]; exact ⟨σ', R', q⟩
  | _ => exact ⟨σ', R', q⟩
theorem CW.region {id : Nat} {l : List Oper} (h : OpsW C N (l.map (·.dst)) l σ w (fun σ w => Q .normal σ w)) : CW C N (.region id l.toArray false) σ w Q := by
  intro a R
  refine wp_region ?_
  refine h l.toArray _ a (fun e a' w' => ∃ σ', Rel N a' σ' ∧ Q e σ' w') ?_ (by simp) R (fun a' σ' w' R' q => ⟨σ', R', q⟩)
  apply List.ext_getElem?
  intro i
  rw [List.getElem?_map, List.getElem?_map]
  by_cases hi : i < l.length
  · rw [List.getElem?_range (by simpa using hi)]; simp [hi]
  · rw [List.getElem?_eq_none (by simpa using hi), List.getElem?_eq_none (by simpa using hi)]; rfl
theorem CW.seqR {id : Nat} {l : List Oper} (h : OpsW C N (l.map (·.dst)) l σ w (fun σ w => CW C N y σ w Q)) : CW C N (.seq (.region id l.toArray false) y) σ w Q :=
  .seqD (.region h)
theorem CW.cond {c : Operand} {t : Bool} (hc : ev σ c = .bool t) (ht : t = true → CW C N x σ w Q) (hf : t = false → CW C N y σ w Q) : CW C N (.cond c x y) σ w Q := by
  intro a R
  refine wp_cond_split (t := t) (by rw [R.eval, hc]) (fun h => ht h a R) (fun h => hf h a R)
theorem CW.condT {c : Operand} (hc : ev σ c = .bool true) (h : CW C N x σ w Q) : CW C N (.cond c x y) σ w Q := .cond hc (fun _ => h) (fun e => by cases e)
theorem CW.condF {c : Operand} (hc : ev σ c = .bool false) (h : CW C N y σ w Q) : CW C N (.cond c x y) σ w Q := .cond hc (fun e => by cases e) (fun _ => h)
/-- A loop: what holds at each round's head, of a ghost; a measure of the ghost that goes down. -/
theorem CW.loop {X : Type} (I : X → Env → World → Prop) (m : X → Nat) (g : X) (h0 : I g σ w)
    (round : ∀ g σ w, I g σ w → CW C N x σ w (thenQ (fun σ' w' => ∃ g', I g' σ' w' ∧ m g' < m g) Q)) : CW C N (.loop x) σ w Q := by
  intro a R b k cs
  have key : ∀ n g σ w a, m g = n → I g σ w → Rel N a σ →
      ∃ e a' w', (∃ σ', Rel N a' σ' ∧ Q e σ' w') ∧ Arrives C.P (lone (b.at a (.code x :: .inLoop x :: k)) cs w) b k cs e a' w' := by
    intro n
    induction n using Nat.strongRecOn with
    | _ n ih =>
      intro g σ w a hn hI R
      obtain ⟨e, a₁, w₁, ⟨σ₁, R₁, hq⟩, harr⟩ := round g σ w hI a R b (.inLoop x :: k) cs
      cases e with
      | normal =>
        obtain ⟨g', hI', hlt⟩ := hq
        obtain ⟨e₂, a₂, w₂, hq₂, harr₂⟩ := ih (m g') (hn ▸ hlt) g' σ₁ w₁ a₁ rfl hI' R₁
        exact ⟨e₂, a₂, w₂, hq₂, .of_steps (Steps.trans harr (.one step_inLoop)) harr₂⟩
      | exit id => exact ⟨_, a₁, w₁, ⟨σ₁, R₁, hq⟩, .pass (x := .inLoop x) rfl (fun _ _ => .inl (by simp)) harr⟩
      | goto l => exact ⟨_, a₁, w₁, ⟨σ₁, R₁, hq⟩, .pass (x := .inLoop x) rfl (fun _ _ => .inl (by simp)) harr⟩
      | ret => exact ⟨_, a₁, w₁, ⟨σ₁, R₁, hq⟩, .pass (x := .inLoop x) rfl (fun _ _ => .inl (by simp)) harr⟩
      | panic ch => exact ⟨_, a₁, w₁, ⟨σ₁, R₁, hq⟩, .pass (x := .inLoop x) rfl (fun _ _ => .inl (by simp)) harr⟩
      | outgrown => exact ⟨_, a₁, w₁, ⟨σ₁, R₁, hq⟩, .pass (x := .inLoop x) rfl (fun _ _ => .inl (by simp)) harr⟩
  obtain ⟨e, a', w', hq, harr⟩ := key _ g σ w a rfl h0 R
  exact ⟨e, a', w', hq, .of_steps (.one step_loop) harr⟩

/-! ### Returns -/
def ResV (P : Program) (σ : Env) (w : World) : ResultVar → Value → Prop
  | .tmp t, v => force (σ t) = some v
  | .cell t T, v => ∃ a, σ t = .pointer (some a) ∧ (loadVar T a).run P w = .ok v w
def ResL (P : Program) (σ : Env) (w : World) : List ResultVar → List Value → Prop
  | [], [] => True
  | r :: rs, v :: vs => ResV P σ w r v ∧ ResL P σ w rs vs
  | _, _ => False
def tupV : List Value → Value
  | [v] => v
  | l => .tuple l.toArray
def RetW (C : Cfg) (rs : List ResultVar) (σ : Env) (w : World) (R : Value → World → Prop) : Prop :=
  ∃ vs, ResL C.P σ w rs vs ∧ R (tupV vs) w
theorem results_run {rs : List ResultVar} {vs : List Value} {a : Act} (R : Rel N a σ) (h : ResL C.P σ w rs vs) :
    (rs.mapM (m := Sem) fun | .tmp t => pure (a.tmps.getD t undef) | .cell d t => do loadVar t (← asAddr (a.tmps.getD d undef))).run C.P w = .ok vs w := by
  induction rs generalizing vs with
  | nil => cases vs with
    | nil => rfl
    | cons => exact h.elim
  | cons r rs ih =>
    cases vs with
    | nil => exact h.elim
    | cons v vs =>
    obtain ⟨h1, h2⟩ := h
    rw [List.mapM_cons]
    have e : ((fun | .tmp t => pure (a.tmps.getD t undef) | .cell d t => do loadVar t (← asAddr (a.tmps.getD d undef)) : ResultVar → Sem Value) r).run C.P w = .ok v w := by
      cases r with
      | tmp t =>
        simp only [ResV, force_eq, Option.some.injEq] at h1
        simp only [R.val, h1]; rfl
      | cell d t =>
        obtain ⟨ad, h3, h4⟩ := h1
        simp only [R.val, h3]
        rw [X.run_bind _ _ _ _ _ _ (show (asAddr (.pointer (some ad))).run C.P w = .ok ad w from rfl)]
        exact h4
    rw [X.run_bind _ _ _ _ _ _ e, X.run_bind _ _ _ _ _ _ (ih h2)]
    rfl
def endQ (C : Cfg) (rs : List ResultVar) (R : Value → World → Prop) : Post := fun e σ w => match e with
  | .normal => RetW C rs σ w R
  | .ret => RetW C rs σ w R
  | _ => False
theorem RetW.results {fn : Func} {rs : List ResultVar} {a : Act} {R : Value → World → Prop} (hr : fn.results = rs.toArray) (Ra : Rel N a σ) (h : RetW C rs σ w R) :
    ∃ v, (results fn a.tmps).run C.P w = .ok v w ∧ R v w := by
  obtain ⟨vs, h1, h2⟩ := h
  have hm := results_run Ra h1
  refine ⟨tupV vs, ?_, h2⟩
  have hm' : (fn.results.mapM (m := Sem) fun | .tmp t => pure (a.tmps.getD t undef) | .cell d t => do loadVar t (← asAddr (a.tmps.getD d undef))).run C.P w = .ok vs.toArray w := by
    rw [hr, Array.mapM_eq_mapM_toList, Sem.run_map]
    rw [hm]; rfl
  refine (X.run_bind _ _ _ _ _ _ hm').trans ?_
  match vs with
  | [] => rfl
  | [v] => rfl
  | v :: u :: l => simp [tupV]

def env0 : List Value → Env
  | [], _ => undef
  | a :: _, 0 => a
  | _ :: l, i + 1 => env0 l i
theorem env0_get (l : List Value) : ∀ i, env0 l i = l[i]?.getD undef := by
  induction l with
  | nil => intro i; rfl
  | cons a l ih => intro i; cases i with
    | zero => rfl
    | succ i => simp [env0, ih]
/-- Into a function's body. -/
theorem enter {f : FuncId} {fn : Func} {c : Code} {rs : List ResultVar} {l : List Value} {R : Value → World → Prop} (hf : C.P.funcs[f]? = some fn) (hb : fn.body = some c)
    (hn : (fn.name == "runtime.NumGoroutine") = false) (hr : fn.results = rs.toArray) (hN : fn.ntmps = N) (hl : Nat.ble l.length N = true)
    (k : CW C N c (env0 l) w (endQ C rs R)) : Spec C f l.toArray w R := by
  refine ⟨⟨fn, hf, by rw [hb]; rfl, hn⟩, calls_of_wp hf hb ?_⟩
  have hl' := Nat.le_of_ble_eq_true hl
  have R0 : Rel N { tmps := l.toArray ++ Array.replicate (fn.ntmps - l.toArray.size) undef, defers := [] } (env0 l) := by
    refine ⟨by simp; omega, rfl, fun i => ?_⟩
    rw [env0_get, Array.getD_eq_getD_getElem?, Array.getElem?_append]
    split
    · simp
    · rename_i h
      rw [List.getElem?_eq_none (by simpa using h)]
      rw [Array.getElem?_replicate]
      split <;> rfl
  refine wp_mono (k _ R0) ?_
  rintro e a' w' ⟨σ', R', q⟩
  cases e with
  | normal =>
    obtain ⟨v, h1, h2⟩ := RetW.results hr R' q
    exact ⟨R'.defers, v, h1, v, rfl, h2⟩
  | ret =>
    obtain ⟨v, h1, h2⟩ := RetW.results hr R' q
    exact ⟨R'.defers, v, h1, v, rfl, h2⟩
  | exit => exact q.elim
  | goto => exact q.elim
  | panic => exact q.elim
  | outgrown => exact q.elim
theorem ret1 {t : Nat} {v : Value} {R : Value → World → Prop} (h : force (σ t) = some v) (hR : R v w) : RetW C [.tmp t] σ w R := ⟨[v], ⟨h, trivial⟩, hR⟩
theorem ret2 {t u : Nat} {v v' : Value} {R : Value → World → Prop} (h : force (σ t) = some v) (h' : force (σ u) = some v') (hR : R (.tuple #[v, v']) w) : RetW C [.tmp t, .tmp u] σ w R := ⟨[v, v'], ⟨h, h', trivial⟩, hR⟩
theorem ret3 {t u s : Nat} {v v' v'' : Value} {R : Value → World → Prop} (h : force (σ t) = some v) (h' : force (σ u) = some v') (h'' : force (σ s) = some v'') (hR : R (.tuple #[v, v', v'']) w) : RetW C [.tmp t, .tmp u, .tmp s] σ w R :=
  ⟨[v, v', v''], ⟨h, h', h'', trivial⟩, hR⟩
theorem ret0 {R : Value → World → Prop} (hR : R (.tuple #[]) w) : RetW C [] σ w R := ⟨[], trivial, hR⟩
theorem resA {z : World} {As Rs : List HP} {b off t : Nat} {E T : TypeId} {l vs : List Value} (H : Sat z w As) (hp : As.Perm (blk b E l :: Rs)) (ha : σ t = .pointer (some ⟨b, off, none⟩)) (hk : C.T.isAgg T = true)
    (hv : takeK (C.T.size.getD T 0) (l.drop off) some = some vs) : ResV C.P σ w (.cell t T) (.agg vs.toArray) :=
  ⟨_, ha, loadVarA C.ok hk ((H.perm hp).has Has.head) (take_get hv).1 (by simpa using (take_get hv).2)⟩
theorem res1 {z : World} {As Rs : List HP} {b off t : Nat} {E T : TypeId} {l : List Value} {v : Value} (H : Sat z w As) (hp : As.Perm (blk b E l :: Rs)) (ha : σ t = .pointer (some ⟨b, off, none⟩)) (hk : C.T.isAgg T = false) (h0 : Nat.blt 0 (C.T.kind.getD T 0) = true)
    (hv : l[off]? = some v) : ResV C.P σ w (.cell t T) v :=
  ⟨_, ha, loadVar1 C.ok hk h0 ((H.perm hp).has Has.head) (by simpa using hv)⟩
theorem ret1c {T t : Nat} {v : Value} {R : Value → World → Prop} (h : ResV C.P σ w (.cell t T) v) (hR : R v w) : RetW C [.cell t T] σ w R := ⟨[v], ⟨h, trivial⟩, hR⟩
theorem ret2c {r r' : ResultVar} {v v' : Value} {R : Value → World → Prop} (h : ResV C.P σ w r v) (h' : ResV C.P σ w r' v') (hR : R (.tuple #[v, v']) w) : RetW C [r, r'] σ w R := ⟨[v, v'], ⟨h, h', trivial⟩, hR⟩
theorem ret3c {r r' r'' : ResultVar} {v v' v'' : Value} {R : Value → World → Prop} (h : ResV C.P σ w r v) (h' : ResV C.P σ w r' v') (h'' : ResV C.P σ w r'' v'') (hR : R (.tuple #[v, v', v'']) w) : RetW C [r, r', r''] σ w R :=
  ⟨[v, v', v''], ⟨h, h', h'', trivial⟩, hR⟩
end
end Go.Proofs.YtgaabaohkpjllaaDoor.X
