/- The engine of this seat's proofs, part 12: regions in any order, each order walked; conditions: none. -/
import Derived.Test.YtgaabaohkpjllaaDoorX10
namespace Go.Proofs.YtgaabaohkpjllaaDoor.X
open Go
set_option linter.unusedSimpArgs false
set_option linter.unusedVariables false
/-- Those that the mask names are carried out; the others (n of them) in any order. -/
def AnyM (C : Cfg) (N : Nat) (l : List Oper) (n : Nat) (M : List Bool) (σ : Env) (w : World) (Q : Env → World → Prop) : Prop :=
  ∀ (a : Act) (Q' : Exit → Act → World → Prop), Rel N a σ → (∀ a' σ' w', Rel N a' σ' → Q σ' w' → Q' .normal a' w') →
    wpAny C.P .any l.toArray Q' n M.toArray a w
section
variable {C : Cfg} {N n : Nat} {σ : Env} {w : World} {l : List Oper} {M : List Bool} {is : List Nat} {Q : Env → World → Prop}
def AllI (l : List Oper) (is : List Nat) (P : Nat → Oper → Prop) : Prop := match is with
  | [] => True
  | i :: is => (∃ o, l[i]? = some o ∧ P i o) ∧ AllI l is P
theorem AllI.at_ {P : Nat → Oper → Prop} : ∀ {is : List Nat}, AllI l is P → ∀ i ∈ is, ∃ o, l[i]? = some o ∧ P i o := by
  intro is
  induction is with
  | nil => intro _ i h; cases h
  | cons j is ih =>
    intro h i hi
    rcases List.mem_cons.1 hi with rfl | hi
    · exact h.1
    · exact ih h.2 i hi
theorem AllI.nil' {P : Nat → Oper → Prop} (h : is = []) : AllI l is P := by subst h; trivial
theorem AllI.cons' {P : Nat → Oper → Prop} {i : Nat} {is' : List Nat} {o : Oper} (h : is = i :: is') (ho : l[i]? = some o) (hp : P i o) (hr : AllI l is' P) : AllI l is P := by subst h; exact ⟨⟨o, ho, hp⟩, hr⟩
def rdy (l : List Oper) (M : List Bool) : List Nat := (List.range l.length).filter fun i => !(M.getD i true) && (match l[i]? with | some o => o.after.toList.all (fun e => !Region.binds .any e || M.getD e.on false) | none => false)
theorem getD_arr (M : List Bool) (i : Nat) (d : Bool) : M.toArray.getD i d = M.getD i d := by
  rw [Array.getD_eq_getD_getElem?, List.getElem?_toArray, List.getD_eq_getElem?_getD]
theorem rdy_iff (i : Nat) : i ∈ Region.ready .any l.toArray M.toArray ↔ i ∈ rdy l M := by
  constructor
  · intro h
    obtain ⟨h1, h2, h3⟩ := ready_mem h
    simp only [List.size_toArray] at h1
    have ho : l[i]? = some l[i] := List.getElem?_eq_getElem h1
    unfold rdy
    rw [List.mem_filter, List.mem_range]
    refine ⟨h1, ?_⟩
    rw [getD_arr] at h2
    rw [ho, h2]
    simp only [Bool.not_false, Bool.true_and]
    rw [List.all_eq_true]
    intro e he
    cases hb : Region.binds .any e
    · rfl
    · have := h3 l[i] (by rw [List.getElem?_toArray]; exact ho) e he hb
      rw [getD_arr] at this; rw [this]; rfl
  · intro h
    unfold rdy at h
    rw [List.mem_filter, List.mem_range] at h
    obtain ⟨h1, h2⟩ := h
    have ho : l[i]? = some l[i] := List.getElem?_eq_getElem h1
    rw [ho, Bool.and_eq_true] at h2
    obtain ⟨h2, h3⟩ := h2
    refine mem_ready (o := l[i]) (by rw [List.getElem?_toArray]; exact ho) ?_ ?_
    · rw [getD_arr]; simpa using h2
    · intro e he hb
      have := List.all_eq_true.1 h3 e he
      rw [hb] at this
      rw [getD_arr]; simpa using this
theorem AnyM.step (hr : rdy l M = is) (hne : is.isEmpty = false)
    (h : AllI l is fun i o => OpsW C N (dsts l) [o] σ w (fun σ' w' => AnyM C N l n (M.set i true) σ' w' Q)) : AnyM C N l (n + 1) M σ w Q := by
  intro a Q' R hq
  refine ⟨fun hnil => ?_, fun i hi => ?_⟩
  · cases is with
    | nil => cases hne
    | cons i is =>
      have : i ∈ rdy l M := by rw [hr]; exact List.mem_cons_self
      rw [← rdy_iff, hnil] at this; cases this
  rw [rdy_iff, hr] at hi
  obtain ⟨o, ho, h1⟩ := h.at_ i hi
  refine wpOp_of (o := o) (by rw [List.getElem?_toArray]; exact ho) R (by simpa [dsts] using h1) ?_
  intro a' σ' w' R' hk
  have := hk a' Q' R' hq
  simpa using this
theorem AnyM.done (hr : rdy l M = []) (h : Q σ w) : AnyM C N l 0 M σ w Q := by
  intro a Q' R hq
  refine ⟨List.eq_nil_iff_forall_not_mem.2 fun i hi => ?_, hq _ _ _ R h⟩
  rw [rdy_iff, hr] at hi; cases hi
theorem CW.drawM {id : Nat} {Q : Post} {z : World} {As : List HP} (hm : C.P.follows .mixedOrders = true) (H : Sat z w As) (h : ∀ w' : World, Sat z w' As → AnyM C N l l.length (List.replicate l.length false) σ w' (fun σ w => Q .normal σ w)) : CW C N (.region id l.toArray true) σ w Q := by
  intro a R
  refine wp_region_any hm ?_
  have := h _ (H.drawn (w.drawn + 1)) a (fun e a' w' => ∃ σ', Rel N a' σ' ∧ Q e σ' w') R (fun a' σ' w' R' q => ⟨σ', R', q⟩)
  simpa using this
theorem CW.seqDrawM {id : Nat} {Q : Post} {y : Code} {z : World} {As : List HP} (hm : C.P.follows .mixedOrders = true) (H : Sat z w As) (h : ∀ w' : World, Sat z w' As → AnyM C N l l.length (List.replicate l.length false) σ w' (fun σ w => CW C N y σ w Q)) : CW C N (.seq (.region id l.toArray true) y) σ w Q :=
  .seqD (.drawM hm H h)
end
end Go.Proofs.YtgaabaohkpjllaaDoor.X
