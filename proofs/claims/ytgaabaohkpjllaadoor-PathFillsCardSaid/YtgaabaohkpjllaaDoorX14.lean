/- The engine of this seat's proofs, part 15: regions in any order, of which what looks at slots alone is carried out first; conditions: none. -/
import Derived.Test.YtgaabaohkpjllaaDoorX13
namespace Go.Proofs.YtgaabaohkpjllaaDoor.X
open Go
set_option linter.unusedSimpArgs false
set_option linter.unusedVariables false
section
variable {P : Program} {ops : Array Oper} {Q Q' : Exit → Act → World → Prop}
theorem wpOp_monoQ (h : ∀ e a w, Q e a w → Q' e a w) {i : Nat} {K K' : Act → World → Prop} (hK : ∀ a w, K a w → K' a w) {a : Act} {w : World} (hh : wpOp P ops Q i K a w) : wpOp P ops Q' i K' a w := by
  have hl : LetsOut Q → LetsOut Q' := fun ⟨a0, w0, h2⟩ => ⟨a0, w0, h _ _ _ h2⟩
  unfold wpOp at *
  split
  · rename_i e; simp only [e] at hh; exact hK _ _ hh
  · rename_i o e
    simp only [e] at hh
    split
    · rename_i hw
      simp only [hw, if_true] at hh
      rcases hh with hh | ⟨h1, h2⟩
      · left
        unfold Oper.wp at *
        generalize (execOp a.eval o).run P w = res at *
        cases res with
        | ok n w' =>
          cases n <;> simp only [Oper.upon] at hh ⊢ <;>
            first
              | exact hK _ _ hh
              | exact Calls.mono hh (fun e w'' he => by cases e <;> first | exact hK _ _ he | exact h _ _ _ he | exact hl he)
              | exact Rows.mono hh (fun _ _ he => hK _ _ he)
              | exact h _ _ _ hh
              | exact hl hh
        | halt x w' => cases x <;> simp only [Oper.upon] at hh ⊢ <;> first | exact h _ _ _ hh | exact hl hh | exact hh
      · exact .inr ⟨h1, hl h2⟩
    · rename_i hw
      simp only [hw] at hh
      exact hK _ _ hh
theorem wpAny_monoQ {md : Region.Mode} (h : ∀ e a w, Q e a w → Q' e a w) : ∀ (n : Nat) (M : Array Bool) (a : Act) (w : World), wpAny P md ops Q n M a w → wpAny P md ops Q' n M a w
  | 0, M, a, w, hh => ⟨hh.1, h _ _ _ hh.2⟩
  | n + 1, M, a, w, hh => ⟨fun e => h _ _ _ (hh.1 e), fun i hi => wpOp_monoQ h (fun a w => wpAny_monoQ h n _ a w) (hh.2 i hi)⟩
end
def nQ (N : Nat) (Q : Env → World → Prop) : Exit → Act → World → Prop := fun e a w => match e with
  | .normal => ∃ σ, Rel N a σ ∧ Q σ w
  | _ => False
/-- Those that the mask names are carried out; the others (n of them) in any order. -/
def AnyN (C : Cfg) (N : Nat) (l : List Oper) (n : Nat) (M : List Bool) (σ : Env) (w : World) (Q : Env → World → Prop) : Prop :=
  ∀ a : Act, Rel N a σ → wpAny C.P .any l.toArray (nQ N Q) n M.toArray a w
def takeOk (l : List Oper) (M : List Bool) (i : Nat) : Bool :=
  Region.noSelect l.toArray && Region.free .any l.toArray M.toArray i && (Region.ready .any l.toArray M.toArray).contains i
section
variable {C : Cfg} {N n : Nat} {σ σ' : Env} {w : World} {l : List Oper} {M : List Bool} {is : List Nat} {Q : Env → World → Prop} {B : List Nat}
theorem AnyN.step (hr : rdy l M = is) (hne : is.isEmpty = false)
    (h : AllI l is fun i o => OpsW C N (dsts l) [o] σ w (fun σ' w' => AnyN C N l n (M.set i true) σ' w' Q)) : AnyN C N l (n + 1) M σ w Q := by
  intro a R
  refine ⟨fun hnil => ?_, fun i hi => ?_⟩
  · cases is with
    | nil => cases hne
    | cons i is =>
      have : i ∈ rdy l M := by rw [hr]; exact List.mem_cons_self
      rw [← rdy_iff, hnil] at this; cases this
  rw [rdy_iff, hr] at hi
  obtain ⟨o, ho, h1⟩ := h.at_ i hi
  refine wpOp_of (o := o) (by rw [List.getElem?_toArray]; exact ho) R (by simpa [dsts] using h1) ?_
  intro a' σ' w' R' hk
  have := hk a' R'
  simpa using this
theorem AnyN.done (hr : rdy l M = []) (h : Q σ w) : AnyN C N l 0 M σ w Q := by
  intro a R
  refine ⟨List.eq_nil_iff_forall_not_mem.2 fun i hi => ?_, _, R, h⟩
  rw [rdy_iff, hr] at hi; cases hi
/-- What looks at slots alone, and is free, may as well come first. -/
theorem AnyN.take {i : Nat} {o : Oper} (hM : M[i]? = some false) (ho : l[i]? = some o) (hst : stepE C.T N (dsts l) σ o = some σ') (hf : takeOk l M i = true)
    (h : AnyN C N l n (M.set i true) σ' w Q) : AnyN C N l (n + 1) M σ w Q := by
  intro a R
  simp only [takeOk, Bool.and_eq_true] at hf
  obtain ⟨⟨h1, h2⟩, h3⟩ := hf
  have ho' : l.toArray[i]? = some o := by rw [List.getElem?_toArray]; exact ho
  have hm : l.toArray.toList.map (·.dst) = dsts l := by simp [dsts]
  obtain ⟨dst, op, ty, pos, af, g⟩ := o
  have key : ∃ v, putE N σ dst v = some σ' ∧ Yields C.P l.toArray ⟨dst, op, ty, pos, af, g⟩ v a := by
    simp only [stepE] at hst
    split at hst
    · rename_i hg
      split at hst
      · rename_i v hv
        refine ⟨v, hst, .inl ⟨wan_eq hg hm R, fun w => ?_⟩⟩
        rw [R.eval]
        exact pureV_run C.ok hv dst ty pos af g w
      · cases hst
    · rename_i hg
      exact ⟨undef, hst, .inr ⟨wan_eq hg hm R, rfl⟩⟩
    · cases hst
  obtain ⟨v, hp, hy⟩ := key
  refine wpAny_take (v := v) ho' h1 h2 h3 (fun c a w hc => hc.elim) hy ?_
  have := h _ (R.putE hp)
  simpa using this
theorem AnyN.gs {d : Nat} {b : Bool} (hb : σ d = .bool b) (ht : b = true → AnyN C N l n M (upd σ d (.bool true)) w Q) (hf : b = false → AnyN C N l n M (upd σ d (.bool false)) w Q) : AnyN C N l n M σ w Q := by
  intro a R
  cases b
  · exact hf rfl a (R.refl hb)
  · exact ht rfl a (R.refl hb)
theorem CW.drawN {id : Nat} {Q : Post} {z : World} {As : List HP} (hm : C.P.follows .mixedOrders = true) (H : Sat z w As) (h : ∀ w' : World, Sat z w' As → AnyN C N l l.length (List.replicate l.length false) σ w' (fun σ w => Q .normal σ w)) : CW C N (.region id l.toArray true) σ w Q := by
  intro a R
  refine wp_mono (wp_region_any (Q := nQ N fun σ w => Q .normal σ w) hm ?_) ?_
  · have := h _ (H.drawn (w.drawn + 1)) a R
    simpa using this
  · intro e a w h
    cases e with
    | normal => exact h
    | _ => exact h.elim
theorem CW.seqDrawN {id : Nat} {Q : Post} {y : Code} {z : World} {As : List HP} (hm : C.P.follows .mixedOrders = true) (H : Sat z w As) (h : ∀ w' : World, Sat z w' As → AnyN C N l l.length (List.replicate l.length false) σ w' (fun σ w => CW C N y σ w Q)) : CW C N (.seq (.region id l.toArray true) y) σ w Q :=
  .seqD (.drawN hm H h)
/-- To the rules that know prefixes, and back. -/
theorem AnyN.ofW {k : Nat} (hM : M = List.replicate k true ++ List.replicate (l.length - k) false) (hn : l.length - k = n) (h : AnyW C N l B k σ w Q) : AnyN C N l n M σ w Q := by
  subst hM hn
  intro a R
  exact h a (nQ N Q) R fun a' σ' w' R' hq => ⟨σ', R', hq⟩
theorem AnyW.ofN {k : Nat} (h : AnyN C N l (l.length - k) (List.replicate k true ++ List.replicate (l.length - k) false) σ w Q) : AnyW C N l B k σ w Q := by
  intro a Q' R hq
  refine wpAny_monoQ ?_ _ _ _ _ (h a R)
  intro e a w he
  cases e with
  | normal => obtain ⟨σ', R', q⟩ := he; exact hq _ _ _ R' q
  | _ => exact he.elim
end
end Go.Proofs.YtgaabaohkpjllaaDoor.X
