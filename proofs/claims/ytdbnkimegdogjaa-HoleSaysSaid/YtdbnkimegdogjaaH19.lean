/- The plain law of holes: what the search answers is that a hole is come to; conditions: none. -/
import Derived.Test.YtdbnkimegdogjaaA19s
namespace Go.Proofs.Ytdbnkimegdogjaa.X
open Go Go.Proofs
set_option linter.unusedSimpArgs false
set_option linter.unusedVariables false
inductive HoleP (fs : List Fac) : K → Prop
  | out {k : K} (hs : k.sensory = false) (hn : namedF fs k = none) : HoleP fs k
  | via {k x : K} {i : Nat} (hs : k.sensory = false) (hn : namedF fs k = some i) (hx : x ∈ (fs.getD i ⟨0, 0, false, none, 0, []⟩).parts) (h : HoleP fs x) : HoleP fs k
def doneK (fs : List Fac) (m : List Bool) (k : K) : Prop := k.sensory = true ∨ ∃ i, namedF fs k = some i ∧ m.getD i false = true
def monoM (m m' : List Bool) : Prop := ∀ j : Nat, m.getD j false = true → m'.getD j false = true
def newM (fs : List Fac) (m m' : List Bool) : Prop := ∀ j : Nat, m'.getD j false = true → m.getD j false = true ∨ ∀ x ∈ (fs.getD j ⟨0, 0, false, none, 0, []⟩).parts, doneK fs m' x
theorem doneK.mono {fs : List Fac} {m m' : List Bool} {k : K} (h : doneK fs m k) (hm : monoM m m') : doneK fs m' k := by
  rcases h with h | ⟨i, h1, h2⟩
  · exact .inl h
  · exact .inr ⟨i, h1, hm i h2⟩
theorem newM.trans {fs : List Fac} {a b c : List Bool} (h1 : newM fs a b) (h2 : newM fs b c) (hm : monoM b c) : newM fs a c := by
  intro j hj
  rcases h2 j hj with h | h
  · rcases h1 j h with h | h
    · exact .inl h
    · exact .inr fun x hx => (h x hx).mono hm
  · exact .inr h
theorem anyS_true {S : Type} {step : S → K → Bool × S} : ∀ (l : List K) (s : S), (anyS step s l).1 = true → ∃ x ∈ l, ∃ s', (step s' x).1 = true := by
  intro l
  induction l with
  | nil => intro s h; cases h
  | cons x l ih =>
    intro s h
    rw [anyS] at h
    split at h
    · rename_i h1; exact ⟨x, List.mem_cons_self, s, h1⟩
    · obtain ⟨y, hy, s', h2⟩ := ih _ h
      exact ⟨y, List.mem_cons_of_mem _ hy, s', h2⟩
theorem anyS_false {fs : List Fac} {step : List Bool → K → Bool × List Bool} {I : List Bool → Prop} (hI : ∀ s x, I s → I (step s x).2)
    (hs : ∀ s x, I s → (step s x).1 = false → monoM s (step s x).2 ∧ doneK fs (step s x).2 x ∧ newM fs s (step s x).2) : ∀ (l : List K) (s : List Bool), I s → (anyS step s l).1 = false →
    monoM s (anyS step s l).2 ∧ (∀ x ∈ l, doneK fs (anyS step s l).2 x) ∧ newM fs s (anyS step s l).2 := by
  intro l
  induction l with
  | nil => intro s _ _; exact ⟨fun j h => h, by simp, fun j h => .inl h⟩
  | cons x l ih =>
    intro s his h
    rw [anyS] at h ⊢
    split at h
    · cases h
    · rename_i h1
      rw [if_neg h1]
      obtain ⟨a1, a2, a3⟩ := hs s x his (by simpa using h1)
      obtain ⟨b1, b2, b3⟩ := ih _ (hI s x his) h
      refine ⟨fun j hj => b1 j (a1 j hj), fun y hy => ?_, a3.trans b3 b1⟩
      rcases List.mem_cons.1 hy with rfl | hy
      · exact a2.mono b1
      · exact b2 y hy
theorem reach_true {fs : List Fac} : ∀ (n : Nat) (k : K) (met : List Bool), (reach fs n k met).1 = true → HoleP fs k := by
  intro n
  induction n with
  | zero => intro k met h; cases h
  | succ n ih =>
    intro k met h
    rw [reach] at h
    split at h
    · cases h
    · rename_i hs
      have hs : k.sensory = false := by simpa using hs
      cases e : namedF fs k with
      | none => exact .out hs e
      | some i =>
        rw [e] at h
        simp only at h
        split at h
        · cases h
        · obtain ⟨x, hx, s', h2⟩ := anyS_true _ _ h
          exact .via hs e hx (ih x s' h2)
theorem reach_false {fs : List Fac} : ∀ (n : Nat) (k : K) (met : List Bool), met.count false < n → met.length = fs.length → (reach fs n k met).1 = false →
    monoM met (reach fs n k met).2 ∧ doneK fs (reach fs n k met).2 k ∧ newM fs met (reach fs n k met).2 := by
  intro n
  induction n with
  | zero => intro k met h; omega
  | succ n ih =>
    intro k met hc hm h
    rw [reach] at h ⊢
    split at h
    · rename_i hs
      rw [if_pos hs]
      exact ⟨fun j h => h, .inl hs, fun j h => .inl h⟩
    · rename_i hs
      rw [if_neg hs]
      cases e : namedF fs k with
      | none => rw [e] at h; cases h
      | some i =>
        rw [e] at h
        simp only at h ⊢
        split at h
        · rename_i hb
          rw [if_pos hb]
          exact ⟨fun j h => h, .inr ⟨i, e, hb⟩, fun j h => .inl h⟩
        · rename_i hb
          rw [if_neg hb]
          have hi := namedF_lt e
          have hb : met.getD i false = false := by simpa using hb
          have hcs := count_set_lt (met := met) (i := i) (by omega) hb
          obtain ⟨b1, b2, b3⟩ := anyS_false (fs := fs) (I := fun s => s.count false < n ∧ s.length = fs.length) (fun s x hs => by
            have := reach_met fs n x s
            exact ⟨Nat.lt_of_le_of_lt this.2 hs.1, this.1.trans hs.2⟩) (fun s x hs h1 => ih x s hs.1 hs.2 h1) _ (met.set i true) ⟨by omega, by rw [List.length_set, hm]⟩ h
          have hset : ∀ j, (met.set i true).getD j false = if j = i then true else met.getD j false := fun j => by
            rw [List.getD_eq_getElem?_getD, List.getElem?_set]
            by_cases e : i = j
            · subst e; simp [show i < met.length by omega]
            · simp [e, show ¬ j = i from fun h => e h.symm]
          refine ⟨fun j hj => b1 j ?_, .inr ⟨i, e, b1 i ?_⟩, fun j hj => ?_⟩
          · rw [hset]; split
            · rfl
            · exact hj
          · rw [hset, if_pos rfl]
          · rcases b3 j hj with h1 | h1
            · rw [hset] at h1
              split at h1
              · rename_i e2; subst e2; exact .inr b2
              · exact .inl h1
            · exact .inr h1
theorem isHole_iff {fs : List Fac} {k : K} : isHole fs k = true ↔ HoleP fs k := by
  refine ⟨reach_true _ _ _, fun h => ?_⟩
  cases e : isHole fs k with
  | true => rfl
  | false =>
    exfalso
    obtain ⟨_, h2, h3⟩ := reach_false (fs := fs) (fs.length + 1) k (List.replicate fs.length false) (by simp) (by simp) e
    generalize (reach fs (fs.length + 1) k (List.replicate fs.length false)).2 = m at *
    have hclosed : ∀ k, HoleP fs k → ¬ doneK fs m k := by
      intro k hk
      induction hk with
      | out hs hn =>
        rintro (h | ⟨i, h1, _⟩)
        · rw [hs] at h; cases h
        · rw [hn] at h1; cases h1
      | via hs hn hx _ ih =>
        rintro (h | ⟨i', h1, h2⟩)
        · rw [hs] at h; cases h
        · rw [hn] at h1; cases h1
          rcases h3 _ h2 with h | h
          · simp [List.getD_eq_getElem?_getD, List.getElem?_replicate] at h
            split at h <;> simp at h
          · exact ih (h _ hx)
    exact hclosed k h h2
end Go.Proofs.Ytdbnkimegdogjaa.X
