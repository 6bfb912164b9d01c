/- The plain law of the document's search for holes: a row of keys that are yet to be looked at; conditions: none. -/
import Derived.Test.YtdbnkimegdogjaaH19
namespace Go.Proofs.Ytdbnkimegdogjaa.X
open Go Go.Proofs
set_option linter.unusedSimpArgs false
set_option linter.unusedVariables false
abbrev Fac.z : Fac := ⟨0, 0, false, none, 0, []⟩
/-- How far the document's search has come. -/
structure Srch (fs : List Fac) (B : Nat) (k : K) (i : Nat) (todo : List K) (seen : List Bool) : Prop where
  ln : seen.length = fs.length
  ub : i ≤ todo.length
  k0 : k ∈ todo
  iv : ∀ x ∈ todo, HoleP fs x → HoleP fs k
  dn : ∀ j (hj : j < todo.length), j < i → doneK fs seen todo[j]
  pr : ∀ j, seen.getD j false = true → ∀ x ∈ (fs.getD j Fac.z).parts, x ∈ todo
  lb : todo.length + seen.count false * B ≤ 1 + fs.length * B
theorem Srch.start {fs : List Fac} {B : Nat} (k : K) : Srch fs B k 0 [k] (List.replicate fs.length false) where
  ln := by simp
  ub := Nat.zero_le _
  k0 := by simp
  iv := fun x hx h => by
    obtain rfl : x = k := by simpa using hx
    exact h
  dn := fun j _ h => absurd h (Nat.not_lt_zero j)
  pr := fun j h => by
    simp [List.getD_eq_getElem?_getD, List.getElem?_replicate] at h
    split at h <;> simp at h
  lb := by simp
section
variable {fs : List Fac} {B i : Nat} {k : K} {todo : List K} {seen : List Bool}
theorem Srch.skip (h : Srch fs B k i todo seen) (hi : i < todo.length) (hd : doneK fs seen todo[i]) : Srch fs B k (i + 1) todo seen where
  ln := h.ln
  ub := hi
  k0 := h.k0
  iv := h.iv
  dn := fun j hj hji => by
    by_cases e : j = i
    · subst e; exact hd
    · exact h.dn j hj (by omega)
  pr := h.pr
  lb := h.lb
theorem Srch.out (h : Srch fs B k i todo seen) (hi : i < todo.length) (hs : todo[i].sensory = false) (hn : namedF fs todo[i] = none) : isHole fs k = true :=
  isHole_iff.2 (h.iv _ (List.getElem_mem hi) (.out hs hn))
theorem set_getD {seen : List Bool} {j a : Nat} (hj : j < seen.length) : (seen.set j true).getD a false = if a = j then true else seen.getD a false := by
  rw [List.getD_eq_getElem?_getD, List.getElem?_set]
  by_cases e : j = a
  · subst e; simp [hj]
  · simp [e, show ¬ a = j from fun h => e h.symm]
theorem Srch.more (h : Srch fs B k i todo seen) (hi : i < todo.length) (hs : todo[i].sensory = false) {j : Nat} (hn : namedF fs todo[i] = some j) (hf : seen.getD j false = false) (hB : (fs.getD j Fac.z).parts.length ≤ B) :
    Srch fs B k (i + 1) (todo ++ (fs.getD j Fac.z).parts) (seen.set j true) := by
  have hj : j < seen.length := by rw [h.ln]; exact namedF_lt hn
  have hcs := count_set_lt hj hf
  have hm : monoM seen (seen.set j true) := fun a ha => by
    rw [set_getD hj]
    split
    · rfl
    · exact ha
  exact {
    ln := by rw [List.length_set]; exact h.ln
    ub := by rw [List.length_append]; omega
    k0 := List.mem_append_left _ h.k0
    iv := fun x hx hp => by
      rcases List.mem_append.1 hx with hx | hx
      · exact h.iv x hx hp
      · exact h.iv _ (List.getElem_mem hi) (.via hs hn hx hp)
    dn := fun a ha hai => by
      by_cases e : a = i
      · subst e
        rw [List.getElem_append_left hi]
        exact .inr ⟨j, hn, by rw [set_getD hj, if_pos rfl]⟩
      · have ha2 : a < todo.length := by omega
        rw [List.getElem_append_left ha2]
        exact (h.dn a ha2 (by omega)).mono hm
    pr := fun a ha x hx => by
      rw [set_getD hj] at ha
      by_cases e : a = j
      · subst e; exact List.mem_append_right _ hx
      · rw [if_neg e] at ha
        exact List.mem_append_left _ (h.pr a ha x hx)
    lb := by
      have h1 := h.lb
      have h2 : seen.count false * B = (seen.set j true).count false * B + B := by rw [← hcs, Nat.succ_mul]
      rw [List.length_append]; omega }
theorem Srch.none (h : Srch fs B k i todo seen) (hi : i = todo.length) : isHole fs k = false := by
  cases e : isHole fs k with
  | false => rfl
  | true =>
    exfalso
    have hp := isHole_iff.1 e
    have hclosed : ∀ x, HoleP fs x → x ∈ todo → False := by
      intro x hx
      induction hx with
      | out hs hn =>
        intro hm
        obtain ⟨a, ha, rfl⟩ := List.mem_iff_getElem.1 hm
        rcases h.dn a ha (by omega) with h1 | ⟨j, h1, _⟩
        · rw [hs] at h1; cases h1
        · rw [hn] at h1; cases h1
      | via hs hn hx _ ih =>
        intro hm
        obtain ⟨a, ha, rfl⟩ := List.mem_iff_getElem.1 hm
        rcases h.dn a ha (by omega) with h1 | ⟨j, h1, h2⟩
        · rw [hs] at h1; cases h1
        · rw [hn] at h1; cases h1
          exact ih (h.pr _ h2 _ hx)
    exact hclosed k hp h.k0
end
end Go.Proofs.Ytdbnkimegdogjaa.X
