/- The plain law of factories in a ring; conditions: none. -/
import Derived.Test.YtcbogififkanjaaH19c
namespace Go.Proofs.Ytcbogififkanjaa.X
open Go Go.Proofs
set_option linter.unusedSimpArgs false
set_option linter.unusedVariables false
def numK : K := ⟨1, 0, 0, 0, 0⟩
def consK : K := ⟨13, 0, 0, 0, 0⟩
def pageK : K := ⟨3, 0, 0, 5, 0⟩
def judgeK : K := ⟨12, 0, 0, 0, 0⟩
theorem sens_cons : K.sensory consK = false := by simp [consK, K.sensory, K.weaken, K.same, K.void]
theorem sens_page : K.sensory pageK = true := by decide
/-- What factory j of a ring of N has; w: what was done to the one at k (1 a console, 2 opened, 3 another version, 4 what is sensory). -/
def ringParts (N k w j : Nat) : List K := [numK, mkK ((j + 1) % N) 3] ++ (if j = k then (if w = 1 then [consK] else if w = 4 then [pageK, judgeK] else []) else [])
structure RingOk (N k w : Nat) (fs : List Fac) : Prop where
  len : fs.length = N
  ids : ∀ j (h : j < fs.length), fs[j].id = j
  ver : ∀ j (h : j < fs.length), fs[j].ver = if j = k ∧ w = 3 then 4 else 3
  sl : ∀ j (h : j < fs.length), fs[j].sealed = !(decide (j = k) && decide (w = 2))
  parts : ∀ j (h : j < fs.length), fs[j].parts = ringParts N k w j
section
variable {N k w : Nat} {fs : List Fac}
theorem RingOk.named (h : RingOk N k w fs) {j : Nat} (hj : j < N) : namedF fs (mkK j 3) = if j = k ∧ (w = 2 ∨ w = 3) then none else some j := by
  have hj' : j < fs.length := by rw [h.len]; exact hj
  unfold namedF
  rw [if_pos (show (mkK j 3).kind = 9 from rfl)]
  have hnm : ∀ i (hi : i < fs.length), (mkK j 3).names fs[i] = (decide (i = j) && !(decide (i = k) && decide (w = 3))) := fun i hi => by
    unfold K.names mkK
    rw [h.ids i hi, h.ver i hi]
    by_cases e : i = j
    · subst e
      by_cases e2 : i = k
      · by_cases e3 : w = 3
        · simp [e2, e3]
        · simp [e2, e3]
      · simp [e2]
    · have : ¬ ((i : Int) = (j : Int)) := by omega
      simp [e, this]
  by_cases h3 : j = k ∧ w = 3
  · have e : fs.findIdx? (mkK j 3).names = none := by
      rw [List.findIdx?_eq_none_iff]
      intro x hx
      obtain ⟨i, hi, rfl⟩ := List.mem_iff_getElem.1 hx
      rw [hnm i hi]
      by_cases e : i = j
      · subst e; simp [h3.1, h3.2]
      · simp [e]
    rw [e, if_pos ⟨h3.1, .inr h3.2⟩]
  · have e : fs.findIdx? (mkK j 3).names = some j := by
      rw [List.findIdx?_eq_some_iff_getElem]
      refine ⟨hj', ?_, fun i hi => ?_⟩
      · rw [hnm j hj']
        by_cases e2 : j = k
        · have : ¬ w = 3 := fun e3 => h3 ⟨e2, e3⟩
          simp [this]
        · simp [e2]
      · rw [hnm i (by omega), decide_eq_false (by omega)]; simp
    rw [e]
    have hd : fs.getD j ⟨0, 0, false, none, 0, []⟩ = fs[j] := by simp [hj']
    simp only [hd]
    rw [h.sl j hj']
    by_cases e2 : j = k
    · by_cases e3 : w = 2
      · have hc : j = k ∧ (w = 2 ∨ w = 3) := ⟨e2, .inl e3⟩
        rw [if_pos hc]; simp [e2, e3]
      · have e4 : ¬ (j = k ∧ (w = 2 ∨ w = 3)) := fun ⟨_, e5⟩ => by rcases e5 with e5 | e5; exact e3 e5; exact h3 ⟨e2, e5⟩
        rw [if_neg e4]; simp [e3]
    · have e4 : ¬ (j = k ∧ (w = 2 ∨ w = 3)) := fun ⟨e5, _⟩ => e2 e5
      rw [if_neg e4]; simp [e2]
theorem RingOk.partsD (h : RingOk N k w fs) {j : Nat} (hj : j < N) : (fs.getD j ⟨0, 0, false, none, 0, []⟩).parts = ringParts N k w j := by
  have hj' : j < fs.length := by rw [h.len]; exact hj
  rw [show fs.getD j ⟨0, 0, false, none, 0, []⟩ = fs[j] by simp [hj']]
  exact h.parts j hj'
/-- What is bad in one comes to all. -/
theorem RingOk.bad (h : RingOk N k w fs) (hk : k < N) (hw : w = 1 ∨ w = 2 ∨ w = 3) : ∀ d j : Nat, j < N → (j + d) % N = k → HoleP fs (mkK j 3) := by
  intro d
  induction d with
  | zero =>
    intro j hj e
    have e : j = k := by rw [Nat.add_zero, Nat.mod_eq_of_lt hj] at e; exact e
    subst e
    have hn := h.named hj
    by_cases h23 : w = 2 ∨ w = 3
    · rw [if_pos ⟨rfl, h23⟩] at hn
      exact .out (sens_mk _ _) hn
    · have h1 : w = 1 := by omega
      rw [if_neg (fun h => h23 h.2)] at hn
      refine .via (x := consK) (sens_mk _ _) hn (by rw [h.partsD hj]; simp [ringParts, h1]) (.out sens_cons ?_)
      unfold namedF; rw [if_neg (by decide)]
  | succ d ih =>
    intro j hj e
    by_cases hjk : j = k ∧ (w = 2 ∨ w = 3)
    · have hn := h.named hj
      rw [if_pos hjk] at hn
      exact .out (sens_mk _ _) hn
    · have hn := h.named hj
      rw [if_neg hjk] at hn
      refine .via (x := mkK ((j + 1) % N) 3) (sens_mk _ _) hn (by rw [h.partsD hj]; simp [ringParts]) (ih _ (Nat.mod_lt _ (by omega)) ?_)
      rw [Nat.mod_add_mod, ← e]; congr 1; omega
theorem RingOk.good (h : RingOk N k w fs) (hw : ¬ (w = 1 ∨ w = 2 ∨ w = 3)) : ∀ {x : K}, HoleP fs x → ∀ j : Nat, x = mkK j 3 → j < N → False := by
  intro x hx
  induction hx with
  | out hs hn =>
    intro j e hj
    subst e
    rw [h.named hj, if_neg (fun h => by omega)] at hn
    cases hn
  | @via x y i hs hn hy hh ih =>
    intro j e hj
    subst e
    rw [h.named hj, if_neg (fun h => by omega)] at hn
    have e2 := Option.some.inj hn
    subst e2
    rw [h.partsD hj] at hy
    have hd := hh.dull
    simp only [ringParts, List.mem_append, List.mem_cons, List.not_mem_nil, or_false] at hy
    rcases hy with (rfl | rfl) | hy
    · rw [show K.sensory numK = true from sens_num] at hd; cases hd
    · exact ih _ rfl (Nat.mod_lt _ (by omega))
    · split at hy
      · rw [if_neg (by omega)] at hy
        split at hy
        · simp only [List.mem_cons, List.not_mem_nil, or_false] at hy
          rcases hy with rfl | rfl
          · rw [sens_page] at hd; cases hd
          · rw [show K.sensory judgeK = true from sens_judge] at hd; cases hd
        · cases hy
      · cases hy
theorem RingOk.of (h : RingOk N k w fs) (hk : k < N) {j : Nat} (hj : j < N) : ((ringParts N k w j).filter (isHole fs)).length = 0 ↔ ¬ (w = 1 ∨ w = 2 ∨ w = 3) := by
  have hnx : (j + 1) % N < N := Nat.mod_lt _ (by omega)
  constructor
  · intro hl hw
    have hm : mkK ((j + 1) % N) 3 ∈ (ringParts N k w j).filter (isHole fs) := by
      rw [List.mem_filter]
      refine ⟨by simp [ringParts], isHole_iff.2 (h.bad hk hw ((N - (j + 1) % N) + k) _ hnx ?_)⟩
      rw [show (j + 1) % N + (N - (j + 1) % N + k) = k + N by omega, Nat.add_mod_right, Nat.mod_eq_of_lt hk]
    rw [List.length_eq_zero_iff.1 hl] at hm
    cases hm
  · intro hw
    rw [List.length_eq_zero_iff, List.filter_eq_nil_iff]
    intro x hx
    rw [Bool.not_eq_true]
    simp only [ringParts, List.mem_append, List.mem_cons, List.not_mem_nil, or_false] at hx
    rcases hx with (rfl | rfl) | hx
    · exact isHole_sens sens_num
    · cases e : isHole fs (mkK ((j + 1) % N) 3) with
      | false => rfl
      | true => exact absurd (h.good hw (isHole_iff.1 e) _ rfl hnx) id
    · split at hx
      · rw [if_neg (by omega)] at hx
        split at hx
        · simp only [List.mem_cons, List.not_mem_nil, or_false] at hx
          rcases hx with rfl | rfl
          · exact isHole_sens sens_page
          · exact isHole_sens sens_judge
        · cases hx
      · cases hx
end
end Go.Proofs.Ytcbogififkanjaa.X
