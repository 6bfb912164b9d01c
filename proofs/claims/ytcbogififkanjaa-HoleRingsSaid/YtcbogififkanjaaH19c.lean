/- The plain law of factories in a chain; conditions: none. -/
import Derived.Test.YtcbogififkanjaaA19t
namespace Go.Proofs.Ytcbogififkanjaa.X
open Go Go.Proofs
set_option linter.unusedSimpArgs false
set_option linter.unusedVariables false
def mkK (j : Nat) (v : Int) : K := ⟨9, j, v, 0, 0⟩
def bankK : K := ⟨8, 0, 0, 0, 0⟩
theorem sens_void : K.sensory ⟨0, 0, 0, 0, 0⟩ = true := by simp [K.sensory, K.weaken, K.same]
theorem sens_num : K.sensory ⟨1, 0, 0, 0, 0⟩ = true := by simp [K.sensory, K.weaken, K.same]
theorem sens_judge : K.sensory ⟨12, 0, 0, 0, 0⟩ = true := by simp [K.sensory, K.weaken, K.same]
theorem sens_clock : K.sensory ⟨14, 0, 0, 0, 0⟩ = true := by simp [K.sensory, K.weaken, K.same]
theorem sens_mk (j : Nat) (v : Int) : K.sensory (mkK j v) = false := by simp [mkK, K.sensory, K.weaken, K.same, K.void]
theorem sens_bank : K.sensory bankK = false := by simp [bankK, K.sensory, K.weaken, K.same, K.void]
theorem HoleP.dull {fs : List Fac} {k : K} (h : HoleP fs k) : k.sensory = false := by cases h <;> assumption
theorem isHole_sens {fs : List Fac} {k : K} (h : k.sensory = true) : isHole fs k = false := by
  cases e : isHole fs k with
  | false => rfl
  | true => have := (isHole_iff.1 e).dull; rw [h] at this; cases this
theorem isHole_other {fs : List Fac} {k : K} (h : k.sensory = false) (h9 : k.kind ≠ 9) : isHole fs k = true :=
  isHole_iff.2 (.out h (by unfold namedF; rw [if_neg h9]))
/-- Factories whose numbers are their places, of one version. -/
def Placed (fs : List Fac) (v : Int) : Prop := ∀ j (h : j < fs.length), fs[j].id = j ∧ fs[j].ver = v
theorem placed_named {fs : List Fac} {v : Int} (h : Placed fs v) {j : Nat} (hj : j < fs.length) : namedF fs (mkK j v) = if fs[j].sealed then some j else none := by
  unfold namedF
  rw [if_pos (show (mkK j v).kind = 9 from rfl)]
  have e : fs.findIdx? (mkK j v).names = some j := by
    rw [List.findIdx?_eq_some_iff_getElem]
    refine ⟨hj, ?_, fun i hi => ?_⟩
    · obtain ⟨h1, h2⟩ := h j hj
      unfold K.names mkK
      rw [h1, h2]; simp
    · obtain ⟨h1, h2⟩ := h i (by omega)
      unfold K.names mkK
      rw [h1]
      simp only [Bool.and_eq_true, beq_iff_eq, not_and]
      intro e; omega
  rw [e]
  have hd : fs.getD j ⟨0, 0, false, none, 0, []⟩ = fs[j] := by simp [hj]
  simp only [hd]
abbrev newF (i : Nat) (sv : Bool) (pa : Option Addr) (pc : Nat) (ps : List K) : Fac := ⟨i, 0, sv, pa, pc, ps⟩
def baseC : List K := [⟨0, 0, 0, 0, 0⟩, ⟨14, 0, 0, 0, 0⟩]
def chainP1 (N j : Nat) : List K := baseC ++ (if j + 1 < N then [mkK (j + 1) 0] else [])
theorem chainP1_len (N j : Nat) : (chainP1 N j).length ≤ 3 := by unfold chainP1 baseC; split <;> simp
def chainParts (N at_ j : Nat) : List K := [⟨0, 0, 0, 0, 0⟩, ⟨14, 0, 0, 0, 0⟩] ++ (if j + 1 < N then [mkK (j + 1) 0] else []) ++ (if j = at_ then [bankK] else [])
structure ChainP (N at_ : Nat) (op : Bool) (fs : List Fac) : Prop where
  pl : Placed fs 0
  sl : ∀ j (h : j < fs.length), fs[j].sealed = !(op && decide (j = at_))
  parts : ∀ j (h : j < fs.length), fs[j].parts = chainParts N at_ j
theorem ChainP.nil {N at_ : Nat} {op : Bool} : ChainP N at_ op [] := ⟨fun j h => (by cases h), fun j h => (by cases h), fun j h => (by cases h)⟩
theorem get_snoc {fs : List Fac} {f : Fac} {j : Nat} (h : j < (fs ++ [f]).length) : (∃ h' : j < fs.length, (fs ++ [f])[j] = fs[j]) ∨ j = fs.length ∧ (fs ++ [f])[j] = f := by
  by_cases hj : j < fs.length
  · exact .inl ⟨hj, List.getElem_append_left hj⟩
  · have e : j = fs.length := by simp at h; omega
    subst e
    exact .inr ⟨rfl, by simp⟩
theorem ChainP.snoc {N at_ : Nat} {op : Bool} {fs : List Fac} {f : Fac} (h : ChainP N at_ op fs) (h1 : f.id = fs.length) (h2 : f.ver = 0) (h3 : f.sealed = !(op && decide (fs.length = at_))) (h4 : f.parts = chainParts N at_ fs.length) : ChainP N at_ op (fs ++ [f]) := by
  refine ⟨fun j hj => ?_, fun j hj => ?_, fun j hj => ?_⟩ <;> rcases get_snoc hj with ⟨h', e⟩ | ⟨rfl, e⟩ <;> rw [e]
  · exact h.pl j h'
  · exact ⟨h1, h2⟩
  · exact h.sl j h'
  · exact h3
  · exact h.parts j h'
  · exact h4
structure ChainOk (N at_ : Nat) (op : Bool) (fs : List Fac) : Prop where
  len : fs.length = N
  pl : Placed fs 0
  sl : ∀ j (h : j < fs.length), fs[j].sealed = !(op && decide (j = at_))
  parts : ∀ j (h : j < fs.length), fs[j].parts = chainParts N at_ j
section
variable {N at_ : Nat} {op : Bool} {fs : List Fac}
theorem ChainOk.named (h : ChainOk N at_ op fs) {j : Nat} (hj : j < N) : namedF fs (mkK j 0) = if (op && decide (j = at_)) then none else some j := by
  have hj' : j < fs.length := by rw [h.len]; exact hj
  rw [placed_named h.pl hj', h.sl j hj']
  cases (op && decide (j = at_)) <;> rfl
theorem ChainOk.partsD (h : ChainOk N at_ op fs) {j : Nat} (hj : j < N) : (fs.getD j ⟨0, 0, false, none, 0, []⟩).parts = chainParts N at_ j := by
  have hj' : j < fs.length := by rw [h.len]; exact hj
  rw [show fs.getD j ⟨0, 0, false, none, 0, []⟩ = fs[j] by simp [hj']]
  exact h.parts j hj'
theorem ChainOk.to (h : ChainOk N at_ op fs) (ha : at_ < N) : ∀ d j : Nat, at_ = j + d → HoleP fs (mkK j 0)
  | 0, j, e => by
    have e : j = at_ := by omega
    subst e
    have hn := h.named ha
    cases op
    · refine .via (x := bankK) (sens_mk _ _) (by rw [hn]; rfl) (by rw [h.partsD ha]; simp [chainParts]) (.out sens_bank ?_)
      unfold namedF; rw [if_neg (by decide)]
    · exact .out (sens_mk _ _) (by rw [hn]; simp)
  | d + 1, j, e => by
    have hn := h.named (j := j) (by omega)
    rw [show (op && decide (j = at_)) = false by rw [decide_eq_false (by omega)]; simp] at hn
    refine .via (x := mkK (j + 1) 0) (sens_mk _ _) (by rw [hn]; rfl) ?_ (ChainOk.to h ha d (j + 1) (by omega))
    rw [h.partsD (by omega)]
    simp [chainParts, show j + 1 < N by omega]
theorem ChainOk.from_ (h : ChainOk N at_ op fs) : ∀ {k : K}, HoleP fs k → ∀ j : Nat, k = mkK j 0 → j < N → j ≤ at_ := by
  intro k hk
  induction hk with
  | out hs hn =>
    intro j e hj
    subst e
    rw [h.named hj] at hn
    split at hn
    · rename_i hc; simp at hc; omega
    · cases hn
  | @via k x i hs hn hx hh ih =>
    intro j e hj
    subst e
    rw [h.named hj] at hn
    split at hn
    · cases hn
    · have e2 := Option.some.inj hn
      subst e2
      rw [h.partsD hj] at hx
      have hd := hh.dull
      simp only [chainParts, List.mem_append, List.mem_cons, List.not_mem_nil, or_false] at hx
      rcases hx with ((rfl | rfl) | hx) | hx
      · rw [sens_void] at hd; cases hd
      · rw [sens_clock] at hd; cases hd
      · split at hx
        · rename_i h1
          have := ih (j + 1) (by simpa using hx) h1
          omega
        · cases hx
      · split at hx
        · omega
        · cases hx
theorem ChainOk.hole (h : ChainOk N at_ op fs) (ha : at_ < N) {j : Nat} (hj : j < N) : isHole fs (mkK j 0) = decide (j ≤ at_) := by
  by_cases hja : j ≤ at_
  · rw [decide_eq_true hja]
    exact isHole_iff.2 (h.to ha (at_ - j) j (by omega))
  · rw [decide_eq_false hja]
    cases e : isHole fs (mkK j 0) with
    | false => rfl
    | true => exact absurd (h.from_ (isHole_iff.1 e) j rfl hj) hja
theorem ChainOk.of (h : ChainOk N at_ op fs) (ha : at_ < N) {j : Nat} (hj : j < N) : (chainParts N at_ j).filter (isHole fs) = if j < at_ then [mkK (j + 1) 0] else if j = at_ then [bankK] else [] := by
  have hv := isHole_sens (fs := fs) sens_void
  have hc := isHole_sens (fs := fs) sens_clock
  have hb := isHole_other (fs := fs) sens_bank (by decide)
  unfold chainParts
  rw [List.filter_append, List.filter_append, List.filter_cons, hv, List.filter_cons, hc]
  simp only [Bool.false_eq_true, if_false, List.filter_nil, List.nil_append]
  by_cases h1 : j + 1 < N
  · rw [if_pos h1, List.filter_cons, h.hole ha h1]
    by_cases h2 : j < at_
    · have h4 : decide (j + 1 ≤ at_) = true := decide_eq_true (by omega)
      have h5 : ¬ j = at_ := by omega
      rw [if_pos h2, h4, if_neg h5]; simp
    · have h4 : decide (j + 1 ≤ at_) = false := decide_eq_false (by omega)
      rw [if_neg h2, h4]
      by_cases h3 : j = at_
      · rw [if_pos h3, List.filter_cons, hb]; simp
      · rw [if_neg h3]; simp
  · have h2 : ¬ j < at_ := by omega
    rw [if_neg h1, if_neg h2]
    by_cases h3 : j = at_
    · rw [if_pos h3, List.filter_cons, hb]; simp
    · rw [if_neg h3]; simp
end
end Go.Proofs.Ytcbogififkanjaa.X
