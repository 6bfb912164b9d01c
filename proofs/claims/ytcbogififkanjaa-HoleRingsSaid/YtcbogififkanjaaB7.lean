/- Plain laws on rights (no program in sight): weakened keys, fewer rights, keys that give no more; conditions: rights from 0 to 7. -/
import Derived.Test.YtcbogififkanjaaA7d
namespace Go.Proofs.Ytcbogififkanjaa.X
open Go
set_option linter.unusedSimpArgs false
theorem K.valid_iff (k : K) : k.valid = 0 ↔ ¬ (k.kind < 0 ∨ k.kind > 14) ∧ ¬ (k.id < 0 ∨ k.id ≥ many k.kind ∨ k.ver < 0 ∨ k.ver > (if many k.kind > 1 then 1048575 else 0) ∨ k.rights < 0 ∨ k.rights > (if k.has = true then 7 else 0) ∨ k.data > (if k.kind = 1 then 4294967295 else if k.kind = 2 then 4 else if k.kind = 5 ∨ k.kind = 6 then 536870911 else 0)) := by
  unfold K.valid
  by_cases h : k.kind < 0 ∨ k.kind > 14
  · rw [if_pos h]; exact ⟨fun e => (by cases e), fun e => absurd h e.1⟩
  · rw [if_neg h]
    by_cases h2 : k.id < 0 ∨ k.id ≥ many k.kind ∨ k.ver < 0 ∨ k.ver > (if many k.kind > 1 then 1048575 else 0) ∨ k.rights < 0 ∨ k.rights > (if k.has = true then 7 else 0) ∨ k.data > (if k.kind = 1 then 4294967295 else if k.kind = 2 then 4 else if k.kind = 5 ∨ k.kind = 6 then 536870911 else 0)
    · rw [if_pos h2]; exact ⟨fun e => (by cases e), fun e => absurd h2 e.2⟩
    · rw [if_neg h2]; exact ⟨fun _ => ⟨h, h2⟩, fun _ => rfl⟩
theorem K.valid_rights {k : K} (h : k.valid = 0) : 0 ≤ k.rights ∧ k.rights ≤ 7 ∧ (k.has = false → k.rights = 0) := by
  have h2 := ((K.valid_iff k).1 h).2
  by_cases hh : k.has = true
  · simp [hh] at h2; refine ⟨by omega, by omega, by simp [hh]⟩
  · simp [hh] at h2; refine ⟨by omega, by omega, fun _ => by omega⟩
theorem eight {r : Int} (h : 0 ≤ r ∧ r ≤ 7) : r = 0 ∨ r = 1 ∨ r = 2 ∨ r = 3 ∨ r = 4 ∨ r = 5 ∨ r = 6 ∨ r = 7 := by omega
theorem or5 {r : Int} (h : 0 ≤ r ∧ r ≤ 7) : bits .or .i64 (bits .or .i64 r 5) 5 = bits .or .i64 r 5 ∧ (bits .and .i64 (bits .or .i64 r 5) 5 == 0) = false ∧ bits .andNot .i64 r (bits .or .i64 r 5) = 0 ∧ 0 ≤ bits .or .i64 r 5 ∧ bits .or .i64 r 5 ≤ 7 := by
  rcases eight h with rfl | rfl | rfl | rfl | rfl | rfl | rfl | rfl <;> decide
theorem K.same_refl (k : K) : k.same k = true := (K.same_iff k k).2 rfl
theorem K.weaken_weaken {k : K} (h : k.valid = 0) : k.weaken.weaken = k.weaken := by
  obtain ⟨r0, r1, _⟩ := K.valid_rights h
  unfold K.weaken
  by_cases h1 : k.kind = 2 ∨ k.kind = 3
  · simp only [if_pos h1, (or5 ⟨r0, r1⟩).1]
  · simp only [if_neg h1]
    by_cases h2 : k.kind = 0 ∨ k.kind = 1 ∨ k.kind = 12 ∨ k.kind = 14
    · simp only [if_pos h2, if_neg h1]
    · simp only [if_neg h2]; simp [K.void]
theorem K.weaken_valid {k : K} (h : k.valid = 0) : k.weaken.valid = 0 := by
  obtain ⟨r0, r1, _⟩ := K.valid_rights h
  have h' := (K.valid_iff k).1 h
  by_cases h1 : k.kind = 2 ∨ k.kind = 3
  · have e : k.weaken = { k with rights := bits .or .i64 k.rights 5 } := by unfold K.weaken; rw [if_pos h1]
    obtain ⟨_, _, _, h5, h6⟩ := or5 ⟨r0, r1⟩
    rw [K.valid_iff, e]
    have hh : k.has = true := by unfold K.has; rcases h1 with h1 | h1 <;> simp [h1]
    have hh2 : K.has { k with rights := bits .or .i64 k.rights 5 } = true := hh
    rw [hh2]; rw [hh] at h'
    refine ⟨h'.1, ?_⟩
    have := h'.2
    simp only [if_true] at this ⊢
    simp only [not_or] at this ⊢
    omega
  · by_cases h2 : k.kind = 0 ∨ k.kind = 1 ∨ k.kind = 12 ∨ k.kind = 14
    · have e : k.weaken = k := by unfold K.weaken; rw [if_neg h1, if_pos h2]
      rw [e]; exact h
    · have e : k.weaken = .void := by unfold K.weaken; rw [if_neg h1, if_neg h2]
      rw [e, K.valid_iff]; decide
theorem K.weaken_writes {k : K} (h : k.valid = 0) : k.weaken.writes = false := by
  obtain ⟨r0, r1, _⟩ := K.valid_rights h
  unfold K.writes
  by_cases h1 : k.kind = 2 ∨ k.kind = 3
  · have e : k.weaken = { k with rights := bits .or .i64 k.rights 5 } := by unfold K.weaken; rw [if_pos h1]
    rw [e]; simp only [(or5 ⟨r0, r1⟩).2.1, Bool.and_false]
  · by_cases h2 : k.kind = 0 ∨ k.kind = 1 ∨ k.kind = 12 ∨ k.kind = 14
    · have e : k.weaken = k := by unfold K.weaken; rw [if_neg h1, if_pos h2]
      rw [e]; simp [K.has]; omega
    · have e : k.weaken = .void := by unfold K.weaken; rw [if_neg h1, if_neg h2]
      rw [e]; decide
theorem andNot_self (r : Int) : bits .andNot .i64 r r = 0 := by
  have e : bits .andNot .i64 r r = IntKind.wrap .i64 ((BitVec.ofInt 64 r &&& ~~~ BitVec.ofInt 64 r).toNat) := rfl
  rw [e, BitVec.and_not_self]; rfl
theorem K.weaken_within {k : K} (h : k.valid = 0) : (k.weaken.same .void || k.weaken.within k) = true := by
  obtain ⟨r0, r1, _⟩ := K.valid_rights h
  by_cases h1 : k.kind = 2 ∨ k.kind = 3
  · have e : k.weaken = { k with rights := bits .or .i64 k.rights 5 } := by unfold K.weaken; rw [if_pos h1]
    rw [Bool.or_eq_true]; right
    rw [e]; unfold K.within
    rw [(or5 ⟨r0, r1⟩).2.2.1, K.same_refl]; rfl
  · by_cases h2 : k.kind = 0 ∨ k.kind = 1 ∨ k.kind = 12 ∨ k.kind = 14
    · have e : k.weaken = k := by unfold K.weaken; rw [if_neg h1, if_pos h2]
      rw [e, Bool.or_eq_true]; right
      unfold K.within; rw [andNot_self, K.same_refl]; rfl
    · have e : k.weaken = .void := by unfold K.weaken; rw [if_neg h1, if_neg h2]
      rw [e, K.same_refl]; rfl
theorem K.through4 (k : K) : k.through 4 = k.weaken := by unfold K.through; rw [if_pos (by decide)]
theorem K.through1 (k : K) : k.through 1 = k := by unfold K.through; rw [if_neg (by decide)]
end Go.Proofs.Ytcbogififkanjaa.X
