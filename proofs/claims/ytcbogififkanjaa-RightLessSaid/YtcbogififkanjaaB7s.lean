/- Plain laws: what the chapter says of rights that are taken, and of keys that give no more; conditions: rights from 0 to 7. -/
import Derived.Test.YtcbogififkanjaaB7o
namespace Go.Proofs.Ytcbogififkanjaa.X
open Go
set_option linter.unusedSimpArgs false
set_option linter.unusedVariables false
theorem or_assoc64 (r s x : Int) : bits .or .i64 (bits .or .i64 r s) x = bits .or .i64 r (bits .or .i64 s x) := by
  rw [bits_or_def, bits_or_def r (bits .or .i64 s x), bits_or64, bits_or64, BitVec.or_assoc]
theorem lessR_or (l : List Int) : ∀ r s, lessR (bits .or .i64 r s) l = bits .or .i64 r (lessR s l) := by
  induction l with
  | nil => intro r s; rfl
  | cons x l ih =>
    intro r s
    show lessR (if x = 1 ∨ x = 2 ∨ x = 4 then bits .or .i64 (bits .or .i64 r s) x else bits .or .i64 r s) l = bits .or .i64 r (lessR (if x = 1 ∨ x = 2 ∨ x = 4 then bits .or .i64 s x else s) l)
    by_cases h : x = 1 ∨ x = 2 ∨ x = 4
    · rw [if_pos h, if_pos h, or_assoc64]; exact ih _ _
    · rw [if_neg h, if_neg h]; exact ih _ _
theorem or8_0 (p : Int) (hp : 0 ≤ p ∧ p ≤ 7) : bits .or .i64 p 0 = p := by
  have D : ∀ i, i < 8 → bits .or .i64 (Int.ofNat i) 0 = Int.ofNat i := by decide +kernel
  obtain ⟨i, rfl⟩ := Int.eq_ofNat_of_zero_le hp.1
  exact D i (by omega)
theorem and8_7 (p : Int) (hp : 0 ≤ p ∧ p ≤ 7) : bits .and .i64 p 7 = p := by
  have D : ∀ i, i < 8 → bits .and .i64 (Int.ofNat i) 7 = Int.ofNat i := by decide +kernel
  obtain ⟨i, rfl⟩ := Int.eq_ofNat_of_zero_le hp.1
  exact D i (by omega)
theorem K.lessB_eq {k : K} (h : k.valid = 0) (l : List Int) : k.lessB (lessR 0 l) = k.less l := by
  obtain ⟨r0, r1, _⟩ := K.valid_rights h
  unfold K.lessB K.less
  split
  · have h1 := (lessR8 l 0 ⟨by decide, by decide⟩).1
    rw [and8_7 _ h1, ← lessR_or, or8_0 _ ⟨r0, r1⟩]
  · rfl
theorem and8_sub (p q : Int) (hp : 0 ≤ p ∧ p ≤ 7) (hq : 0 ≤ q ∧ q ≤ 7) : (bits .and .i64 p q == q) = (bits .andNot .i64 q p == 0) := by
  have D : ∀ i, i < 8 → ∀ j, j < 8 → (bits .and .i64 (Int.ofNat i) (Int.ofNat j) == Int.ofNat j) = (bits .andNot .i64 (Int.ofNat j) (Int.ofNat i) == 0) := by decide +kernel
  obtain ⟨i, rfl⟩ := Int.eq_ofNat_of_zero_le hp.1
  obtain ⟨j, rfl⟩ := Int.eq_ofNat_of_zero_le hq.1
  exact D i (by omega) j (by omega)
theorem K.within_eq {a b : K} (ha : a.valid = 0) (hb : b.valid = 0) : (bits .and .i64 a.rights b.rights == b.rights && K.same ⟨a.kind, a.id, a.ver, 0, a.data⟩ ⟨b.kind, b.id, b.ver, 0, b.data⟩) = a.within b := by
  obtain ⟨a0, a1, _⟩ := K.valid_rights ha
  obtain ⟨b0, b1, _⟩ := K.valid_rights hb
  unfold K.within
  rw [and8_sub _ _ ⟨a0, a1⟩ ⟨b0, b1⟩, Bool.and_comm]
  congr 1
  simp [K.same]
end Go.Proofs.Ytcbogififkanjaa.X
