/- Plain laws on rights that are ordered (no program in sight); conditions: rights from 0 to 7. -/
import Derived.Test.YtcbogififkanjaaB7
namespace Go.Proofs.Ytcbogififkanjaa.X
open Go
set_option linter.unusedSimpArgs false
set_option linter.unusedVariables false
/-- The key with other rights. -/
def K.R (k : K) (p : Int) : K := { k with rights := p }
def sub8 (p q : Int) : Bool := bits .andNot .i64 q p == 0
theorem K.within_R (k : K) (p q : Int) : (k.R p).within (k.R q) = sub8 p q := by
  have e : K.within (k.R p) (k.R q) = (K.same (k.R q) (k.R q) && bits .andNot .i64 q p == 0) := rfl
  rw [e, K.same_refl, Bool.true_and]; rfl
theorem K.same_R (k : K) (p q : Int) : (k.R p).same (k.R q) = (p == q) := by
  simp [K.same, K.R]
theorem K.R_self (k : K) : k.R k.rights = k := rfl
theorem all8 {P : Int → Prop} (h : ∀ i, i < 8 → P (Int.ofNat i)) (r : Int) (hr : 0 ≤ r ∧ r ≤ 7) : P r := by
  obtain ⟨n, rfl⟩ := Int.eq_ofNat_of_zero_le hr.1
  exact h n (by omega)
theorem sub8_trans (p q r : Int) (hp : 0 ≤ p ∧ p ≤ 7) (hq : 0 ≤ q ∧ q ≤ 7) (hr : 0 ≤ r ∧ r ≤ 7) (h1 : sub8 p q = true) (h2 : sub8 q r = true) : sub8 p r = true := by
  have D : ∀ i, i < 8 → ∀ j, j < 8 → ∀ k, k < 8 → sub8 (Int.ofNat i) (Int.ofNat j) = true → sub8 (Int.ofNat j) (Int.ofNat k) = true → sub8 (Int.ofNat i) (Int.ofNat k) = true := by decide +kernel
  obtain ⟨i, rfl⟩ := Int.eq_ofNat_of_zero_le hp.1
  obtain ⟨j, rfl⟩ := Int.eq_ofNat_of_zero_le hq.1
  obtain ⟨k, rfl⟩ := Int.eq_ofNat_of_zero_le hr.1
  exact D i (by omega) j (by omega) k (by omega) h1 h2
theorem sub8_both (p q : Int) (hp : 0 ≤ p ∧ p ≤ 7) (hq : 0 ≤ q ∧ q ≤ 7) : (sub8 p q && sub8 q p) = (p == q) := by
  have D : ∀ i, i < 8 → ∀ j, j < 8 → (sub8 (Int.ofNat i) (Int.ofNat j) && sub8 (Int.ofNat j) (Int.ofNat i)) = (Int.ofNat i == Int.ofNat j) := by decide +kernel
  obtain ⟨i, rfl⟩ := Int.eq_ofNat_of_zero_le hp.1
  obtain ⟨j, rfl⟩ := Int.eq_ofNat_of_zero_le hq.1
  exact D i (by omega) j (by omega)
theorem sub8_self (p : Int) : sub8 p p = true := by unfold sub8; rw [andNot_self]; rfl
theorem and_two_pow' (x i : Nat) : x &&& 2 ^ i = (x.testBit i).toNat * 2 ^ i := by
  apply Nat.eq_of_testBit_eq
  intro j
  rw [Nat.testBit_and, Nat.testBit_two_pow]
  cases h : x.testBit i
  · by_cases e : i = j
    · subst e; simp [h]
    · simp [e]
  · by_cases e : i = j
    · subst e; simp [h, Nat.testBit_two_pow]
    · simp [e, Nat.testBit_two_pow]
theorem and_bit (a : Int) (i : Nat) (hi : i < 64) : ∃ b : Bool, bits .and .i64 a (Int.ofNat (2 ^ i)) = IntKind.wrap .i64 ((b.toNat * 2 ^ i : Nat) : Int) := by
  refine ⟨(BitVec.ofInt 64 a).toNat.testBit i, ?_⟩
  rw [bits_and_def]
  have h2 : (2 : Nat) ^ i < 2 ^ 64 := Nat.pow_lt_pow_right (by decide) hi
  have e : (BitVec.ofInt 64 (Int.ofNat (2 ^ i))).toNat = 2 ^ i := by
    rw [show BitVec.ofInt 64 (Int.ofNat (2 ^ i)) = BitVec.ofNat 64 (2 ^ i) from BitVec.ofInt_natCast ..]
    rw [BitVec.toNat_ofNat, Nat.mod_eq_of_lt h2]
  rw [BitVec.toNat_and, e, and_two_pow']
theorem and1 (a : Int) : bits .and .i64 a 1 = 0 ∨ bits .and .i64 a 1 = 1 := by
  obtain ⟨b, h⟩ := and_bit a 0 (by decide)
  have h : bits .and .i64 a 1 = _ := h
  rw [h]; cases b
  · left; decide
  · right; decide
theorem and2 (a : Int) : bits .and .i64 a 2 = 0 ∨ bits .and .i64 a 2 = 2 := by
  obtain ⟨b, h⟩ := and_bit a 1 (by decide)
  have h : bits .and .i64 a 2 = _ := h
  rw [h]; cases b
  · left; decide
  · right; decide
theorem and4 (a : Int) : bits .and .i64 a 4 = 0 ∨ bits .and .i64 a 4 = 4 := by
  obtain ⟨b, h⟩ := and_bit a 2 (by decide)
  have h : bits .and .i64 a 4 = _ := h
  rw [h]; cases b
  · left; decide
  · right; decide
theorem less8 (r : Int) (hr : 0 ≤ r ∧ r ≤ 7) (x : Int) : 0 ≤ (if x = 1 ∨ x = 2 ∨ x = 4 then bits .or .i64 r x else r) ∧ (if x = 1 ∨ x = 2 ∨ x = 4 then bits .or .i64 r x else r) ≤ 7 ∧ sub8 (if x = 1 ∨ x = 2 ∨ x = 4 then bits .or .i64 r x else r) r = true := by
  split
  · rename_i h
    have D : ∀ i, i < 8 → ∀ j, j < 8 → 0 ≤ bits .or .i64 (Int.ofNat i) (Int.ofNat j) ∧ bits .or .i64 (Int.ofNat i) (Int.ofNat j) ≤ 7 ∧ sub8 (bits .or .i64 (Int.ofNat i) (Int.ofNat j)) (Int.ofNat i) = true := by decide +kernel
    obtain ⟨i, rfl⟩ := Int.eq_ofNat_of_zero_le hr.1
    obtain ⟨j, rfl⟩ := Int.eq_ofNat_of_zero_le (show 0 ≤ x by omega)
    exact D i (by omega) j (by omega)
  · exact ⟨hr.1, hr.2, sub8_self r⟩
theorem lessR8 (l : List Int) : ∀ r : Int, 0 ≤ r ∧ r ≤ 7 → (0 ≤ lessR r l ∧ lessR r l ≤ 7) ∧ sub8 (lessR r l) r = true := by
  induction l with
  | nil => intro r hr; exact ⟨hr, sub8_self r⟩
  | cons x l ih =>
    intro r hr
    obtain ⟨h1, h2, h3⟩ := less8 r hr x
    obtain ⟨h4, h5⟩ := ih _ ⟨h1, h2⟩
    exact ⟨h4, sub8_trans _ _ _ h4 ⟨h1, h2⟩ hr h5 h3⟩
theorem K.less_R {k : K} (h : k.valid = 0) (l : List Int) : ∃ p, (0 ≤ p ∧ p ≤ 7) ∧ k.less l = k.R p ∧ sub8 p k.rights = true := by
  obtain ⟨r0, r1, _⟩ := K.valid_rights h
  unfold K.less
  split
  · obtain ⟨h1, h2⟩ := lessR8 l k.rights ⟨r0, r1⟩
    exact ⟨_, h1, rfl, h2⟩
  · exact ⟨k.rights, ⟨r0, r1⟩, rfl, sub8_self _⟩
end Go.Proofs.Ytcbogififkanjaa.X
