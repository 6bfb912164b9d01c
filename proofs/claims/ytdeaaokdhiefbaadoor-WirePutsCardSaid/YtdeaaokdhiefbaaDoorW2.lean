/- What the operations on bits come to, for numbers as bytes; conditions: none. -/
import Derived.Test.YtdeaaokdhiefbaaDoorW1
namespace Go.Proofs.YtdeaaokdhiefbaaDoor.X
open Go
set_option linter.unusedSimpArgs false
set_option linter.unusedVariables false
theorem ofInt_nat (w n : Nat) : (BitVec.ofInt w (n : Int)).toNat = n % 2 ^ w := by
  rw [BitVec.toNat_ofInt]
  have : ((n : Int) % ((2 ^ w : Nat) : Int)) = ((n % 2 ^ w : Nat) : Int) := by omega
  rw [this]; rfl
theorem or8 : ∀ x : Fin 256, (x.val ||| 128) = x.val % 128 + 128 := by decide +kernel
theorem and8 : ∀ x : Fin 256, (BitVec.ofNat 8 x.val &&& ~~~ (BitVec.ofNat 8 128)).toNat = x.val % 128 := by decide +kernel
theorem bit_or8 (z : Nat) : bits .or .u8 (IntKind.wrap .u8 z) 128 = ((z % 128 + 128 : Nat) : Int) := by
  have e : bits .or .u8 (IntKind.wrap .u8 z) 128 = IntKind.wrap .u8 ((BitVec.ofInt 8 (IntKind.wrap .u8 z) ||| BitVec.ofInt 8 ((128 : Nat) : Int)).toNat) := rfl
  rw [e, wrapu8 z, show (z : Int) % 256 = ((z % 256 : Nat) : Int) by omega, BitVec.toNat_or, ofInt_nat, ofInt_nat]
  rw [show z % 256 % 2 ^ 8 = z % 256 by omega, show 128 % 2 ^ 8 = 128 by decide]
  have := or8 ⟨z % 256, by omega⟩
  dsimp only at this
  rw [this, wrapu8]
  omega
theorem bit_and7 (z : Nat) (h : z < 18446744073709551616) : bits .and .u64 z 127 = ((z % 128 : Nat) : Int) := by
  have e : bits .and .u64 z 127 = IntKind.wrap .u64 ((BitVec.ofInt 64 (z : Int) &&& BitVec.ofInt 64 ((127 : Nat) : Int)).toNat) := rfl
  rw [e, BitVec.toNat_and, ofInt_nat, ofInt_nat, show z % 2 ^ 64 = z by omega, show 127 % 2 ^ 64 = 2 ^ 7 - 1 by decide, Nat.and_two_pow_sub_one_eq_mod, wrapu64]
  omega
theorem bit_or64 (z : Nat) (h : z < 128) : bits .or .u64 z 128 = ((z + 128 : Nat) : Int) := by
  have e : bits .or .u64 z 128 = IntKind.wrap .u64 ((BitVec.ofInt 64 (z : Int) ||| BitVec.ofInt 64 ((128 : Nat) : Int)).toNat) := rfl
  rw [e, BitVec.toNat_or, ofInt_nat, ofInt_nat, show z % 2 ^ 64 = z by omega, show 128 % 2 ^ 64 = 128 by decide]
  have := or8 ⟨z, by omega⟩
  dsimp only at this
  rw [this, wrapu64]
  omega
theorem bit_or8m (c : Int) (h0 : 0 ≤ c) (h : c < 128) : bits .or .u8 c 128 = c + 128 := by
  obtain ⟨z, rfl⟩ := Int.eq_ofNat_of_zero_le h0
  have := bit_or8 z
  rw [wrapu8, show (z : Int) % 256 = z by omega] at this
  rw [this]; omega
theorem fdiv7 (z : Nat) : (z : Int).fdiv (2 ^ min (7 : Int).toNat (IntKind.bits .u64)) = ((z / 128 : Nat) : Int) := by
  rw [show (2 : Int) ^ min (7 : Int).toNat (IntKind.bits .u64) = 128 by decide, Int.fdiv_eq_ediv_of_nonneg _ (by decide)]
  omega
theorem bit_xor_ones (x : Nat) (hx : x < 18446744073709551616) : (BitVec.ofNat 64 x ^^^ BitVec.allOnes 64).toNat = 18446744073709551615 - x := by
  rw [BitVec.xor_allOnes, BitVec.toNat_not, BitVec.toNat_ofNat]
  omega
theorem zig_bits (n : Int) (h1 : -9223372036854775808 ≤ n) (h2 : n ≤ 9223372036854775807) :
    bits .xor .u64 (IntKind.wrap .u64 (IntKind.wrap .u64 n * 2 ^ min (1 : Int).toNat (IntKind.bits .u64))) (IntKind.wrap .u64 (n.fdiv (2 ^ min (63 : Int).toNat (IntKind.bits .i64)))) = (zig n : Int) := by
  rw [show (2 : Int) ^ min (1 : Int).toNat (IntKind.bits .u64) = 2 by decide, show (2 : Int) ^ min (63 : Int).toNat (IntKind.bits .i64) = 9223372036854775808 by decide, Int.fdiv_eq_ediv_of_nonneg _ (by decide)]
  have e : ∀ a b : Int, bits .xor .u64 a b = IntKind.wrap .u64 ((BitVec.ofInt 64 a ^^^ BitVec.ofInt 64 b).toNat) := fun a b => rfl
  rw [e]
  by_cases h : 0 ≤ n
  · obtain ⟨m, rfl⟩ := Int.eq_ofNat_of_zero_le h
    rw [wrapu64 (m : Int), wrapu64 ((m : Int) / _), wrapu64 (_ * 2)]
    rw [show (m : Int) / 9223372036854775808 % 18446744073709551616 = ((0 : Nat) : Int) by omega, show (m : Int) % 18446744073709551616 * 2 % 18446744073709551616 = ((2 * m : Nat) : Int) by omega]
    rw [BitVec.toNat_xor, ofInt_nat, ofInt_nat, Nat.zero_mod, Nat.xor_zero, wrapu64]
    unfold zig
    rw [if_pos h]
    omega
  · have hz : zig n = (-2 * n - 1).toNat := by unfold zig; rw [if_neg h]
    rw [hz, wrapu64 n, wrapu64 (n / _), wrapu64 (_ * 2)]
    rw [show n / 9223372036854775808 % 18446744073709551616 = 18446744073709551615 by omega]
    obtain ⟨x, hx⟩ := Int.eq_ofNat_of_zero_le (Int.emod_nonneg (n % 18446744073709551616 * 2) (b := 18446744073709551616) (by decide))
    have hx2 : x < 18446744073709551616 := by omega
    rw [hx]
    have e1 : BitVec.ofInt 64 (x : Int) = BitVec.ofNat 64 x := BitVec.ofInt_natCast 64 x
    have e2 : BitVec.ofInt 64 18446744073709551615 = BitVec.allOnes 64 := by decide
    rw [e1, e2, bit_xor_ones x hx2, wrapu64]
    omega
theorem not_bits (x : Nat) (hx : x < 18446744073709551616) : bits .xor .u64 18446744073709551615 x = ((18446744073709551615 - x : Nat) : Int) := by
  have e : bits .xor .u64 18446744073709551615 x = IntKind.wrap .u64 ((BitVec.ofInt 64 18446744073709551615 ^^^ BitVec.ofInt 64 (x : Int)).toNat) := rfl
  have e1 : BitVec.ofInt 64 (x : Int) = BitVec.ofNat 64 x := BitVec.ofInt_natCast 64 x
  have e2 : BitVec.ofInt 64 18446744073709551615 = BitVec.allOnes 64 := by decide
  rw [e, e1, e2, BitVec.xor_comm, bit_xor_ones x hx, wrapu64]
  omega
theorem wrapi64 (n : Int) : IntKind.wrap .i64 n = if n % 18446744073709551616 ≥ 9223372036854775808 then n % 18446744073709551616 - 18446744073709551616 else n % 18446744073709551616 := by
  simp [IntKind.wrap, IntKind.bits, IntKind.signed]
theorem unz_bits (z : Nat) (h : z < 18446744073709551616) :
    bits .xor .i64 (IntKind.wrap .i64 ((z : Int).fdiv (2 ^ min (1 : Int).toNat (IntKind.bits .u64)))) (IntKind.wrap .i64 (-(IntKind.wrap .i64 (bits .and .u64 z 1)))) = unz z := by
  rw [show (2 : Int) ^ min (1 : Int).toNat (IntKind.bits .u64) = 2 by decide, Int.fdiv_eq_ediv_of_nonneg _ (by decide)]
  have ea : bits .and .u64 z 1 = ((z % 2 : Nat) : Int) := by
    have e : bits .and .u64 z 1 = IntKind.wrap .u64 ((BitVec.ofInt 64 (z : Int) &&& BitVec.ofInt 64 ((1 : Nat) : Int)).toNat) := rfl
    rw [e, BitVec.toNat_and, ofInt_nat, ofInt_nat, show z % 2 ^ 64 = z by omega, show 1 % 2 ^ 64 = 2 ^ 1 - 1 by decide, Nat.and_two_pow_sub_one_eq_mod, wrapu64]
    omega
  have e : ∀ a b : Int, bits .xor .i64 a b = IntKind.wrap .i64 ((BitVec.ofInt 64 a ^^^ BitVec.ofInt 64 b).toNat) := fun a b => rfl
  rw [ea, e, wrap64_id (n := ((z % 2 : Nat) : Int)) (by omega) (by omega), wrap64_id (n := (z : Int) / 2) (by omega) (by omega), wrap64_id (n := -((z % 2 : Nat) : Int)) (by omega) (by omega)]
  rw [show (z : Int) / 2 = ((z / 2 : Nat) : Int) by omega]
  unfold unz
  by_cases h2 : z % 2 = 0
  · rw [if_pos h2, h2, show -((0 : Nat) : Int) = ((0 : Nat) : Int) by decide, BitVec.toNat_xor, ofInt_nat, ofInt_nat, Nat.zero_mod, Nat.xor_zero, wrapi64]
    split <;> omega
  · rw [if_neg h2, show z % 2 = 1 by omega]
    have e1 : BitVec.ofInt 64 ((z / 2 : Nat) : Int) = BitVec.ofNat 64 (z / 2) := BitVec.ofInt_natCast 64 _
    have e2 : BitVec.ofInt 64 (-((1 : Nat) : Int)) = BitVec.allOnes 64 := by decide
    rw [e1, e2, bit_xor_ones _ (by omega), wrapi64]
    split <;> omega
/-- One byte more. -/
theorem add_bits (z i : Nat) (c : Int) (hz : z < 2 ^ (7 * i)) (hi : i ≤ 9) (h9 : i = 9 → c ≤ 1) (h0 : 0 ≤ c) (hc : c < 256) :
    bits .or .u64 z (IntKind.wrap .u64 (IntKind.wrap .u64 (bits .andNot .u8 c 128) * 2 ^ min (IntKind.wrap .i64 (7 * (i : Int))).toNat (IntKind.bits .u64))) = ((z + (c.toNat % 128) * 2 ^ (7 * i) : Nat) : Int) := by
  obtain ⟨c, rfl⟩ := Int.eq_ofNat_of_zero_le h0
  have ec : bits .andNot .u8 c 128 = ((c % 128 : Nat) : Int) := by
    have e : bits .andNot .u8 c 128 = IntKind.wrap .u8 ((BitVec.ofInt 8 (c : Int) &&& ~~~ (BitVec.ofInt 8 128)).toNat) := rfl
    have e1 : BitVec.ofInt 8 (c : Int) = BitVec.ofNat 8 c := BitVec.ofInt_natCast 8 c
    have e2 : BitVec.ofInt 8 128 = BitVec.ofNat 8 128 := by decide
    have := and8 ⟨c, by omega⟩
    dsimp only at this
    rw [e, e1, e2, this, wrapu8]
    omega
  rw [ec, wrap64_id (n := 7 * (i : Int)) (by omega) (by omega), show (7 * (i : Int)).toNat = 7 * i by omega, show min (7 * i) (IntKind.bits .u64) = 7 * i by show min (7 * i) 64 = 7 * i; omega]
  rw [show ((c : Int)).toNat = c from rfl]
  have hp : (c % 128) * 2 ^ (7 * i) + z < 18446744073709551616 := by
    by_cases e : i = 9
    · subst e
      have := h9 rfl
      have h3 : (2 : Nat) ^ (7 * 9) = 9223372036854775808 := by decide
      have : c % 128 ≤ 1 := by omega
      rw [h3] at hz ⊢
      have := Nat.mul_le_mul_right 9223372036854775808 this
      omega
    · have h3 : (2 : Nat) ^ (7 * i) ≤ 2 ^ 56 := Nat.pow_le_pow_right (by decide) (by omega)
      have h4 : (2 : Nat) ^ 56 = 72057594037927936 := by decide
      have : c % 128 ≤ 127 := by omega
      have := Nat.mul_le_mul this h3
      omega
  rw [wrapu64 ((c % 128 : Nat) : Int), show ((c % 128 : Nat) : Int) % 18446744073709551616 = ((c % 128 : Nat) : Int) by omega]
  rw [show ((c % 128 : Nat) : Int) * 2 ^ (7 * i) = (((c % 128) * 2 ^ (7 * i) : Nat) : Int) by rw [Int.natCast_mul, Int.natCast_pow]; rfl]
  generalize hq : (c % 128) * 2 ^ (7 * i) = q at *
  rw [wrapu64 (q : Int), show (q : Int) % 18446744073709551616 = (q : Int) by omega]
  have e : bits .or .u64 z q = IntKind.wrap .u64 ((BitVec.ofInt 64 (z : Int) ||| BitVec.ofInt 64 (q : Int)).toNat) := rfl
  rw [e, BitVec.toNat_or, ofInt_nat, ofInt_nat, show z % 2 ^ 64 = z by omega, show q % 2 ^ 64 = q by omega]
  have hor : z ||| q = q + z := by
    rw [Nat.or_comm, ← hq, ← Nat.shiftLeft_eq, ← Nat.shiftLeft_add_eq_or_of_lt hz]
  rw [hor, wrapu64]
  omega
end Go.Proofs.YtdeaaokdhiefbaaDoor.X
