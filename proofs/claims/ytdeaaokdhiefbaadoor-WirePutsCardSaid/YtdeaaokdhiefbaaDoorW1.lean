/- The plain laws of numbers as bytes; conditions: none. -/
import Derived.Test.YtdeaaokdhiefbaaDoorX17
namespace Go.Proofs.YtdeaaokdhiefbaaDoor.X
open Go
set_option linter.unusedSimpArgs false
set_option linter.unusedVariables false
/-- The bytes of a number: seven bits each, the lowest first. -/
def encF : Nat → Nat → List Int
  | 0, _ => []
  | f + 1, z => if z < 128 then [(z : Int)] else ((z % 128 + 128 : Nat) : Int) :: encF f (z / 128)
def enc (z : Nat) : List Int := encF 10 z
inductive Rd where
  | ok (z k : Nat)
  | eof
  | bad
/-- What is read of bytes. -/
def rd : List Int → Nat → Nat → Rd
  | [], _, _ => .eof
  | c :: r, i, z => if i = 9 ∧ c > 1 then .bad else if c ≥ 128 then rd r (i + 1) (z + (c.toNat - 128) * 2 ^ (7 * i)) else if c = 0 ∧ 0 < i then .bad else .ok (z + c.toNat * 2 ^ (7 * i)) (i + 1)
theorem encF_lt {f z : Nat} (h : z < 128) : encF (f + 1) z = [(z : Int)] := if_pos h
theorem encF_ge {f z : Nat} (h : 128 ≤ z) : encF (f + 1) z = ((z % 128 + 128 : Nat) : Int) :: encF f (z / 128) := if_neg (by omega)
theorem pow7 (i : Nat) : 2 ^ (7 * (i + 1)) = 128 * 2 ^ (7 * i) := by
  rw [Nat.mul_succ, Nat.pow_add, Nat.mul_comm]
theorem split7 (y i z : Nat) : (y / 128) * 2 ^ (7 * (i + 1)) + (z + (y % 128) * 2 ^ (7 * i)) = y * 2 ^ (7 * i) + z := by
  rw [pow7]
  have h := Nat.div_add_mod y 128
  have : y * 2 ^ (7 * i) = (128 * (y / 128) + y % 128) * 2 ^ (7 * i) := by rw [h]
  rw [this, Nat.add_mul, ← Nat.mul_assoc, Nat.mul_comm (y / 128) 128]
  omega
theorem div128 {y f : Nat} (h : y < 128 ^ (f + 1)) : y / 128 < 128 ^ f := by
  rw [Nat.div_lt_iff_lt_mul (by decide)]; rw [Nat.pow_succ] at h; exact h
theorem small9 {y z : Nat} (h : y * 2 ^ (7 * 9) + z < 2 ^ 64) : y ≤ 1 := by
  have : (2 : Nat) ^ (7 * 9) = 9223372036854775808 := by decide
  have h2 : (2 : Nat) ^ 64 = 18446744073709551616 := by decide
  omega
set_option maxRecDepth 20000 in
theorem rd_enc : ∀ (f y i z : Nat) (rest : List Int), y < 128 ^ f → i + f = 10 → (i = 0 ∨ 0 < y) → y * 2 ^ (7 * i) + z < 2 ^ 64 → 0 < f → rd (encF f y ++ rest) i z = .ok (z + y * 2 ^ (7 * i)) (i + (encF f y).length) := by
  intro f
  induction f with
  | zero => intro y i z rest _ _ _ _ h; omega
  | succ f ih =>
    intro y i z rest hy hi h0 hb _
    by_cases h : y < 128
    · rw [encF_lt h]
      have h9 : ¬ (i = 9 ∧ (y : Int) > 1) := fun ⟨e, h1⟩ => by
        subst e
        have := small9 hb; omega
      show rd ((y : Int) :: rest) i z = _
      rw [rd, if_neg h9, if_neg (by omega), if_neg (by omega)]
      rfl
    · rw [encF_ge (by omega)]
      have hf : 0 < f := by
        refine Nat.pos_of_ne_zero fun e => ?_
        subst e; simp at hy; omega
      have h9 : ¬ (i = 9 ∧ ((y % 128 + 128 : Nat) : Int) > 1) := fun ⟨e, _⟩ => by omega
      show rd (((y % 128 + 128 : Nat) : Int) :: (encF f (y / 128) ++ rest)) i z = _
      rw [rd, if_neg h9, if_pos (by omega)]
      have e : (((y % 128 + 128 : Nat) : Int).toNat - 128) = y % 128 := by omega
      have hs := split7 y i z
      rw [e, ih (y / 128) (i + 1) (z + (y % 128) * 2 ^ (7 * i)) rest (div128 hy) (by omega) (.inr (by omega)) (by rw [hs]; exact hb) hf]
      rw [List.length_cons]
      congr 1
      · omega
      · omega
theorem encF_len : ∀ (f y : Nat), 0 < f → 1 ≤ (encF f y).length ∧ (encF f y).length ≤ f := by
  intro f
  induction f with
  | zero => intro y h; omega
  | succ f ih =>
    intro y _
    by_cases h : y < 128
    · rw [encF_lt h]; simp
    · rw [encF_ge (by omega), List.length_cons]
      by_cases hf : f = 0
      · subst hf; simp [encF]
      · have := ih (y / 128) (by omega); omega
theorem encF_byte : ∀ (f y : Nat), ∀ c ∈ encF f y, 0 ≤ c ∧ c < 256 := by
  intro f
  induction f with
  | zero => intro y c h; cases h
  | succ f ih =>
    intro y c hc
    by_cases h : y < 128
    · rw [encF_lt h, List.mem_singleton] at hc; omega
    · rw [encF_ge (by omega)] at hc
      rcases List.mem_cons.1 hc with rfl | hc
      · omega
      · exact ih _ c hc
theorem rd_cut : ∀ (f y i z m : Nat), y < 128 ^ f → i + f = 10 → m < (encF f y).length → rd ((encF f y).take m) i z = .eof := by
  intro f
  induction f with
  | zero => intro y i z m _ _ h; simp [encF] at h
  | succ f ih =>
    intro y i z m hy hi hm
    cases m with
    | zero => rfl
    | succ m =>
      by_cases h : y < 128
      · rw [encF_lt h] at hm; simp at hm
      · have hf : 0 < f := by
          refine Nat.pos_of_ne_zero fun e => ?_
          subst e; simp at hy; omega
        rw [encF_ge (by omega)] at hm ⊢
        rw [List.take_succ_cons]
        rw [rd, if_neg (fun h => by omega), if_pos (by omega)]
        exact ih _ _ _ _ (div128 hy) (by omega) (by simpa using hm)
/-- The last byte marked. -/
def mrk (l : List Int) : List Int := l.set (l.length - 1) (l.getD (l.length - 1) 0 + 128)
theorem mrk_cons {a b : Int} {l : List Int} : mrk (a :: b :: l) = a :: mrk (b :: l) := by
  unfold mrk; simp
set_option maxRecDepth 20000 in
theorem rd_bad : ∀ (f y i z : Nat), y < 128 ^ f → i + f = 10 → 0 < f → rd (mrk (encF f y) ++ [0]) i z = .bad := by
  intro f
  induction f with
  | zero => intro y i z _ _ h; omega
  | succ f ih =>
    intro y i z hy hi _
    by_cases h : y < 128
    · rw [encF_lt h]
      show rd [(y : Int) + 128, 0] i z = _
      by_cases h9 : i = 9
      · rw [rd, if_pos ⟨h9, by omega⟩]
      · rw [rd, if_neg (fun h => h9 h.1), if_pos (by omega), rd, if_neg (fun h => by omega), if_neg (by omega), if_pos ⟨rfl, by omega⟩]
    · have hf : 0 < f := by
        refine Nat.pos_of_ne_zero fun e => ?_
        subst e; simp at hy; omega
      rw [encF_ge (by omega)]
      have hl := encF_len f (y / 128) hf
      have hrec := ih (y / 128) (i + 1) (z + (y % 128) * 2 ^ (7 * i)) (div128 hy) (by omega) hf
      cases hE : encF f (y / 128) with
      | nil => rw [hE] at hl; simp at hl
      | cons b l =>
        rw [hE] at hrec
        rw [mrk_cons]
        show rd (((y % 128 + 128 : Nat) : Int) :: (mrk (b :: l) ++ [0])) i z = _
        rw [rd, if_neg (fun h => by omega), if_pos (by omega)]
        rw [show (((y % 128 + 128 : Nat) : Int).toNat - 128) = y % 128 by omega]
        exact hrec
/-! ### Zigzag -/
def zig (n : Int) : Nat := if 0 ≤ n then (2 * n).toNat else (-2 * n - 1).toNat
def unz (z : Nat) : Int := if z % 2 = 0 then (z / 2 : Nat) else -((z / 2 : Nat) : Int) - 1
theorem unz_zig (n : Int) : unz (zig n) = n := by
  unfold unz zig
  by_cases h : 0 ≤ n
  · rw [if_pos h, if_pos (by omega)]; omega
  · rw [if_neg h, if_neg (by omega)]; omega
theorem zig_lt {n : Int} (h1 : -9223372036854775808 ≤ n) (h2 : n ≤ 9223372036854775807) : zig n < 18446744073709551616 := by
  unfold zig; split <;> omega
theorem zig_inj {a b : Int} (h : zig a = zig b) : a = b := by rw [← unz_zig a, ← unz_zig b, h]
theorem enc_lt {z : Nat} (h : z < 18446744073709551616) : z < 128 ^ 10 := Nat.lt_trans h (by decide)
theorem rd_ok {z : Nat} (h : z < 18446744073709551616) (rest : List Int) : rd (enc z ++ rest) 0 0 = .ok z (enc z).length := by
  have := rd_enc 10 z 0 0 rest (enc_lt h) rfl (.inl rfl) (by simpa using h) (by decide)
  simpa [enc] using this
theorem enc_len {z : Nat} : 1 ≤ (enc z).length ∧ (enc z).length ≤ 10 := encF_len 10 z (by decide)
end Go.Proofs.YtdeaaokdhiefbaaDoor.X
