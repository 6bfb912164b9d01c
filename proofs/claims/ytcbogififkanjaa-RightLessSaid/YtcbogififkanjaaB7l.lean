/- Plain laws: rights that are taken in whatever order; conditions: rights from 0 to 7. -/
import Derived.Test.YtcbogififkanjaaB7s
namespace Go.Proofs.Ytcbogififkanjaa.X
open Go
set_option linter.unusedSimpArgs false
set_option linter.unusedVariables false
def st7 (r x : Int) : Int := if x = 1 ∨ x = 2 ∨ x = 4 then bits .or .i64 r x else r
theorem or_comm64 (r s : Int) : bits .or .i64 r s = bits .or .i64 s r := by
  rw [bits_or_def, bits_or_def s r, BitVec.or_comm]
theorem st7_comm (r x y : Int) : st7 (st7 r x) y = st7 (st7 r y) x := by
  unfold st7
  split <;> split <;> try rfl
  rw [or_assoc64, or_assoc64, or_comm64 x y]
theorem st7_fold (l : List Int) : ∀ r x, st7 (l.foldl st7 r) x = l.foldl st7 (st7 r x) := by
  induction l with
  | nil => intro r x; rfl
  | cons y l ih => intro r x; rw [List.foldl_cons, List.foldl_cons, ih, st7_comm]
theorem lessR_rev (r : Int) (l : List Int) : lessR r l.reverse = lessR r l := by
  show l.reverse.foldl st7 r = l.foldl st7 r
  induction l generalizing r with
  | nil => rfl
  | cons x l ih => rw [List.reverse_cons, List.foldl_append, List.foldl_cons, List.foldl_nil, ih, st7_fold, List.foldl_cons]
theorem K.less_rev (k : K) (l : List Int) : k.less l.reverse = k.less l := by
  unfold K.less; rw [lessR_rev]
theorem K.less_other {k : K} (h : k.kind ≠ 2) (h2 : k.kind ≠ 3) (l : List Int) : k.less l = k := by
  unfold K.less; rw [if_neg]; simp [K.has, h, h2]
theorem K.less_valid {k : K} (h : k.valid = 0) (l : List Int) : (k.less l).valid = 0 := by
  obtain ⟨r0, r1, _⟩ := K.valid_rights h
  unfold K.less
  split
  · rename_i hh
    have h1 := (lessR8 l k.rights ⟨r0, r1⟩).1
    have h' := (K.valid_iff k).1 h
    have hh2 : K.has { k with rights := lessR k.rights l } = true := hh
    rw [K.valid_iff, hh2]; rw [hh] at h'
    refine ⟨h'.1, ?_⟩
    have := h'.2
    simp only [if_true] at this ⊢
    simp only [not_or] at this ⊢
    omega
  · exact h
end Go.Proofs.Ytcbogififkanjaa.X
