/- The engine of this seat's proofs: one of many parts of memory, set apart; conditions: none. -/
import Derived.Test.YtbmfpkpcljihgaaDoorX28
namespace Go.Proofs.YtbmfpkpcljihgaaDoor.X
open Go
set_option linter.unusedSimpArgs false
set_option linter.unusedVariables false
section
variable {z w : World} {As : List HP} {N i : Nat} {f : Nat → HP} {Y : HP}
theorem permIdx {α : Type} : ∀ (l : List α) (i : Nat) (hi : i < l.length), (l[i] :: l.eraseIdx i).Perm l
  | a :: l, 0, _ => .refl _
  | a :: l, i + 1, hi => (List.Perm.swap a (l[i]'(by simpa using hi)) (l.eraseIdx i)).trans ((permIdx l i (by simpa using hi)).cons a)
theorem stars_at {l : List HP} (hi : i < l.length) : stars l = stars (l[i] :: l.eraseIdx i) :=
  stars_perm (permIdx l i hi).symm
theorem Sat.eqv {A B : HP} (H : Sat z w (A :: As)) (h : A = B) : Sat z w (B :: As) := h ▸ H
theorem Sat.focusAt (hi : i < N) (H : Sat z w (stars (X.mk N f) :: As)) : Sat z w (f i :: stars ((X.mk N f).eraseIdx i) :: As) := by
  have hl : i < (X.mk N f).length := by rw [mk_length]; exact hi
  have e := stars_at hl
  rw [mk_get] at e
  exact (H.eqv e).split
theorem Sat.unfocusAt (hi : i < N) (H : Sat z w (Y :: stars ((X.mk N f).eraseIdx i) :: As)) : Sat z w (stars (X.mk N fun j => if j = i then Y else f j) :: As) := by
  have hl : i < (X.mk N fun j => if j = i then Y else f j).length := by rw [mk_length]; exact hi
  have e := stars_at hl
  rw [mk_get, if_pos rfl, ← mk_set, List.eraseIdx_set_eq, mk_set] at e
  exact H.join.eqv e.symm
theorem Sat.unfocusId (hi : i < N) (H : Sat z w (f i :: stars ((X.mk N f).eraseIdx i) :: As)) : Sat z w (stars (X.mk N f) :: As) := by
  have hl : i < (X.mk N f).length := by rw [mk_length]; exact hi
  have e := stars_at hl
  rw [mk_get] at e
  exact H.join.eqv e.symm
end
end Go.Proofs.YtbmfpkpcljihgaaDoor.X
