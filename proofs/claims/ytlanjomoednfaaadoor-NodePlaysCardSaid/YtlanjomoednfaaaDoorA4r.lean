/- What the laws that play keep beside an arena: truths and numbers by places; conditions: none. -/
import Derived.Test.YtlanjomoednfaaaDoorA4q
namespace Go.Proofs.YtlanjomoednfaaaDoor.X
open Go Go.Proofs
set_option linter.unusedSimpArgs false
set_option linter.unusedVariables false
def lvc (N : Nat) (lv : Nat → Bool) : List Value := (mk N lv).map Value.bool
section
variable {N : Nat}
theorem lvc_get {lv : Nat → Bool} {k : Nat} (h : k < N) : (lvc N lv)[0 + k * 1]? = some (.bool (lv k)) := by rw [Nat.zero_add, Nat.mul_one, lvc, mk_map, mk_get? h]
theorem lvc_set {lv : Nat → Bool} {k : Nat} {b : Bool} : (lvc N lv).set (0 + k * 1) (.bool b) = lvc N fun j => if j = k then b else lv j := by
  rw [Nat.zero_add, Nat.mul_one, lvc, lvc, mk_map, mk_map, mk_set]
  exact mk_congr fun j _ => by by_cases e : j = k <;> simp [e]
theorem lvc_len {lv : Nat → Bool} : (lvc N lv).length = N := by rw [lvc, List.length_map, mk_length]
end
/-- Places that are taken or not, with versions, none gone. -/
def pls (lv : Nat → Bool) (vr : Nat → Nat) (j : Nat) : Pl := ⟨lv j, (vr j : Int), false⟩
theorem pls_take {lv : Nat → Bool} {vr : Nat → Nat} {q : Nat} : (fun j => if j = q then (pls lv vr q).take else pls lv vr j) = pls (fun j => if j = q then true else lv j) vr := by
  funext j
  by_cases e : j = q
  · subst e; simp [pls, Pl.take]
  · simp [pls, e]
theorem pls_give {lv : Nat → Bool} {vr : Nat → Nat} {q : Nat} (h : vr q ≤ 1000) : (fun j => if j = q then (pls lv vr q).give else pls lv vr j) = pls (fun j => if j = q then false else lv j) fun j => if j = q then vr q + 1 else vr j := by
  funext j
  by_cases e : j = q
  · subst e
    simp only [pls, if_true]
    rw [Pl.give, if_neg (show ¬ ((vr j : Int) = 1048575) by omega)]
    show (⟨false, IntKind.wrap .i64 ((vr j : Int) + 1), false⟩ : Pl) = _
    rw [wrap64_id (by omega) (by omega)]; rfl
  · simp [pls, e]
theorem pls_free {lv : Nat → Bool} {vr : Nat → Nat} {j : Nat} : (pls lv vr j).free = !lv j := by simp [pls, Pl.free]
theorem onN_pls {N : Nat} {lv : Nat → Bool} {vr : Nat → Nat} {k : Nat} (h : k < N) : onN N (pls lv vr) k = lv k := onN_nat h
theorem onN_bad {N : Nat} {f : Nat → Pl} {id : Int} (h : ¬ (0 ≤ id ∧ id < N)) : onN N f id = false := by
  by_cases h1 : 0 ≤ id
  · exact onN_out (by omega)
  · exact onN_neg (by omega)
/-- The least place that is free, or so many as there are. -/
theorem least_of (lv : Nat → Bool) (N : Nat) : ∃ Q, Q ≤ N ∧ (∀ j, j < Q → lv j = true) ∧ (Q < N → lv Q = false) := by
  rcases least (fun j => !lv j) N with ⟨q, h1, h2, h3⟩ | h
  · exact ⟨q, by omega, fun j hj => by simpa using h3 j hj, fun _ => by simpa using h2⟩
  · exact ⟨N, Nat.le_refl _, fun j hj => by simpa using h j hj, fun h => absurd h (Nat.lt_irrefl _)⟩
end Go.Proofs.YtlanjomoednfaaaDoor.X
