/- More contracts of chapter 5 (page): a copy, the same words; conditions: none. -/
import Derived.Test.YtgaabaohkpjllaaDoorA5
import Derived.Test.YtgaabaohkpjllaaDoorSM
--AUTODROP
namespace Go.Proofs.YtgaabaohkpjllaaDoor.X
open Go Go.Proofs
set_option linter.unusedSimpArgs false
set_option linter.unusedVariables false
theorem pgs_scal {N : Nat} {pg : Nat → Nat → Int} : (pgs N pg).all scal = true := by
  rw [List.all_eq_true]; intro x hx
  obtain ⟨p, _, hp⟩ := List.mem_flatMap.1 hx
  obtain ⟨y, _, rfl⟩ := List.mem_map.1 hp; rfl
theorem slr_pgs {As : List HP} {b : Nat} {E : TypeId} {N j : Nat} {pg : Nat → Nat → Int} (hj : j < N) (rest : List Value) : SlR (blk b E (pgs N pg ++ rest) :: As) (.slice (some ⟨b, 0 + j * 32, none⟩) 32 32) 1 32 (wds (pg j)) := by
  refine ⟨wds_len _, _, _, rfl, Nat.le_refl _, .inr ⟨b, 0 + j * 32, _, E, _, rfl, Has.head, fun i hi => ?_⟩⟩
  have := pgs_get (pg := pg) (i := i) hj (by omega)
  rw [List.getElem?_toArray, List.getElem?_append_left (by rw [pgs_len]; omega), ← Nat.mul_one i, this, Nat.mul_one, wds_get (by omega)]
theorem slr_pgsA {As : List HP} {b : Nat} {E : TypeId} {N cap : Nat} {pg : Nat → Nat → Int} (rest : List Value) (hc : N ≤ cap) : SlR (blk b E (pgs N pg ++ rest) :: As) (.slice (some ⟨b, 0, none⟩) N cap) 32 N (pgs N pg) :=
  SlR.of_blk pgs_len hc
attribute [local irreducible] CW OpsW RetW Spec blk snap DrawP AnyW AnyM AnyN bits IntKind.wrap vec arena wds pgs
section
variable {z w : World} {Rs As : List HP} {bp ba b N cap : Nat} {f : Nat → Pl} {pg : Nat → Nat → Int} {rest : List Value}
/-- The words of a page, none if it is not there. -/
def wl (N : Nat) (f : Nat → Pl) (pg : Nat → Nat → Int) (id : Int) : List Int := if onN N f id then mk 32 (pg id.toNat) else []
theorem wl_len (N : Nat) (f : Nat → Pl) (pg : Nat → Nat → Int) (id : Int) : (wl N f pg id).length ≤ 32 := by
  unfold wl; split
  · rw [mk_length]; exact Nat.le_refl _
  · simp
end
end Go.Proofs.YtgaabaohkpjllaaDoor.X
