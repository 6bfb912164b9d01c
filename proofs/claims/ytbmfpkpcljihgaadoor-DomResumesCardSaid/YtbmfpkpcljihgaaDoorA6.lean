/- Contracts of chapter 6 (node); conditions: none. -/
import Derived.Test.YtbmfpkpcljihgaaDoorA4q
import Derived.Test.YtbmfpkpcljihgaaDoorAK
import Derived.Test.YtbmfpkpcljihgaaDoorGC
--AUTODROP
namespace Go.Proofs.YtbmfpkpcljihgaaDoor.X
open Go Go.Proofs
set_option linter.unusedSimpArgs false
set_option linter.unusedVariables false
attribute [local irreducible] CW OpsW RetW Spec blk snap DrawP AnyW AnyM AnyN bits IntKind.wrap vec arena
theorem Kl_len (k : K) : k.l.length = 5 := rfl
/-- The keys of a node, laid. -/
def kds (p : Nat → K) : List Value := (mk 16 p).flatMap K.l
theorem kds_len (p : Nat → K) : (kds p).length = 80 := by rw [kds, fl_length K.l 5 Kl_len, mk_length]
theorem kl_scal (l : List K) : (l.flatMap K.l).all scal = true := by
  rw [List.all_eq_true]; intro x hx
  obtain ⟨k, _, hk⟩ := List.mem_flatMap.1 hx
  simp only [K.l, List.mem_cons, List.not_mem_nil, or_false] at hk
  rcases hk with rfl | rfl | rfl | rfl | rfl <;> rfl
theorem kds_scal (p : Nat → K) : (kds p).all scal = true := kl_scal _
section
variable {N : Nat} {nd : Nat → Nat → K} {rest : List Value}
end
attribute [local irreducible] kds
/-- What is amiss first with keys. -/
def fitE (l : List K) : Nat := match l.find? fun k => k.err != 0 with
  | some k => k.err
  | none => 0
section
variable {z w : World} {Rs : List HP} {bp ba b N : Nat} {f : Nat → Pl} {nd : Nat → Nat → K}
end
end Go.Proofs.YtbmfpkpcljihgaaDoor.X
