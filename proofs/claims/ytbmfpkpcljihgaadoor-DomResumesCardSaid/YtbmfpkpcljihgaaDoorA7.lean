/- Contracts of the functions on rights and keys (chapter 7 and its reference); conditions: none. -/
import Derived.Test.YtbmfpkpcljihgaaDoorX6
--AUTODROP
namespace Go.Proofs.YtbmfpkpcljihgaaDoor.X
open Go Go.Proofs
set_option linter.unusedSimpArgs false
set_option linter.unusedVariables false
attribute [local irreducible] CW OpsW RetW Spec blk snap
structure K where
  kind : Int
  id : Int
  ver : Int
  rights : Int
  data : Int
abbrev K.l (k : K) : List Value := [.int .i64 k.kind, .int .i64 k.id, .int .i64 k.ver, .int .i64 k.rights, .int .u32 k.data]
abbrev K.v (k : K) : Value := .agg #[.int .i64 k.kind, .int .i64 k.id, .int .i64 k.ver, .int .i64 k.rights, .int .u32 k.data]
def K.void : K := ⟨0, 0, 0, 0, 0⟩
def K.same (a b : K) : Bool := a.kind == b.kind && (a.id == b.id && (a.ver == b.ver && (a.rights == b.rights && a.data == b.data)))
theorem K.same_iff (a b : K) : a.same b = true ↔ a = b := by
  cases a; cases b; simp [K.same]
def K.has (k : K) : Bool := k.kind == 2 || k.kind == 3
section
variable (z w : World) (As : List HP) (H : Sat z w As)
include H
theorem sameKey (a b : K) : Spec cf 23 #[a.v, b.v] w fun e w' => e = .bool (a.same b) ∧ Sat z w' As := by
  refine enter (l := [a.v, b.v]) Tryd.func23 rfl rfl rfl rfl rfl ?_
  repeat' (first | (refine zA ?_; first | refine zB ?_ | refine zC H ?_ | refine zD H ?_ | refine zE H fun _ _ H => ?_ | refine zF H fun _ _ H => ?_ | refine zG H fun _ H => ?_ | refine zH H fun _ H => ?_ | (refine OpsW.gs rfl rfl rfl (fun h => ?_) (fun h => ?_); fail_if_success (with_reducible have h2 : true = true := h); fail_if_success (with_reducible have h2 : false = true := h))) | (refine zI ?_; first | refine zJ ?_ | refine zK ?_ | refine zL ?_ | refine zM ?_ | refine zN ?_ | refine zO ?_ | refine zP ?_ | refine zQ ?_ | refine zR ?_ | (refine CW.cond rfl (fun h => ?_) (fun h => ?_))) | refine zS ?_)
  all_goals
    refine ret1 rfl ⟨?_, by (first | exact H | exact H.drop | exact H.d2 | exact H.d3 | exact H.d4 | exact H.d5 | exact H.d6 | exact H.d7)⟩
    clear H
    simp_all [K.same]
end
end Go.Proofs.YtbmfpkpcljihgaaDoor.X
