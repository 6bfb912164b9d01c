/- Contracts of the functions on rights and keys (chapter 7 and its reference); conditions: none. -/
import Derived.Test.YtbmfpkpcljihgaaDoorX6
--AUTODROP
namespace Go.Proofs.YtbmfpkpcljihgaaDoor.X
open Go Go.Proofs
set_option linter.unusedSimpArgs false
set_option linter.unusedVariables false
attribute [local irreducible] CW OpsW RetW Spec blk snap
structure K where
  kind : Int
  id : Int
  ver : Int
  rights : Int
  data : Int
abbrev K.l (k : K) : List Value := [.int .i64 k.kind, .int .i64 k.id, .int .i64 k.ver, .int .i64 k.rights, .int .u32 k.data]
abbrev K.v (k : K) : Value := .agg #[.int .i64 k.kind, .int .i64 k.id, .int .i64 k.ver, .int .i64 k.rights, .int .u32 k.data]
def K.void : K := ⟨0, 0, 0, 0, 0⟩
def K.same (a b : K) : Bool := a.kind == b.kind && (a.id == b.id && (a.ver == b.ver && (a.rights == b.rights && a.data == b.data)))
theorem K.same_iff (a b : K) : a.same b = true ↔ a = b := by
  cases a; cases b; simp [K.same]
def K.has (k : K) : Bool := k.kind == 2 || k.kind == 3
def K.weaken (k : K) : K := if k.kind = 2 ∨ k.kind = 3 then { k with rights := bits .or .i64 k.rights 5 } else if k.kind = 0 ∨ k.kind = 1 ∨ k.kind = 12 ∨ k.kind = 14 then k else .void

section
variable (z w : World) (As : List HP) (H : Sat z w As)
include H
theorem sameKey (a b : K) : Spec cf 23 #[a.v, b.v] w fun e w' => e = .bool (a.same b) ∧ Sat z w' As := by
  refine enter (l := [a.v, b.v]) Tryd.func23 rfl rfl rfl rfl rfl ?_
  repeat' (first | (refine zA ?_; first | refine zB ?_ | refine zC H ?_ | refine zD H ?_ | refine zE H fun _ _ H => ?_ | refine zF H fun _ _ H => ?_ | refine zG H fun _ H => ?_ | refine zH H fun _ H => ?_ | (refine OpsW.gs rfl rfl rfl (fun h => ?_) (fun h => ?_); fail_if_success (with_reducible have h2 : true = true := h); fail_if_success (with_reducible have h2 : false = true := h))) | (refine zI ?_; first | refine zJ ?_ | refine zK ?_ | refine zL ?_ | refine zM ?_ | refine zN ?_ | refine zO ?_ | refine zP ?_ | refine zQ ?_ | refine zR ?_ | (refine CW.cond rfl (fun h => ?_) (fun h => ?_))) | refine zS ?_)
  all_goals
    refine ret1 rfl ⟨?_, by (first | exact H | exact H.drop | exact H.d2 | exact H.d3 | exact H.d4 | exact H.d5 | exact H.d6 | exact H.d7)⟩
    clear H
    simp_all [K.same]
theorem same_ (a b : K) : Spec cf 111 #[a.v, b.v] w fun e w' => e = .bool (a.same b) ∧ Sat z w' As := by
  refine enter (l := [a.v, b.v]) Tryd.func111 rfl rfl rfl rfl rfl ?_
  repeat' (first | (refine zA ?_; first | refine zB ?_ | refine zC H ?_ | refine zD H ?_ | refine zE H fun _ _ H => ?_ | refine zF H fun _ _ H => ?_ | refine zG H fun _ H => ?_ | refine zH H fun _ H => ?_ | (refine OpsW.gs rfl rfl rfl (fun h => ?_) (fun h => ?_); fail_if_success (with_reducible have h2 : true = true := h); fail_if_success (with_reducible have h2 : false = true := h))) | (refine zI ?_; first | refine zJ ?_ | refine zK ?_ | refine zL ?_ | refine zM ?_ | refine zN ?_ | refine zO ?_ | refine zP ?_ | refine zQ ?_ | refine zR ?_ | (refine CW.cond rfl (fun h => ?_) (fun h => ?_))) | refine zS ?_)
  all_goals
    refine ret1 rfl ⟨?_, by (first | exact H | exact H.drop | exact H.d2 | exact H.d3 | exact H.d4 | exact H.d5 | exact H.d6 | exact H.d7)⟩
    clear H
    simp_all [K.same]
theorem weaken_ (k : K) : Spec cf 112 #[k.v] w fun e w' => e = k.weaken.v ∧ Sat z w' As := by
  refine enter (l := [k.v]) Tryd.func112 rfl rfl rfl rfl rfl ?_
  repeat' (first | (refine zA ?_; first | refine zB ?_ | refine zC H ?_ | refine zD H ?_ | refine zE H fun _ _ H => ?_ | refine zF H fun _ _ H => ?_ | refine zG H fun _ H => ?_ | refine zH H fun _ H => ?_ | (refine OpsW.gs rfl rfl rfl (fun h => ?_) (fun h => ?_); fail_if_success (with_reducible have h2 : true = true := h); fail_if_success (with_reducible have h2 : false = true := h))) | (refine zI ?_; first | refine zJ ?_ | refine zK ?_ | refine zL ?_ | refine zM ?_ | refine zN ?_ | refine zO ?_ | refine zP ?_ | refine zQ ?_ | refine zR ?_ | (refine CW.cond rfl (fun h => ?_) (fun h => ?_))) | refine zS ?_)
  all_goals
    refine ret1c (resA H (by (first | exact p0 | exact p1 | exact p2 | exact p3 | exact p4 | exact p5 | exact p6 | exact p7)) rfl rfl (by rfl)) ?_
    refine ⟨?_, by (first | exact H | exact H.drop | exact H.d2 | exact H.d3 | exact H.d4 | exact H.d5 | exact H.d6 | exact H.d7)⟩
    clear H
    simp_all [K.weaken, K.void]
end
end Go.Proofs.YtbmfpkpcljihgaaDoor.X
