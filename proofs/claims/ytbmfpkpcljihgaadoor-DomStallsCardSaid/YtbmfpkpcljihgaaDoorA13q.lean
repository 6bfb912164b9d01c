/- Contracts of chapter 13 (queue); conditions: none. -/
import Derived.Test.YtbmfpkpcljihgaaDoorA13
import Derived.Test.YtbmfpkpcljihgaaDoorGB
--AUTODROP
namespace Go.Proofs.YtbmfpkpcljihgaaDoor.X
open Go Go.Proofs
set_option linter.unusedSimpArgs false
set_option linter.unusedVariables false
attribute [local irreducible] CW OpsW RetW Spec blk snap DrawP AnyW bits IntKind.wrap
theorem qhas_ {z w : World} {Rs : List HP} {bq : Nat} {T : TypeId} {a : Option Addr} {cap : Nat} (l : List Int) (H : Sat z w (blk bq T [.slice a l.length cap] :: Rs)) (x : Int) (hl : l.length ≤ 9223372036854775807) (hv : SlR Rs (.slice a l.length cap) 1 l.length (l.map (.int .i64))) :
    Spec cf 54 #[.pointer (some ⟨bq, 0, none⟩), .int .i64 x] w fun e w' => e = .bool (l.contains x) ∧ Sat z w' (blk bq T [.slice a l.length cap] :: Rs) := by
  refine enter (l := [.pointer (some ⟨bq, 0, none⟩), .int .i64 x]) Tryd.func54 rfl rfl rfl rfl rfl ?_
  repeat' (first | (refine zA ?_; first | refine zB ?_ | (refine OpsW.goCall ?_; first | (refine OpsW.call rfl rfl rfl (contains_ _ _ _ H l _ x hl hv.tail) ?_; rintro _ w ⟨rfl, H⟩)) | refine zC H ?_ | refine zD H ?_ | refine zE H fun _ _ H => ?_ | refine zF H fun _ _ H => ?_ | refine zG H fun _ H => ?_ | refine zH H fun _ H => ?_) | (refine zI ?_; first | refine zJ ?_ | refine zK ?_ | refine zL ?_ | refine zM ?_ | refine zN ?_ | refine zO ?_ | refine zP ?_ | refine zQ ?_ | refine zR ?_) | refine zS ?_)
  exact ret1 rfl ⟨rfl, by (first | exact H | exact H.drop | exact H.d2 | exact H.d3 | exact H.d4 | exact H.d5 | exact H.d6 | exact H.d7)⟩
end Go.Proofs.YtbmfpkpcljihgaaDoor.X
