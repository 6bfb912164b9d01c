/- The document's system, as far as chapters 9 and 10 make it; conditions: none. -/
import Derived.Test.YtnfefbhjdncccaaDoorA9
namespace Go.Proofs.YtnfefbhjdncccaaDoor.X
open Go Go.Proofs
set_option linter.unusedSimpArgs false
set_option linter.unusedVariables false
attribute [local irreducible] CW OpsW RetW Spec blk snap DrawP AnyW AnyM AnyN bits IntKind.wrap vec arena kds nds wds pgs eA nodesP pagesP
/-- A place of the document's: live, gone, version, whose. -/
def slo (b : Bool) : List Value := [.bool b, .bool false, .int .i64 0, .int .i64 (-1)]
def slots (b n : Nat) (r : List Value) (f : Nat → Bool) : HP := blk b 169 ((mk n f).flatMap slo ++ r)
section
variable {z w : World} {Rs As : List HP}
set_option maxRecDepth 20000 in
theorem slots_ (H : Sat z w As) (n : Nat) (hn : n ≤ 64) : Spec cf 125 #[.int .i64 n] w fun e w' => ∃ a cap, e = .slice a n cap ∧ Sat z w' (vec 169 a n cap 4 ((mk n fun _ => false).flatMap slo) :: As) := by
  refine enter (l := [.int .i64 n]) Tryd.func125 rfl rfl rfl rfl rfl ?_
  repeat' (first | (refine zA ?_; first | refine zB ?_ | refine zC H ?_ | refine zD H ?_ | refine zE H fun _ _ H => ?_ | refine zF H fun _ _ H => ?_ | refine zG H fun _ H => ?_ | refine zH H fun _ H => ?_) | (refine zI ?_; first | refine zJ ?_ | refine zK ?_ | refine zL ?_ | refine zM ?_ | refine zN ?_ | refine zO ?_ | refine zP ?_ | refine zQ ?_ | refine zR ?_) | refine zS ?_)
  have H0 : Sat z w (vec 169 none 0 0 4 ((mk 0 fun _ => false).flatMap slo) :: As) := Sat.vnil H
  clear H
  refine CW.loopF (X := Nat × Option Addr × Nat) (fun j => Nat.ble 3 j) (fun s => [(4, .int .i64 (s.1 : Int)), (3, .slice s.2.1 s.1 s.2.2)]) (fun s w => s.1 ≤ n ∧ Sat z w (vec 169 s.2.1 s.1 s.2.2 4 ((mk s.1 fun _ => false).flatMap slo) :: As)) (fun s => n - s.1) (0, none, 0) ⟨rfl, rfl, trivial⟩ ⟨Nat.zero_le _, H0⟩ ?_
  clear H0
  rintro ⟨i, a, cp⟩ τ w ⟨hi, H⟩
  dsimp only at hi H
  repeat' (first | (refine zA ?_; first | refine zB ?_ | refine zC H ?_ | refine zD H ?_ | refine zE H fun _ _ H => ?_ | refine zF H fun _ _ H => ?_ | refine zG H fun _ H => ?_ | refine zH H fun _ H => ?_) | (refine zI ?_; first | refine zJ ?_ | refine zK ?_ | refine zL ?_ | refine zM ?_ | refine zN ?_ | refine zO ?_ | refine zP ?_ | refine zQ ?_ | refine zR ?_) | refine zS ?_)
  refine CW.cond rfl (fun h => ?_) (fun h => ?_)
  · have hi' : i < n := by have := of_decide_eq_true h; dsimp only at this; omega
    repeat' (first | (refine zA ?_; first | refine zB ?_ | refine zC H ?_ | refine zD H ?_ | refine zE H fun _ _ H => ?_ | refine zF H fun _ _ H => ?_ | refine zG H fun _ H => ?_ | refine zH H fun _ H => ?_) | (refine zI ?_; first | refine zJ ?_ | refine zK ?_ | refine zL ?_ | refine zM ?_ | refine zN ?_ | refine zO ?_ | refine zP ?_ | refine zQ ?_ | refine zR ?_) | refine zS ?_)
    refine OpsW.bsl H rfl rfl rfl rfl rfl rfl rfl rfl fun bb w H => ?_
    repeat' (first | (refine zA ?_; first | refine zB ?_ | refine zC H ?_ | refine zD H ?_ | refine zE H fun _ _ H => ?_ | refine zF H fun _ _ H => ?_ | refine zG H fun _ H => ?_ | refine zH H fun _ H => ?_) | (refine zI ?_; first | refine zJ ?_ | refine zK ?_ | refine zL ?_ | refine zM ?_ | refine zN ?_ | refine zO ?_ | refine zP ?_ | refine zQ ?_ | refine zR ?_) | refine zS ?_)
    refine OpsW.vapp (n2 := 1) (c2 := slo false) H (pS p0) (SlR.of_blk (r := []) rfl (Nat.le_refl 1)) rfl (by decide) (by omega) rfl rfl rfl rfl rfl rfl rfl rfl rfl fun a2 cap2 w H => ?_
    replace H := (H.perm (pS p0)).drop
    rw [show (mk i fun _ => false).flatMap slo ++ slo false = (mk (i + 1) fun _ => false).flatMap slo by rw [mk_add, List.flatMap_append]; rfl] at H
    repeat' (first | (refine zA ?_; first | refine zB ?_ | refine zC H ?_ | refine zD H ?_ | refine zE H fun _ _ H => ?_ | refine zF H fun _ _ H => ?_ | refine zG H fun _ H => ?_ | refine zH H fun _ H => ?_) | (refine zI ?_; first | refine zJ ?_ | refine zK ?_ | refine zL ?_ | refine zM ?_ | refine zN ?_ | refine zO ?_ | refine zP ?_ | refine zQ ?_ | refine zR ?_) | refine zS ?_)
    exact ⟨(i + 1, a2, cap2), (by (repeat (first | (with_reducible exact Agree.refl _ _) | (with_reducible refine Agree.trim (by assumption) ?_) | refine Agree.upd ?_ rfl | exact Agree.mix' | refine Agree.mixL ?_ (fun j h => by simp only [Bool.or_eq_true, Bool.and_eq_true, Nat.beq_eq, Nat.ble_eq] at h ⊢; omega) rfl))), ⟨nat_succ hi' (by omega), rfl, trivial⟩, ⟨hi', H⟩, by show n - (i + 1) < n - i; omega⟩
  have : i = n := by have := of_decide_eq_false h; dsimp only at this; omega
  subst this
  repeat' (first | (refine zA ?_; first | refine zB ?_ | refine zC H ?_ | refine zD H ?_ | refine zE H fun _ _ H => ?_ | refine zF H fun _ _ H => ?_ | refine zG H fun _ H => ?_ | refine zH H fun _ H => ?_) | (refine zI ?_; first | refine zJ ?_ | refine zK ?_ | refine zL ?_ | refine zM ?_ | refine zN ?_ | refine zO ?_ | refine zP ?_ | refine zQ ?_ | refine zR ?_) | refine zS ?_)
  exact ret1 rfl ⟨a, cp, rfl, H⟩
end
end Go.Proofs.YtnfefbhjdncccaaDoor.X
