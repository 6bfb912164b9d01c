/- Contracts of chapter 13 (queue): the helper of the laws; conditions: none. -/
import Derived.Test.YtbmfpkpcljihgaaDoorGB
import Derived.Deep.Slices
import Derived.Deep.Fields
import Derived.ChangeSame
import Derived.ProofKit
import Derived.OpenShut
import Derived.ChangeOld
import Derived.Test.YtbmfpkpcljihgaaDoorAN
--AUTODROP
namespace Go.Proofs.YtbmfpkpcljihgaaDoor.X
open Go Go.Proofs
set_option linter.unusedSimpArgs false
set_option linter.unusedVariables false
attribute [local irreducible] CW OpsW RetW Spec blk snap DrawP AnyW bits IntKind.wrap
section
variable (z w : World) (As : List HP) (H : Sat z w As)
include H
theorem index_ (l : List Int) (v : Value) (x : Int) (hl : l.length ≤ 9223372036854775807) (hv : SlR As v 1 l.length (l.map (.int .i64))) : Spec cf 86 #[v, .int .i64 x] w fun e w' => e = .int .i64 (match l.findIdx? (· == x) with | some i => i | none => -1) ∧ Sat z w' As := by
  obtain ⟨a, cap, rfl⟩ := lenW hv
  refine enter (l := [.slice a l.length cap, .int .i64 x]) Tryd.func86 rfl rfl rfl rfl rfl ?_
  repeat' (first | (refine zA ?_; first | refine zB ?_ | refine zC H ?_ | refine zD H ?_ | refine zE H fun _ _ H => ?_ | refine zF H fun _ _ H => ?_ | refine zG H fun _ H => ?_ | refine zH H fun _ H => ?_) | (refine zI ?_; first | refine zJ ?_ | refine zK ?_ | refine zL ?_ | refine zM ?_ | refine zN ?_ | refine zO ?_ | refine zP ?_ | refine zQ ?_ | refine zR ?_) | refine zS ?_)
  refine CW.loopF (X := Nat) (fun j => Nat.beq j 4 || Nat.beq j 5 || Nat.beq j 3 || Nat.ble 8 j) (fun i => [(8, .int .i64 (i : Int))]) (fun i w => (i ≤ l.length ∧ ∀ j (hj : j < l.length), j < i → (l[j] == x) = false) ∧ Sat z w As) (fun i => l.length - i) 0 ⟨rfl, trivial⟩ ⟨⟨Nat.zero_le _, fun j _ hj => absurd hj (Nat.not_lt_zero j)⟩, H⟩ ?_
  rintro i τ w ⟨⟨hi, hne⟩, H⟩
  repeat' (first | (refine zA ?_; first | refine zB ?_ | refine zC H ?_ | refine zD H ?_ | refine zE H fun _ _ H => ?_ | refine zF H fun _ _ H => ?_ | refine zG H fun _ H => ?_ | refine zH H fun _ H => ?_) | (refine zI ?_; first | refine zJ ?_ | refine zK ?_ | refine zL ?_ | refine zM ?_ | refine zN ?_ | refine zO ?_ | refine zP ?_ | refine zQ ?_ | refine zR ?_) | refine zS ?_)
  refine CW.cond rfl (fun h => ?_) (fun h => ?_)
  · have hi' : i < l.length := by simpa using h
    have hx : (l.map (Value.int .i64))[i]? = some (.int .i64 l[i]) := by simp [hi']
    repeat' (first | (refine zA ?_; first | refine zB ?_ | refine zC H ?_ | refine zD H ?_ | refine zE H fun _ _ H => ?_ | refine zF H fun _ _ H => ?_ | refine zG H fun _ H => ?_ | refine zH H fun _ H => ?_) | (refine zI ?_; first | refine zJ ?_ | refine zK ?_ | refine zL ?_ | refine zM ?_ | refine zN ?_ | refine zO ?_ | refine zP ?_ | refine zQ ?_ | refine zR ?_) | refine zS ?_)
    refine OpsW.ixld H hv rfl (fun _ => rfl) rfl rfl rfl rfl rfl rfl rfl rfl hi' hx rfl rfl fun p => ?_
    repeat' (first | (refine zA ?_; first | refine zB ?_ | refine zC H ?_ | refine zD H ?_ | refine zE H fun _ _ H => ?_ | refine zF H fun _ _ H => ?_ | refine zG H fun _ H => ?_ | refine zH H fun _ H => ?_) | (refine zI ?_; first | refine zJ ?_ | refine zK ?_ | refine zL ?_ | refine zM ?_ | refine zN ?_ | refine zO ?_ | refine zP ?_ | refine zQ ?_ | refine zR ?_) | refine zS ?_)
    refine CW.cond rfl (fun h => ?_) (fun h => ?_)
    · repeat' (first | (refine zA ?_; first | refine zB ?_ | refine zC H ?_ | refine zD H ?_ | refine zE H fun _ _ H => ?_ | refine zF H fun _ _ H => ?_ | refine zG H fun _ H => ?_ | refine zH H fun _ H => ?_) | (refine zI ?_; first | refine zJ ?_ | refine zK ?_ | refine zL ?_ | refine zM ?_ | refine zN ?_ | refine zO ?_ | refine zP ?_ | refine zQ ?_ | refine zR ?_) | refine zS ?_)
      refine ret1 rfl ⟨?_, by (first | exact H | exact H.drop | exact H.d2 | exact H.d3 | exact H.d4 | exact H.d5 | exact H.d6 | exact H.d7)⟩
      have e : l.findIdx? (· == x) = some i := by
        rw [List.findIdx?_eq_some_iff_getElem]
        refine ⟨hi', ?_, fun j hj => ?_⟩
        · have : x = l[i] := by simpa using h
          simp [this]
        · have := hne j (by omega) hj
          simpa using this
      rw [e]
    · repeat' (first | (refine zA ?_; first | refine zB ?_ | refine zC H ?_ | refine zD H ?_ | refine zE H fun _ _ H => ?_ | refine zF H fun _ _ H => ?_ | refine zG H fun _ H => ?_ | refine zH H fun _ H => ?_) | (refine zI ?_; first | refine zJ ?_ | refine zK ?_ | refine zL ?_ | refine zM ?_ | refine zN ?_ | refine zO ?_ | refine zP ?_ | refine zQ ?_ | refine zR ?_) | refine zS ?_)
      refine ⟨i + 1, (by (repeat (first | (with_reducible exact Agree.refl _ _) | (with_reducible refine Agree.trim (by assumption) ?_) | refine Agree.upd ?_ rfl | exact Agree.mix' | refine Agree.mixL ?_ (fun j h => by simp only [Bool.or_eq_true, Bool.and_eq_true, Nat.beq_eq, Nat.ble_eq] at h ⊢; omega) rfl))), ⟨nat_succ hi' hl, trivial⟩, ⟨⟨hi', fun j hj hji => ?_⟩, H⟩, by omega⟩
      by_cases e : j = i
      · subst e
        have : ¬ x = l[j] := by simpa using h
        simpa using fun e => this e.symm
      · exact hne j hj (by omega)
  · repeat' (first | (refine zA ?_; first | refine zB ?_ | refine zC H ?_ | refine zD H ?_ | refine zE H fun _ _ H => ?_ | refine zF H fun _ _ H => ?_ | refine zG H fun _ H => ?_ | refine zH H fun _ H => ?_) | (refine zI ?_; first | refine zJ ?_ | refine zK ?_ | refine zL ?_ | refine zM ?_ | refine zN ?_ | refine zO ?_ | refine zP ?_ | refine zQ ?_ | refine zR ?_) | refine zS ?_)
    refine ret1 rfl ⟨?_, by (first | exact H | exact H.drop | exact H.d2 | exact H.d3 | exact H.d4 | exact H.d5 | exact H.d6 | exact H.d7)⟩
    have hil : i = l.length := by simp at h; omega
    have e : l.findIdx? (· == x) = none := by
      rw [List.findIdx?_eq_none_iff]
      intro y hy
      obtain ⟨j, hj, rfl⟩ := List.mem_iff_getElem.1 hy
      exact hne j hj (by omega)
    rw [e]
end
end Go.Proofs.YtbmfpkpcljihgaaDoor.X
