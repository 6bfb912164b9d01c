/- Contracts of the functions on words (chapter 2 and its reference); conditions: none. -/
import Derived.Test.YtnfefbhjdncccaaDoorR0
--AUTODROP
namespace Go.Proofs.YtnfefbhjdncccaaDoor.X
open Go Go.Proofs
set_option linter.unusedSimpArgs false
set_option linter.unusedVariables false
attribute [local irreducible] CW OpsW RetW Spec blk snap
def b2w (b : Bool) : Int := if b = true then 1 else 0
/-- What is done to two words. -/
def wdo (op a b : Int) : Int × Bool :=
  if op = 0 then ((a + b) % 4294967296, true) else if op = 1 then ((a - b) % 4294967296, true) else if op = 2 then (a * b % 4294967296, true)
  else if op = 3 then (if b = 0 then 0 else a.tdiv b % 4294967296, true) else if op = 4 then (if b = 0 then 0 else a.tmod b, true)
  else if op = 5 then (bits .and .u32 a b, true) else if op = 6 then (bits .or .u32 a b, true) else if op = 7 then (bits .xor .u32 a b, true)
  else if op = 8 then (a * 2 ^ min b.toNat 32 % 4294967296, true) else if op = 9 then (a.fdiv (2 ^ min b.toNat 32), true)
  else if op = 10 then (b2w (decide (a < b)), true) else if op = 11 then (b2w (a == b), true) else (0, false)
theorem fdiv_big (a : Int) (h0 : 0 ≤ a) (h : a < 4294967296) : a.fdiv 4294967296 = 0 := by
  rw [Int.fdiv_eq_ediv_of_nonneg _ (by decide)]
  exact Int.ediv_eq_zero_of_lt h0 h
def wsum (l : List Int) : Int := l.foldl (fun n x => (n + x) % 4294967296) 0
theorem wsum_take {l : List Int} {i : Nat} (h : i < l.length) : wsum (l.take (i + 1)) = (wsum (l.take i) + l[i]) % 4294967296 := by
  unfold wsum
  rw [List.take_succ_eq_append_getElem h, List.foldl_append]; rfl
section
variable (z w : World) (As : List HP) (H : Sat z w As)
include H
theorem truth_ (b : Bool) : Spec cf 129 #[.bool b] w fun e w' => e = .int .u32 (b2w b) ∧ Sat z w' As := by
  refine enter (l := [.bool b]) Tryd.func129 rfl rfl rfl rfl rfl ?_
  repeat' (first | (refine zA ?_; first | refine zB ?_ | refine zC H ?_ | refine zD H ?_ | refine zE H fun _ _ H => ?_ | refine zF H fun _ _ H => ?_ | refine zG H fun _ H => ?_ | refine zH H fun _ H => ?_ | (refine OpsW.gs rfl rfl rfl (fun h => ?_) (fun h => ?_); fail_if_success (with_reducible have h2 : true = true := h); fail_if_success (with_reducible have h2 : false = true := h))) | (refine zI ?_; first | refine zJ ?_ | refine zK ?_ | refine zL ?_ | refine zM ?_ | refine zN ?_ | refine zO ?_ | refine zP ?_ | refine zQ ?_ | refine zR ?_ | (refine CW.cond rfl (fun h => ?_) (fun h => ?_))) | refine zS ?_)
  all_goals
    refine ret1 rfl ⟨?_, by (first | exact H | exact H.drop | exact H.d2 | exact H.d3 | exact H.d4 | exact H.d5 | exact H.d6 | exact H.d7)⟩
    clear H
    simp_all [b2w]
theorem do_ (op a b : Int) (hb : 0 ≤ b) : Spec cf 105 #[.int .i64 op, .int .u32 a, .int .u32 b] w fun e w' => e = .tuple #[.int .u32 (wdo op a b).1, .bool (wdo op a b).2] ∧ Sat z w' As := by
  refine enter (l := [.int .i64 op, .int .u32 a, .int .u32 b]) Tryd.func105 rfl rfl rfl rfl rfl ?_
  repeat' (first | (first | (refine zA ?_; first | refine zB ?_ | refine zC H ?_ | refine zD H ?_ | refine zE H fun _ _ H => ?_ | refine zF H fun _ _ H => ?_ | refine zG H fun _ H => ?_ | refine zH H fun _ H => ?_) | (refine zI ?_; first | refine zJ ?_ | refine zK ?_ | refine zL ?_ | refine zM ?_ | refine zN ?_ | refine zO ?_ | refine zP ?_ | refine zQ ?_ | refine zR ?_) | refine zS ?_) | (refine CW.cond rfl (fun h => ?_) (fun h => ?_)) | (refine OpsW.shl rfl rfl rfl hb rfl ?_) | (refine OpsW.shr rfl rfl rfl hb rfl ?_) | (refine OpsW.call rfl rfl rfl (truth_ _ _ _ H _) ?_; rintro _ w ⟨rfl, H⟩) | (refine OpsW.quo rfl rfl rfl (by simp_all) rfl ?_) | (refine OpsW.rem rfl rfl rfl (by simp_all) rfl ?_))
  all_goals
    refine ret2 rfl rfl ⟨?_, by (first | exact H | exact H.drop | exact H.d2 | exact H.d3 | exact H.d4 | exact H.d5 | exact H.d6 | exact H.d7)⟩
    clear H
    simp_all [wdo, wrapu32, IntKind.bits]
theorem one_ (b : Bool) : Spec cf 111 #[.bool b] w fun e w' => e = .int .u32 (b2w b) ∧ Sat z w' As := by
  refine enter (l := [.bool b]) Tryd.func111 rfl rfl rfl rfl rfl ?_
  repeat' (first | (refine zA ?_; first | refine zB ?_ | refine zC H ?_ | refine zD H ?_ | refine zE H fun _ _ H => ?_ | refine zF H fun _ _ H => ?_ | refine zG H fun _ H => ?_ | refine zH H fun _ H => ?_ | (refine OpsW.gs rfl rfl rfl (fun h => ?_) (fun h => ?_); fail_if_success (with_reducible have h2 : true = true := h); fail_if_success (with_reducible have h2 : false = true := h))) | (refine zI ?_; first | refine zJ ?_ | refine zK ?_ | refine zL ?_ | refine zM ?_ | refine zN ?_ | refine zO ?_ | refine zP ?_ | refine zQ ?_ | refine zR ?_ | (refine CW.cond rfl (fun h => ?_) (fun h => ?_))) | refine zS ?_)
  all_goals
    refine ret1 rfl ⟨?_, by (first | exact H | exact H.drop | exact H.d2 | exact H.d3 | exact H.d4 | exact H.d5 | exact H.d6 | exact H.d7)⟩
    clear H
    simp_all [b2w]
theorem refDo_ (op a b : Int) (ha : 0 ≤ a) (ha' : a < 4294967296) (hb : 0 ≤ b) : Spec cf 77 #[.int .i64 op, .int .u32 a, .int .u32 b] w fun e w' => e = .tuple #[.int .u32 (wdo op a b).1, .bool (wdo op a b).2] ∧ Sat z w' As := by
  refine enter (l := [.int .i64 op, .int .u32 a, .int .u32 b]) Tryd.func77 rfl rfl rfl rfl rfl ?_
  repeat' (first | (first | (refine zA ?_; first | refine zB ?_ | refine zC H ?_ | refine zD H ?_ | refine zE H fun _ _ H => ?_ | refine zF H fun _ _ H => ?_ | refine zG H fun _ H => ?_ | refine zH H fun _ H => ?_) | (refine zI ?_; first | refine zJ ?_ | refine zK ?_ | refine zL ?_ | refine zM ?_ | refine zN ?_ | refine zO ?_ | refine zP ?_ | refine zQ ?_ | refine zR ?_) | refine zS ?_) | (refine CW.cond rfl (fun h => ?_) (fun h => ?_)) | (refine OpsW.shl rfl rfl rfl hb rfl ?_) | (refine OpsW.shr rfl rfl rfl hb rfl ?_) | (refine OpsW.call rfl rfl rfl (one_ _ _ _ H _) ?_; rintro _ w ⟨rfl, H⟩) | (refine OpsW.quo rfl rfl rfl (by simp_all) rfl ?_) | (refine OpsW.rem rfl rfl rfl (by simp_all) rfl ?_))
  all_goals
    refine ret2 rfl rfl ⟨?_, by (first | exact H | exact H.drop | exact H.d2 | exact H.d3 | exact H.d4 | exact H.d5 | exact H.d6 | exact H.d7)⟩
    clear H
    simp_all [wdo, wrapu32, IntKind.bits]
    try rw [fdiv_big a ha ha']
theorem sum_ (l : List Int) (v : Value) (hl : l.length ≤ 9223372036854775807) (hv : SlR As v 1 l.length (l.map (.int .u32))) : Spec cf 130 #[v] w fun e w' => e = .int .u32 (wsum l) ∧ Sat z w' As := by
  obtain ⟨a, cap, rfl⟩ := lenW hv
  refine enter (l := [.slice a l.length cap]) Tryd.func130 rfl rfl rfl rfl rfl ?_
  repeat' (first | (refine zA ?_; first | refine zB ?_ | refine zC H ?_ | refine zD H ?_ | refine zE H fun _ _ H => ?_ | refine zF H fun _ _ H => ?_ | refine zG H fun _ H => ?_ | refine zH H fun _ H => ?_ | (refine OpsW.gs rfl rfl rfl (fun h => ?_) (fun h => ?_); fail_if_success (with_reducible have h2 : true = true := h); fail_if_success (with_reducible have h2 : false = true := h))) | (refine zI ?_; first | refine zJ ?_ | refine zK ?_ | refine zL ?_ | refine zM ?_ | refine zN ?_ | refine zO ?_ | refine zP ?_ | refine zQ ?_ | refine zR ?_ | (refine CW.cond rfl (fun h => ?_) (fun h => ?_))) | refine zS ?_)
  refine CW.loopF (X := Nat) (fun j => Nat.beq j 3 || Nat.beq j 5 || Nat.ble 8 j && Nat.ble j 15) (fun i => [(8, .int .i64 (i : Int)), (3, .int .u32 (wsum (l.take i)))]) (fun i w => i ≤ l.length ∧ Sat z w As) (fun i => l.length - i) 0 ⟨rfl, rfl, trivial⟩ ⟨Nat.zero_le _, H⟩ ?_
  rintro i τ w ⟨hi, H⟩
  repeat' (first | (refine zA ?_; first | refine zB ?_ | refine zC H ?_ | refine zD H ?_ | refine zE H fun _ _ H => ?_ | refine zF H fun _ _ H => ?_ | refine zG H fun _ H => ?_ | refine zH H fun _ H => ?_ | (refine OpsW.gs rfl rfl rfl (fun h => ?_) (fun h => ?_); fail_if_success (with_reducible have h2 : true = true := h); fail_if_success (with_reducible have h2 : false = true := h))) | (refine zI ?_; first | refine zJ ?_ | refine zK ?_ | refine zL ?_ | refine zM ?_ | refine zN ?_ | refine zO ?_ | refine zP ?_ | refine zQ ?_ | refine zR ?_ | (refine CW.cond rfl (fun h => ?_) (fun h => ?_))) | refine zS ?_)
  · have hi' : i < l.length := by simpa using h
    have hx : (l.map (Value.int .u32))[i]? = some (.int .u32 l[i]) := by simp [hi']
    refine OpsW.ixld H hv rfl (fun _ => rfl) rfl rfl rfl rfl rfl rfl rfl rfl hi' hx rfl rfl fun p => ?_
    repeat' (first | (refine zA ?_; first | refine zB ?_ | refine zC H ?_ | refine zD H ?_ | refine zE H fun _ _ H => ?_ | refine zF H fun _ _ H => ?_ | refine zG H fun _ H => ?_ | refine zH H fun _ H => ?_ | (refine OpsW.gs rfl rfl rfl (fun h => ?_) (fun h => ?_); fail_if_success (with_reducible have h2 : true = true := h); fail_if_success (with_reducible have h2 : false = true := h))) | (refine zI ?_; first | refine zJ ?_ | refine zK ?_ | refine zL ?_ | refine zM ?_ | refine zN ?_ | refine zO ?_ | refine zP ?_ | refine zQ ?_ | refine zR ?_ | (refine CW.cond rfl (fun h => ?_) (fun h => ?_))) | refine zS ?_)
    refine ⟨i + 1, (by (repeat (first | (with_reducible exact Agree.refl _ _) | (with_reducible refine Agree.trim (by assumption) ?_) | refine Agree.upd ?_ rfl | exact Agree.mix' | refine Agree.mixL ?_ (fun j h => by simp only [Bool.or_eq_true, Bool.and_eq_true, Nat.beq_eq, Nat.ble_eq] at h ⊢; omega) rfl))), ⟨nat_succ hi' hl, ?_, trivial⟩, ⟨hi', H⟩, by omega⟩
    rw [wsum_take hi', ← wrapu32]; rfl
  · have : i = l.length := by simp at h; omega
    subst this
    refine ret1 rfl ⟨?_, by (first | exact H | exact H.drop | exact H.d2 | exact H.d3 | exact H.d4 | exact H.d5 | exact H.d6 | exact H.d7)⟩
    rw [List.take_length]
end
end Go.Proofs.YtnfefbhjdncccaaDoor.X
