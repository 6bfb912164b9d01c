/- Contracts of the laws' equalities of lists; conditions: none. -/
import Derived.Test.YtbmfpkpcljihgaaDoorR0
import Derived.Test.YtbmfpkpcljihgaaDoorGC
namespace Go.Proofs.YtbmfpkpcljihgaaDoor.X
open Go Go.Proofs
set_option linter.unusedSimpArgs false
set_option linter.unusedVariables false
attribute [local irreducible] CW OpsW RetW Spec blk snap DrawP AnyW AnyM AnyN bits IntKind.wrap vec
section
variable {z w : World} {As : List HP}
theorem sameIntsS_ (H : Sat z w As) (l m : List Int) (v u : Value) (hl : l.length ≤ 9223372036854775807) (hm : m.length ≤ 9223372036854775807) (hv : SlR As v 1 l.length (l.map (.int .i64))) (hu : SlR As u 1 m.length (m.map (.int .i64))) :
    Spec cf 15 #[v, u] w fun e w' => e = .bool (decide (l = m)) ∧ Sat z w' As := by
  obtain ⟨a, cap, rfl⟩ := lenW hv
  obtain ⟨b, cap2, rfl⟩ := lenW hu
  refine enter (l := [.slice a l.length cap, .slice b m.length cap2]) Tryd.func15 rfl rfl rfl rfl rfl ?_
  repeat' (first | (refine zA ?_; first | refine zB ?_ | refine zC H ?_ | refine zD H ?_ | refine zE H fun _ _ H => ?_ | refine zF H fun _ _ H => ?_ | refine zG H fun _ H => ?_ | refine zH H fun _ H => ?_) | (refine zI ?_; first | refine zJ ?_ | refine zK ?_ | refine zL ?_ | refine zM ?_ | refine zN ?_ | refine zO ?_ | refine zP ?_ | refine zQ ?_ | refine zR ?_) | refine zS ?_)
  refine CW.cond rfl (fun h => ?_) (fun h => ?_)
  · repeat' (first | (refine zA ?_; first | refine zB ?_ | refine zC H ?_ | refine zD H ?_ | refine zE H fun _ _ H => ?_ | refine zF H fun _ _ H => ?_ | refine zG H fun _ H => ?_ | refine zH H fun _ H => ?_) | (refine zI ?_; first | refine zJ ?_ | refine zK ?_ | refine zL ?_ | refine zM ?_ | refine zN ?_ | refine zO ?_ | refine zP ?_ | refine zQ ?_ | refine zR ?_) | refine zS ?_)
    refine ret1 rfl ⟨?_, by (first | exact H | exact H.drop | exact H.d2 | exact H.d3 | exact H.d4 | exact H.d5 | exact H.d6 | exact H.d7)⟩
    have : ¬ l = m := fun e => by subst e; simp at h
    rw [decide_eq_false this]
  · have hlm : l.length = m.length := by have := h; simp at this; omega
    repeat' (first | (refine zA ?_; first | refine zB ?_ | refine zC H ?_ | refine zD H ?_ | refine zE H fun _ _ H => ?_ | refine zF H fun _ _ H => ?_ | refine zG H fun _ H => ?_ | refine zH H fun _ H => ?_) | (refine zI ?_; first | refine zJ ?_ | refine zK ?_ | refine zL ?_ | refine zM ?_ | refine zN ?_ | refine zO ?_ | refine zP ?_ | refine zQ ?_ | refine zR ?_) | refine zS ?_)
    refine CW.loopF (X := Nat) (fun j => Nat.beq j 5 || Nat.beq j 6 || Nat.ble 12 j) (fun i => [(5, .int .i64 (i : Int))]) (fun i w => (i ≤ l.length ∧ l.take i = m.take i) ∧ Sat z w As) (fun i => l.length - i) 0 ⟨rfl, trivial⟩ ⟨⟨Nat.zero_le _, by simp⟩, H⟩ ?_
    rintro i τ w ⟨⟨hi, he⟩, H⟩
    repeat' (first | (refine zA ?_; first | refine zB ?_ | refine zC H ?_ | refine zD H ?_ | refine zE H fun _ _ H => ?_ | refine zF H fun _ _ H => ?_ | refine zG H fun _ H => ?_ | refine zH H fun _ H => ?_) | (refine zI ?_; first | refine zJ ?_ | refine zK ?_ | refine zL ?_ | refine zM ?_ | refine zN ?_ | refine zO ?_ | refine zP ?_ | refine zQ ?_ | refine zR ?_) | refine zS ?_)
    refine CW.cond rfl (fun h => ?_) (fun h => ?_)
    · have hi1 : i < l.length := by simpa using h
      have hi2 : i < m.length := by omega
      have hx : (l.map (Value.int .i64))[i]? = some (.int .i64 l[i]) := by simp [hi1]
      have hy : (m.map (Value.int .i64))[i]? = some (.int .i64 m[i]) := by simp [hi2]
      obtain ⟨b1, o1, m1, E1, f1, rfl, hb1, hm1⟩ := hv.at_ (by omega)
      obtain ⟨b2, o2, m2, E2, f2, rfl, hb2, hm2⟩ := hu.at_ (by omega)
      have g1 : m1[o1 + i * 1]? = some (.int .i64 l[i]) := by have := hm1 i 0 hi1 (by decide); rw [Nat.add_zero, Nat.mul_one, Nat.add_zero] at this; rw [Nat.mul_one, this]; exact hx
      have g2 : m2[o2 + i * 1]? = some (.int .i64 m[i]) := by have := hm2 i 0 hi2 (by decide); rw [Nat.add_zero, Nat.mul_one, Nat.add_zero] at this; rw [Nat.mul_one, this]; exact hy
      repeat' (first | (refine zA ?_; first | refine zB ?_ | refine zC H ?_ | refine zD H ?_ | refine zE H fun _ _ H => ?_ | refine zF H fun _ _ H => ?_ | refine zG H fun _ H => ?_ | refine zH H fun _ H => ?_) | (refine zI ?_; first | refine zJ ?_ | refine zK ?_ | refine zL ?_ | refine zM ?_ | refine zN ?_ | refine zO ?_ | refine zP ?_ | refine zQ ?_ | refine zR ?_) | refine zS ?_)
      first | refine CW.seqDraw mo H [0, 0, 3, 7, 0, 0, 48, 112, 255, 511] fun w H => ?_ | refine CW.draw mo H [0, 0, 3, 7, 0, 0, 48, 112, 255, 511] fun w H => ?_
      refine AnyW.seg (m := 10) (by kernel_rfl) (by kernel_rfl) H rfl ?_
      repeat' (first | (refine DrawP.nil ?_; intro w H) | (refine DrawP.go ?_; first | refine DrawP.cons rfl (fun τ w H => OpsW.st rfl (OpsW.nil ⟨rfl, H⟩)) ?_ | refine DrawP.cons rfl (fun τ w H => OpsW.ld H (by (first | exact p0 | exact p1 | exact p2 | exact p3 | exact p4 | exact p5 | exact p6 | exact p7)) rfl rfl rfl rfl (by rfl) rfl (OpsW.nil ⟨rfl, H⟩)) ?_ | refine DrawP.cons rfl (fun τ w H => OpsW.ldA H (by (first | exact p0 | exact p1 | exact p2 | exact p3 | exact p4 | exact p5 | exact p6 | exact p7)) rfl rfl rfl (by rfl) rfl (OpsW.nil ⟨rfl, H⟩)) ?_ | refine DrawP.cons rfl (fun τ w H => OpsW.ix (n := i) rfl rfl rfl rfl rfl rfl rfl hi1 rfl (OpsW.nil ⟨rfl, H⟩)) ?_ | refine DrawP.cons rfl (fun τ w H => OpsW.ix (n := i) rfl rfl rfl rfl rfl rfl rfl hi2 rfl (OpsW.nil ⟨rfl, H⟩)) ?_ | refine DrawP.cons rfl (fun τ w H => OpsW.ldh (H.has hb1) rfl rfl rfl rfl g1 rfl (OpsW.nil ⟨rfl, H⟩)) ?_ | refine DrawP.cons rfl (fun τ w H => OpsW.ldh (H.has hb2) rfl rfl rfl rfl g2 rfl (OpsW.nil ⟨rfl, H⟩)) ?_) | refine DrawP.split (fun h => ?_) (fun h => ?_))
      all_goals
       refine AnyW.done ?_
       repeat' (first | (refine zA ?_; first | refine zB ?_ | refine zC H ?_ | refine zD H ?_ | refine zE H fun _ _ H => ?_ | refine zF H fun _ _ H => ?_ | refine zG H fun _ H => ?_ | refine zH H fun _ H => ?_) | (refine zI ?_; first | refine zJ ?_ | refine zK ?_ | refine zL ?_ | refine zM ?_ | refine zN ?_ | refine zO ?_ | refine zP ?_ | refine zQ ?_ | refine zR ?_) | refine zS ?_)
       refine CW.cond rfl (fun h5 => ?_) (fun h5 => ?_)
       · repeat' (first | (refine zA ?_; first | refine zB ?_ | refine zC H ?_ | refine zD H ?_ | refine zE H fun _ _ H => ?_ | refine zF H fun _ _ H => ?_ | refine zG H fun _ H => ?_ | refine zH H fun _ H => ?_) | (refine zI ?_; first | refine zJ ?_ | refine zK ?_ | refine zL ?_ | refine zM ?_ | refine zN ?_ | refine zO ?_ | refine zP ?_ | refine zQ ?_ | refine zR ?_) | refine zS ?_)
         refine ret1 rfl ⟨?_, by (first | exact H | exact H.drop | exact H.d2 | exact H.d3 | exact H.d4 | exact H.d5 | exact H.d6 | exact H.d7)⟩
         have : ¬ l = m := fun e => by subst e; simp at h5
         rw [decide_eq_false this]
       · have he2 : l[i] = m[i] := by simpa using h5
         repeat' (first | (refine zA ?_; first | refine zB ?_ | refine zC H ?_ | refine zD H ?_ | refine zE H fun _ _ H => ?_ | refine zF H fun _ _ H => ?_ | refine zG H fun _ H => ?_ | refine zH H fun _ H => ?_) | (refine zI ?_; first | refine zJ ?_ | refine zK ?_ | refine zL ?_ | refine zM ?_ | refine zN ?_ | refine zO ?_ | refine zP ?_ | refine zQ ?_ | refine zR ?_) | refine zS ?_)
         exact ⟨i + 1, (by (repeat (first | (with_reducible exact Agree.refl _ _) | (with_reducible refine Agree.trim (by assumption) ?_) | refine Agree.upd ?_ rfl | exact Agree.mix' | refine Agree.mixL ?_ (fun j h => by simp only [Bool.or_eq_true, Bool.and_eq_true, Nat.beq_eq, Nat.ble_eq] at h ⊢; omega) rfl))), ⟨nat_succ hi1 hl, trivial⟩, ⟨⟨hi1, by rw [List.take_succ_eq_append_getElem hi1, List.take_succ_eq_append_getElem hi2, he, he2]⟩, H⟩, by omega⟩
    · have : i = l.length := by simp at h; omega
      subst this
      repeat' (first | (refine zA ?_; first | refine zB ?_ | refine zC H ?_ | refine zD H ?_ | refine zE H fun _ _ H => ?_ | refine zF H fun _ _ H => ?_ | refine zG H fun _ H => ?_ | refine zH H fun _ H => ?_) | (refine zI ?_; first | refine zJ ?_ | refine zK ?_ | refine zL ?_ | refine zM ?_ | refine zN ?_ | refine zO ?_ | refine zP ?_ | refine zQ ?_ | refine zR ?_) | refine zS ?_)
      refine ret1 rfl ⟨?_, by (first | exact H | exact H.drop | exact H.d2 | exact H.d3 | exact H.d4 | exact H.d5 | exact H.d6 | exact H.d7)⟩
      have : l = m := by rw [List.take_length, hlm, List.take_length] at he; exact he
      rw [decide_eq_true this]
end
end Go.Proofs.YtbmfpkpcljihgaaDoor.X
