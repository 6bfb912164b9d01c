/- The contract of the comparison of two rows of keys that are alike; conditions: none. -/
import Derived.Test.YtdbnkimegdogjaaA19
namespace Go.Proofs.Ytdbnkimegdogjaa.X
open Go Go.Proofs
set_option linter.unusedSimpArgs false
set_option linter.unusedVariables false
attribute [local irreducible] CW OpsW RetW Spec blk snap DrawP AnyW AnyM AnyN bits IntKind.wrap vec K.sensory namedF
section
variable {z w : World} {As : List HP}
set_option maxRecDepth 20000 in
theorem sameKeysR_ {v1 v2 : Value} (H : Sat z w As) (l : List K) (hl : l.length ≤ 1000) (h1 : SlR As v1 5 l.length (l.flatMap K.l)) (h2 : SlR As v2 5 l.length (l.flatMap K.l)) :
    Spec cf 11 #[v1, v2] w fun e w' => e = .bool true ∧ Sat z w' As := by
  obtain ⟨a1, cap1, rfl⟩ := lenW h1
  obtain ⟨a2, cap2, rfl⟩ := lenW h2
  refine enter (l := [.slice a1 l.length cap1, .slice a2 l.length cap2]) Try.func11 rfl rfl rfl rfl rfl ?_
  repeat' (first | (refine zA ?_; first | refine zB ?_ | refine zC H ?_ | refine zD H ?_ | refine zE H fun _ _ H => ?_ | refine zF H fun _ _ H => ?_ | refine zG H fun _ H => ?_ | refine zH H fun _ H => ?_) | (refine zI ?_; first | refine zJ ?_ | refine zK ?_ | refine zL ?_ | refine zM ?_ | refine zN ?_ | refine zO ?_ | refine zP ?_ | refine zQ ?_ | refine zR ?_) | refine zS ?_)
  refine CW.cond rfl (fun h => absurd h (by simp)) (fun h => ?_)
  repeat' (first | (refine zA ?_; first | refine zB ?_ | refine zC H ?_ | refine zD H ?_ | refine zE H fun _ _ H => ?_ | refine zF H fun _ _ H => ?_ | refine zG H fun _ H => ?_ | refine zH H fun _ H => ?_) | (refine zI ?_; first | refine zJ ?_ | refine zK ?_ | refine zL ?_ | refine zM ?_ | refine zN ?_ | refine zO ?_ | refine zP ?_ | refine zQ ?_ | refine zR ?_) | refine zS ?_)
  refine CW.loopF (X := Nat) (fun j => Nat.beq j 5 || Nat.beq j 6 || Nat.ble 12 j) (fun i => [(5, .int .i64 (i : Int))]) (fun i w => i ≤ l.length ∧ Sat z w As) (fun i => l.length - i) 0 ⟨rfl, trivial⟩ ⟨Nat.zero_le _, H⟩ ?_
  clear H
  rintro i τ w ⟨hi, H⟩
  repeat' (first | (refine zA ?_; first | refine zB ?_ | refine zC H ?_ | refine zD H ?_ | refine zE H fun _ _ H => ?_ | refine zF H fun _ _ H => ?_ | refine zG H fun _ H => ?_ | refine zH H fun _ H => ?_) | (refine zI ?_; first | refine zJ ?_ | refine zK ?_ | refine zL ?_ | refine zM ?_ | refine zN ?_ | refine zO ?_ | refine zP ?_ | refine zQ ?_ | refine zR ?_) | refine zS ?_)
  refine CW.cond rfl (fun h => ?_) (fun h => ?_)
  · have hi1 : i < l.length := by simpa using h
    obtain ⟨b1, o1, m1, E1, f1, rfl, hb1, hm1⟩ := h1.at_ (by omega)
    obtain ⟨b2, o2, m2, E2, f2, rfl, hb2, hm2⟩ := h2.at_ (by omega)
    have hkl : ∀ j v, (l[i].l)[j]? = some v → (l.flatMap K.l)[i * 5 + j]? = some v := fun j v hj => by
      have hj5 : j < 5 := (List.getElem?_eq_some_iff.1 hj).1
      have := fl_get K.l 5 K.l_len l [] i j hi1 hj5
      rw [List.append_nil] at this
      rw [this]; exact hj
    have g1 : ∀ j v, (l[i].l)[j]? = some v → m1[o1 + i * 5 + j]? = some v := fun j v hj => by
      rw [hm1 i j hi1 (List.getElem?_eq_some_iff.1 hj).1]; exact hkl j v hj
    have g2 : ∀ j v, (l[i].l)[j]? = some v → m2[o2 + i * 5 + j]? = some v := fun j v hj => by
      rw [hm2 i j hi1 (List.getElem?_eq_some_iff.1 hj).1]; exact hkl j v hj
    obtain ⟨k, hk⟩ : ∃ k, k = l[i] := ⟨_, rfl⟩
    rw [← hk] at g1 g2
    repeat' (first | (refine zA ?_; first | refine zB ?_ | refine zC H ?_ | refine zD H ?_ | refine zE H fun _ _ H => ?_ | refine zF H fun _ _ H => ?_ | refine zG H fun _ H => ?_ | refine zH H fun _ H => ?_) | (refine zI ?_; first | refine zJ ?_ | refine zK ?_ | refine zL ?_ | refine zM ?_ | refine zN ?_ | refine zO ?_ | refine zP ?_ | refine zQ ?_ | refine zR ?_) | refine zS ?_)
    first | refine CW.seqDraw mo H [0, 0, 3, 7, 0, 0, 48, 112, 255, 511] fun w H => ?_ | refine CW.draw mo H [0, 0, 3, 7, 0, 0, 48, 112, 255, 511] fun w H => ?_
    refine AnyW.seg (m := 8) (by kernel_rfl) (by kernel_rfl) H rfl ?_
    repeat' (first | (refine DrawP.nil ?_; intro w H) | (refine DrawP.go ?_; first | refine DrawP.cons rfl (fun τ w H => OpsW.st rfl (OpsW.nil ⟨rfl, H⟩)) ?_ | refine DrawP.cons rfl (fun τ w H => OpsW.ld H (by (first | exact p0 | exact p1 | exact p2 | exact p3 | exact p4 | exact p5 | exact p6 | exact p7)) rfl rfl rfl rfl (by rfl) rfl (OpsW.nil ⟨rfl, H⟩)) ?_ | refine DrawP.cons rfl (fun τ w H => OpsW.ldA H (by (first | exact p0 | exact p1 | exact p2 | exact p3 | exact p4 | exact p5 | exact p6 | exact p7)) rfl rfl rfl (by rfl) rfl (OpsW.nil ⟨rfl, H⟩)) ?_ | refine DrawP.cons rfl (fun τ w H => OpsW.ix (n := i) rfl rfl rfl rfl rfl rfl rfl hi1 rfl (OpsW.nil ⟨rfl, H⟩)) ?_ | refine DrawP.cons rfl (fun τ w H => OpsW.ldAh (vs := k.l) (H.has hb1) rfl rfl rfl rfl g1 rfl (OpsW.nil ⟨rfl, H⟩)) ?_ | refine DrawP.cons rfl (fun τ w H => OpsW.ldAh (vs := k.l) (H.has hb2) rfl rfl rfl rfl g2 rfl (OpsW.nil ⟨rfl, H⟩)) ?_) | refine DrawP.split (fun h => ?_) (fun h => ?_))
    refine AnyW.seg (m := 10) (by kernel_rfl) (by kernel_rfl) H rfl ?_
    repeat' (first | (refine DrawP.nil ?_; intro w H) | (refine DrawP.go ?_; first | refine DrawP.cons rfl (fun τ w H => OpsW.st rfl (OpsW.nil ⟨rfl, H⟩)) ?_ | refine DrawP.cons rfl (fun τ w H => OpsW.ld H (by (first | exact p0 | exact p1 | exact p2 | exact p3 | exact p4 | exact p5 | exact p6 | exact p7)) rfl rfl rfl rfl (by rfl) rfl (OpsW.nil ⟨rfl, H⟩)) ?_ | refine DrawP.cons rfl (fun τ w H => OpsW.ldA H (by (first | exact p0 | exact p1 | exact p2 | exact p3 | exact p4 | exact p5 | exact p6 | exact p7)) rfl rfl rfl (by rfl) rfl (OpsW.nil ⟨rfl, H⟩)) ?_ | (refine DrawP.goCall ?_; first | refine DrawP.cons rfl (fun τ w H => OpsW.call rfl rfl rfl (sameKey _ _ _ H k k) fun _ w h => by obtain ⟨rfl, H⟩ := h; exact OpsW.nil ⟨rfl, H⟩) ?_)) | refine DrawP.split (fun h => ?_) (fun h => ?_))
    refine AnyW.done ?_
    rw [show K.same k k = true from (K.same_iff _ _).2 rfl]
    repeat' (first | (refine zA ?_; first | refine zB ?_ | refine zC H ?_ | refine zD H ?_ | refine zE H fun _ _ H => ?_ | refine zF H fun _ _ H => ?_ | refine zG H fun _ H => ?_ | refine zH H fun _ H => ?_) | (refine zI ?_; first | refine zJ ?_ | refine zK ?_ | refine zL ?_ | refine zM ?_ | refine zN ?_ | refine zO ?_ | refine zP ?_ | refine zQ ?_ | refine zR ?_) | refine zS ?_)
    exact ⟨i + 1, (by (repeat (first | (with_reducible exact Agree.refl _ _) | (with_reducible refine Agree.trim (by assumption) ?_) | refine Agree.upd ?_ rfl | exact Agree.mix' | refine Agree.mixL ?_ (fun j h => by simp only [Bool.or_eq_true, Bool.and_eq_true, Nat.beq_eq, Nat.ble_eq] at h ⊢; omega) rfl))), ⟨nat_succ hi1 (by omega), trivial⟩, ⟨hi1, H⟩, by omega⟩
  · have : i = l.length := by simp at h; omega
    subst this
    repeat' (first | (refine zA ?_; first | refine zB ?_ | refine zC H ?_ | refine zD H ?_ | refine zE H fun _ _ H => ?_ | refine zF H fun _ _ H => ?_ | refine zG H fun _ H => ?_ | refine zH H fun _ H => ?_) | (refine zI ?_; first | refine zJ ?_ | refine zK ?_ | refine zL ?_ | refine zM ?_ | refine zN ?_ | refine zO ?_ | refine zP ?_ | refine zQ ?_ | refine zR ?_) | refine zS ?_)
    exact ret1 rfl ⟨rfl, H⟩
end
end Go.Proofs.Ytdbnkimegdogjaa.X
