/- Contracts of chapter 19 (holes): Of and Closed; factories in memory of their own; conditions: none. -/
import Derived.Test.YtbmfpkpcljihgaaDoorH19
namespace Go.Proofs.YtbmfpkpcljihgaaDoor.X
open Go Go.Proofs
set_option linter.unusedSimpArgs false
set_option linter.unusedVariables false
attribute [local irreducible] CW OpsW RetW Spec blk snap DrawP AnyW AnyM AnyN bits IntKind.wrap vec K.sensory namedF reach isHole K.weaken K.same
theorem SlR.star_ {A B : HP} {Rs : List HP} {v : Value} {sz n : Nat} {c : List Value} (h : SlR (A :: B :: Rs) v sz n c) : SlR (star A B :: Rs) v sz n c := by
  obtain ⟨h1, a, cap, e, hc, h2⟩ := h
  refine ⟨h1, a, cap, e, hc, ?_⟩
  rcases h2 with h2 | ⟨b, off, m, E, fr, h3, h4, h5⟩
  · exact .inl h2
  · refine .inr ⟨b, off, m, E, fr, h3, fun h hh => h4 h ?_, h5⟩
    simp only [stars] at hh ⊢
    rw [← star_assoc]; exact hh
theorem SlR.swap_ {A B : HP} {Rs : List HP} {v : Value} {sz n : Nat} {c : List Value} (h : SlR (A :: B :: Rs) v sz n c) : SlR (B :: A :: Rs) v sz n c := h.perm (.swap _ _ _)
def kvec (a : Option Addr) (cap : Nat) (l : List K) : HP := vec 41 a l.length cap 5 (l.flatMap K.l)
theorem kvec_mk {z w : World} {As : List HP} {a : Option Addr} {cap n : Nat} {E : TypeId} {c : List Value} {ks : List K} (H : Sat z w (vec E a n cap 5 c :: As)) (hE : E = 41) (hn : n = ks.length) (hc : c = ks.flatMap K.l) : Sat z w (kvec a cap ks :: As) := by
  subst hE hn hc; exact H
theorem kvec_open {z w : World} {As : List HP} {a : Option Addr} {cap : Nat} {ks : List K} (H : Sat z w (kvec a cap ks :: As)) : Sat z w (vec 41 a ks.length cap 5 (ks.flatMap K.l) :: As) := H
def facM (f : Fac) : HP := kvec f.pa f.pc f.parts
def facsM : List Fac → HP
  | [] => emp
  | f :: fs => star (facM f) (facsM fs)
theorem facsM_snoc (f : Fac) : ∀ fs : List Fac, facsM (fs ++ [f]) = star (facsM fs) (facM f)
  | [] => by show star (facM f) emp = star emp (facM f); rw [star_emp, emp_star]
  | g :: fs => by
    show star (facM g) (facsM (fs ++ [f])) = star (star (facM g) (facsM fs)) (facM f)
    rw [facsM_snoc f fs, star_assoc]
theorem facs_open {z : World} : ∀ (fs : List Fac) (w : World) (As : List HP), Sat z w (facsM fs :: As) → ∃ T : HP, (∀ h, T h → facsM fs h) ∧ (∀ Rs, ∀ f ∈ fs, Fac.ok (T :: Rs) f) ∧ Sat z w (T :: As) := by
  intro fs
  induction fs with
  | nil => intro w As H; exact ⟨emp, fun h e => e, fun Rs f hf => (by cases hf), H⟩
  | cons f fs ih =>
    intro w As H
    obtain ⟨T2, h2, s2, H⟩ := ih w _ (H.split.perm (.swap _ _ _))
    obtain ⟨T1, h1, s1, H⟩ := Sat.vopen (H.perm (.swap _ _ _))
    refine ⟨star T1 T2, ?_, ?_, H.join⟩
    · rintro h ⟨p, q, d, e, a, b⟩
      exact ⟨p, q, d, e, h1 _ a, h2 _ b⟩
    · intro Rs g hg
      rcases List.mem_cons.1 hg with rfl | hg
      · exact (s1 (T2 :: Rs)).star_
      · exact (SlR.swap_ (s2 (T1 :: Rs) g hg)).star_
section
variable {z w : World} {As : List HP}
set_option maxRecDepth 20000 in
theorem hole_of {fs : List Fac} {v : Value} (f : Fac) (H : Sat z w As) (hl : fs.length ≤ 1000000) (hv : SlR As v 4 fs.length (fs.flatMap Fac.c)) (hok : ∀ f ∈ fs, f.ok As ∧ f.parts.length ≤ 1000000) (hf : f.ok As) (hfl : f.parts.length ≤ 1000000) :
    Spec cf 79 #[.agg f.c.toArray, v] w fun e w' => ∃ a cap, e = .slice a (f.parts.filter (isHole fs)).length cap ∧ Sat z w' (kvec a cap (f.parts.filter (isHole fs)) :: As) := by
  obtain ⟨a, cp, rfl⟩ := lenW hv
  refine enter (l := [.agg f.c.toArray, .slice a fs.length cp]) Tryd.func79 rfl rfl rfl rfl rfl ?_
  repeat' (first | (refine zA ?_; first | refine zB ?_ | refine zC H ?_ | refine zD H ?_ | refine zE H fun _ _ H => ?_ | refine zF H fun _ _ H => ?_ | refine zG H fun _ H => ?_ | refine zH H fun _ H => ?_) | (refine zI ?_; first | refine zJ ?_ | refine zK ?_ | refine zL ?_ | refine zM ?_ | refine zN ?_ | refine zO ?_ | refine zP ?_ | refine zQ ?_ | refine zR ?_) | refine zS ?_)
  have H0 := ((Sat.vnil (E := 41) (sz := 5) H).perm (.swap _ _ _)).drop
  refine CW.loopF (X := Nat × Option Addr × Nat) (fun j => Nat.beq j 5 || Nat.beq j 6 || Nat.beq j 7 || Nat.ble 11 j) (fun s => [(11, .int .i64 (s.1 : Int)), (5, .slice s.2.1 ((f.parts.take s.1).filter (isHole fs)).length s.2.2)])
    (fun s w => s.1 ≤ f.parts.length ∧ Sat z w (kvec s.2.1 s.2.2 ((f.parts.take s.1).filter (isHole fs)) :: As)) (fun s => f.parts.length - s.1) (0, none, 0) ⟨rfl, ae rfl (by simp), trivial⟩ ⟨Nat.zero_le _, by simpa [kvec] using H0⟩ ?_
  clear H0 H
  rintro ⟨i, oa, oc⟩ τ w ⟨hi, H⟩
  dsimp only at hi H
  repeat' (first | (refine zA ?_; first | refine zB ?_ | refine zC H ?_ | refine zD H ?_ | refine zE H fun _ _ H => ?_ | refine zF H fun _ _ H => ?_ | refine zG H fun _ H => ?_ | refine zH H fun _ H => ?_) | (refine zI ?_; first | refine zJ ?_ | refine zK ?_ | refine zL ?_ | refine zM ?_ | refine zN ?_ | refine zO ?_ | refine zP ?_ | refine zQ ?_ | refine zR ?_) | refine zS ?_)
  refine CW.cond rfl (fun h => ?_) (fun h => ?_)
  · have hi' : i < f.parts.length := by simpa using h
    have hvs := fl_take K.l 5 K.l_len f.parts [] i hi'
    rw [List.append_nil] at hvs
    have et : (f.parts.take (i + 1)).filter (isHole fs) = (f.parts.take i).filter (isHole fs) ++ (if isHole fs f.parts[i] then [f.parts[i]] else []) := by
      rw [List.take_succ_eq_append_getElem hi', List.filter_append, List.filter_cons]
      cases isHole fs f.parts[i] <;> simp
    repeat' (first | (refine zA ?_; first | refine zB ?_ | refine zC H ?_ | refine zD H ?_ | refine zE H fun _ _ H => ?_ | refine zF H fun _ _ H => ?_ | refine zG H fun _ H => ?_ | refine zH H fun _ H => ?_) | (refine zI ?_; first | refine zJ ?_ | refine zK ?_ | refine zL ?_ | refine zM ?_ | refine zN ?_ | refine zO ?_ | refine zP ?_ | refine zQ ?_ | refine zR ?_) | refine zS ?_)
    refine OpsW.ixldA H (SlR.tail hf) rfl (fun _ => rfl) rfl rfl rfl rfl rfl rfl rfl rfl hi' hvs rfl rfl fun pp => ?_
    repeat' (first | (refine zA ?_; first | refine zB ?_ | refine zC H ?_ | refine zD H ?_ | refine zE H fun _ _ H => ?_ | refine zF H fun _ _ H => ?_ | refine zG H fun _ H => ?_ | refine zH H fun _ H => ?_) | (refine zI ?_; first | refine zJ ?_ | refine zK ?_ | refine zL ?_ | refine zM ?_ | refine zN ?_ | refine zO ?_ | refine zP ?_ | refine zQ ?_ | refine zR ?_) | refine zS ?_)
    refine OpsW.call rfl rfl rfl (hole_is H hl hv.tail.tail (fun g hg => ⟨SlR.tail (SlR.tail (hok g hg).1), (hok g hg).2⟩) f.parts[i]) ?_
    rintro _ w ⟨rfl, H⟩
    cases hh : isHole fs f.parts[i]
    · rw [hh] at et
      simp only [Bool.false_eq_true, if_false, List.append_nil] at et
      repeat' (first | (refine zA ?_; first | refine zB ?_ | refine zC H ?_ | refine zD H ?_ | refine zE H fun _ _ H => ?_ | refine zF H fun _ _ H => ?_ | refine zG H fun _ H => ?_ | refine zH H fun _ H => ?_) | (refine zI ?_; first | refine zJ ?_ | refine zK ?_ | refine zL ?_ | refine zM ?_ | refine zN ?_ | refine zO ?_ | refine zP ?_ | refine zQ ?_ | refine zR ?_) | refine zS ?_)
      exact ⟨(i + 1, oa, oc), (by (repeat (first | (with_reducible exact Agree.refl _ _) | (with_reducible refine Agree.trim (by assumption) ?_) | refine Agree.upd ?_ rfl | exact Agree.mix' | refine Agree.mixL ?_ (fun j h => by simp only [Bool.or_eq_true, Bool.and_eq_true, Nat.beq_eq, Nat.ble_eq] at h ⊢; omega) rfl))), ⟨nat_succ hi' (by omega), ae rfl (by rw [et]), trivial⟩, ⟨hi', by show Sat z w (kvec oa oc ((f.parts.take (i + 1)).filter (isHole fs)) :: As); rw [et]; exact H.drop⟩, by show f.parts.length - (i + 1) < f.parts.length - i; omega⟩
    · rw [hh] at et
      simp only [if_true] at et
      repeat' (first | (refine zA ?_; first | refine zB ?_ | refine zC H ?_ | refine zD H ?_ | refine zE H fun _ _ H => ?_ | refine zF H fun _ _ H => ?_ | refine zG H fun _ H => ?_ | refine zH H fun _ H => ?_) | (refine zI ?_; first | refine zJ ?_ | refine zK ?_ | refine zL ?_ | refine zM ?_ | refine zN ?_ | refine zO ?_ | refine zP ?_ | refine zQ ?_ | refine zR ?_) | refine zS ?_)
      refine OpsW.bsl H rfl rfl rfl rfl rfl rfl rfl rfl fun bb w H => ?_
      repeat' (first | (refine zA ?_; first | refine zB ?_ | refine zC H ?_ | refine zD H ?_ | refine zE H fun _ _ H => ?_ | refine zF H fun _ _ H => ?_ | refine zG H fun _ H => ?_ | refine zH H fun _ H => ?_) | (refine zI ?_; first | refine zJ ?_ | refine zK ?_ | refine zL ?_ | refine zM ?_ | refine zN ?_ | refine zO ?_ | refine zP ?_ | refine zQ ?_ | refine zR ?_) | refine zS ?_)
      refine OpsW.vapp (n2 := 1) (sz := 5) (c2 := f.parts[i].l) H (pS (pS p0)) (SlR.of_blk (r := []) rfl (Nat.le_refl 1)) rfl (by omega) (by
        have := List.length_filter_le (isHole fs) (f.parts.take i)
        rw [List.length_take] at this
        show ((f.parts.take i).filter (isHole fs)).length + 1 ≤ _
        omega) rfl rfl rfl rfl rfl rfl rfl rfl rfl fun a2 cap2 w H => ?_
      repeat' (first | (refine zA ?_; first | refine zB ?_ | refine zC H ?_ | refine zD H ?_ | refine zE H fun _ _ H => ?_ | refine zF H fun _ _ H => ?_ | refine zG H fun _ H => ?_ | refine zH H fun _ H => ?_) | (refine zI ?_; first | refine zJ ?_ | refine zK ?_ | refine zL ?_ | refine zM ?_ | refine zN ?_ | refine zO ?_ | refine zP ?_ | refine zQ ?_ | refine zR ?_) | refine zS ?_)
      refine ⟨(i + 1, a2, cap2), (by (repeat (first | (with_reducible exact Agree.refl _ _) | (with_reducible refine Agree.trim (by assumption) ?_) | refine Agree.upd ?_ rfl | exact Agree.mix' | refine Agree.mixL ?_ (fun j h => by simp only [Bool.or_eq_true, Bool.and_eq_true, Nat.beq_eq, Nat.ble_eq] at h ⊢; omega) rfl))), ⟨nat_succ hi' (by omega), ae rfl (by rw [et, List.length_append]; rfl), trivial⟩, ⟨hi', ?_⟩, by show f.parts.length - (i + 1) < f.parts.length - i; omega⟩
      show Sat z w (kvec a2 cap2 ((f.parts.take (i + 1)).filter (isHole fs)) :: As)
      rw [et, kvec, List.length_append, List.flatMap_append]
      have e1 : [f.parts[i]].flatMap K.l = f.parts[i].l := by simp
      rw [e1]
      exact (H.perm (pS (pS p0)).symm).drop.drop
  · have : i = f.parts.length := by simp at h; omega
    subst this
    rw [List.take_length] at H ⊢
    repeat' (first | (refine zA ?_; first | refine zB ?_ | refine zC H ?_ | refine zD H ?_ | refine zE H fun _ _ H => ?_ | refine zF H fun _ _ H => ?_ | refine zG H fun _ H => ?_ | refine zH H fun _ H => ?_) | (refine zI ?_; first | refine zJ ?_ | refine zK ?_ | refine zL ?_ | refine zM ?_ | refine zN ?_ | refine zO ?_ | refine zP ?_ | refine zQ ?_ | refine zR ?_) | refine zS ?_)
    exact ret1 rfl ⟨oa, oc, rfl, H⟩
end
end Go.Proofs.YtbmfpkpcljihgaaDoor.X
