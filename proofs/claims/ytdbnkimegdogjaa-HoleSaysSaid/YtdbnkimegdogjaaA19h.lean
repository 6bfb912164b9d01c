/- Contracts of the document's search for holes (chapter 19); conditions: none. -/
import Derived.Test.YtdbnkimegdogjaaA19t
import Derived.Test.YtdbnkimegdogjaaH19s
import Derived.Test.YtdbnkimegdogjaaX27
namespace Go.Proofs.Ytdbnkimegdogjaa.X
open Go Go.Proofs
set_option linter.unusedSimpArgs false
set_option linter.unusedVariables false
theorem klf_scal (l : List K) : (l.flatMap K.l).all scal = true := by
  rw [List.all_eq_true]; intro x hx
  obtain ⟨k, _, hk⟩ := List.mem_flatMap.1 hx
  simp only [K.l, List.mem_cons, List.not_mem_nil, or_false] at hk
  rcases hk with rfl | rfl | rfl | rfl | rfl <;> rfl
theorem namedF_no {fs : List Fac} {k : K} (h : ¬ k.kind = 9) : namedF fs k = none := if_neg h
attribute [local irreducible] CW OpsW RetW Spec blk snap DrawP AnyW AnyM AnyN bits IntKind.wrap vec K.sensory namedF reach isHole K.valid K.weaken K.same
section
variable {z w : World} {As : List HP}
theorem hole_closed {fs : List Fac} {v : Value} (f : Fac) (H : Sat z w As) (hl : fs.length ≤ 1000000) (hv : SlR As v 4 fs.length (fs.flatMap Fac.c)) (hok : ∀ f ∈ fs, f.ok As ∧ f.parts.length ≤ 1000000) (hf : f.ok As) (hfl : f.parts.length ≤ 1000000) :
    Spec cf 13 #[.agg f.c.toArray, v] w fun e w' => e = .bool (decide ((f.parts.filter (isHole fs)).length = 0)) ∧ Sat z w' As := by
  obtain ⟨a, cp, rfl⟩ := lenW hv
  refine enter (l := [.agg f.c.toArray, .slice a fs.length cp]) Try.func13 rfl rfl rfl rfl rfl ?_
  repeat' (first | (refine zA ?_; first | refine zB ?_ | refine zC H ?_ | refine zD H ?_ | refine zE H fun _ _ H => ?_ | refine zF H fun _ _ H => ?_ | refine zG H fun _ H => ?_ | refine zH H fun _ H => ?_) | (refine zI ?_; first | refine zJ ?_ | refine zK ?_ | refine zL ?_ | refine zM ?_ | refine zN ?_ | refine zO ?_ | refine zP ?_ | refine zQ ?_ | refine zR ?_) | refine zS ?_)
  refine OpsW.call rfl rfl rfl (hole_of f H.drop hl hv hok hf hfl) ?_
  rintro _ w ⟨ra, rc, rfl, H⟩
  repeat' (first | (refine zA ?_; first | refine zB ?_ | refine zC H ?_ | refine zD H ?_ | refine zE H fun _ _ H => ?_ | refine zF H fun _ _ H => ?_ | refine zG H fun _ H => ?_ | refine zH H fun _ H => ?_) | (refine zI ?_; first | refine zJ ?_ | refine zK ?_ | refine zL ?_ | refine zM ?_ | refine zN ?_ | refine zO ?_ | refine zP ?_ | refine zQ ?_ | refine zR ?_) | refine zS ?_)
  refine ret1 rfl ⟨?_, by (first | exact H | exact H.drop | exact H.d2 | exact H.d3 | exact H.d4 | exact H.d5 | exact H.d6 | exact H.d7)⟩
  congr 1
  rw [Bool.eq_iff_iff]
  simp
theorem find8_ {fs : List Fac} {v : Value} (H : Sat z w As) (hv : SlR As v 4 fs.length (fs.flatMap Fac.c)) (hl : fs.length ≤ 1000000) (k : K) (hk9 : k.kind = 9) :
    Spec cf 17 #[k.v, v] w fun e w' => e = .int .i64 (match namedF fs k with | some i => i | none => -1) ∧ Sat z w' As := by
  obtain ⟨a, cp, rfl⟩ := lenW hv
  refine enter (l := [k.v, .slice a fs.length cp]) Try.func17 rfl rfl rfl rfl rfl ?_
  repeat' (first | (refine zA ?_; first | refine zB ?_ | refine zC H ?_ | refine zD H ?_ | refine zE H fun _ _ H => ?_ | refine zF H fun _ _ H => ?_ | refine zG H fun _ H => ?_ | refine zH H fun _ H => ?_) | (refine zI ?_; first | refine zJ ?_ | refine zK ?_ | refine zL ?_ | refine zM ?_ | refine zN ?_ | refine zO ?_ | refine zP ?_ | refine zQ ?_ | refine zR ?_) | refine zS ?_)
  rename_i bk _
  replace H : Sat z _ (blk bk 24 k.l :: As) := H
  refine CW.loopF (X := Nat) (fun j => Nat.ble 5 j) (fun i => [(5, .int .i64 (i : Int))]) (fun i w => (i ≤ fs.length ∧ ∀ j (hj : j < fs.length), j < i → k.names fs[j] = false) ∧ Sat z w (blk bk 24 k.l :: As)) (fun i => fs.length - i) 0 ⟨rfl, trivial⟩ ⟨⟨Nat.zero_le _, fun j _ hj => absurd hj (Nat.not_lt_zero j)⟩, H⟩ ?_
  clear H
  rintro i τ w ⟨⟨hi, hne⟩, H⟩
  repeat' (first | (refine zA ?_; first | refine zB ?_ | refine zC H ?_ | refine zD H ?_ | refine zE H fun _ _ H => ?_ | refine zF H fun _ _ H => ?_ | refine zG H fun _ H => ?_ | refine zH H fun _ H => ?_) | (refine zI ?_; first | refine zJ ?_ | refine zK ?_ | refine zL ?_ | refine zM ?_ | refine zN ?_ | refine zO ?_ | refine zP ?_ | refine zQ ?_ | refine zR ?_) | refine zS ?_)
  refine CW.cond rfl (fun h => ?_) (fun h => ?_)
  case refine_2 =>
    have hil : i = fs.length := by simp at h; omega
    have e : namedF fs k = none := by
      have e0 : fs.findIdx? k.names = none := by
        rw [List.findIdx?_eq_none_iff]
        intro y hy
        obtain ⟨j, hj, rfl⟩ := List.mem_iff_getElem.1 hy
        exact hne j hj (by omega)
      with_unfolding_all rw [namedF, if_pos hk9, e0]
    rw [e]
    repeat' (first | (refine zA ?_; first | refine zB ?_ | refine zC H ?_ | refine zD H ?_ | refine zE H fun _ _ H => ?_ | refine zF H fun _ _ H => ?_ | refine zG H fun _ H => ?_ | refine zH H fun _ H => ?_) | (refine zI ?_; first | refine zJ ?_ | refine zK ?_ | refine zL ?_ | refine zM ?_ | refine zN ?_ | refine zO ?_ | refine zP ?_ | refine zQ ?_ | refine zR ?_) | refine zS ?_)
    exact ret1 rfl ⟨rfl, H.drop⟩
  have hi' : i < fs.length := by simpa using h
  obtain ⟨b, off, m, E, fr, rfl, hb, hm⟩ := hv.at_ (by omega)
  have hg : ∀ o, o < 4 → m[off + i * 4 + o]? = (fs[i].c)[o]? := fun o ho => (hm i o hi' ho).trans (by
    have := fl_get Fac.c 4 Fac.c_len fs [] i o hi' ho
    rwa [List.append_nil] at this)
  repeat' (first | (refine zA ?_; first | refine zB ?_ | refine zC H ?_ | refine zD H ?_ | refine zE H fun _ _ H => ?_ | refine zF H fun _ _ H => ?_ | refine zG H fun _ H => ?_ | refine zH H fun _ H => ?_) | (refine zI ?_; first | refine zJ ?_ | refine zK ?_ | refine zL ?_ | refine CW.seqDc ?_ | refine CW.seqDb ?_ | refine CW.seqDl ?_ | refine CW.seqDs ?_ | refine CW.seqDk ?_ | refine zN ?_ | refine zO ?_ | refine zP ?_ | refine zQ ?_ | refine zR ?_) | refine zS ?_)
  (first | refine CW.seqDraw mo H [0, 0, 3, 7, 15, 0, 32, 127, 255, 511, 511, 2047, 4095, 8191, 511, 16895, 65535, 131071] fun w H => ?_ | refine CW.draw mo H [0, 0, 3, 7, 15, 0, 32, 127, 255, 511, 511, 2047, 4095, 8191, 511, 16895, 65535, 131071] fun w H => ?_); refine AnyW.seg (m := 18) (by kernel_rfl) (by kernel_rfl) H rfl ?_
  repeat' (first | (refine DrawP.nil ?_; intro w H) | (refine DrawP.go ?_; first | refine DrawP.cons rfl (fun τ w H => OpsW.st rfl (OpsW.nil ⟨rfl, H⟩)) ?_ | refine DrawP.cons rfl (fun τ w H => OpsW.ld H (by (first | exact p0 | exact p1 | exact p2 | exact p3 | exact p4 | exact p5 | exact p6 | exact p7)) rfl rfl rfl rfl (by rfl) rfl (OpsW.nil ⟨rfl, H⟩)) ?_ | refine DrawP.cons rfl (fun τ w H => OpsW.ldA H (by (first | exact p0 | exact p1 | exact p2 | exact p3 | exact p4 | exact p5 | exact p6 | exact p7)) rfl rfl rfl (by rfl) rfl (OpsW.nil ⟨rfl, H⟩)) ?_ | refine DrawP.cons rfl (fun τ w H => OpsW.ix (n := i) rfl rfl rfl rfl rfl rfl rfl hi' rfl (OpsW.nil ⟨rfl, H⟩)) ?_ | refine DrawP.cons rfl (fun τ w H => OpsW.ldh (H.has hb.tail) rfl rfl rfl rfl (hg 0 (by decide)) rfl (OpsW.nil ⟨rfl, H⟩)) ?_ | refine DrawP.cons rfl (fun τ w H => OpsW.ldh (H.has hb.tail) rfl rfl rfl rfl (hg 1 (by decide)) rfl (OpsW.nil ⟨rfl, H⟩)) ?_) | refine DrawP.split (fun h => ?_) (fun h => ?_))
  all_goals
    refine AnyW.done ?_
  · have hid : (fs[i].id == k.id) = true := ‹_›
    refine CW.cond rfl (fun h5 => ?_) (fun h5 => ?_)
    · have hn : k.names fs[i] = true := by unfold K.names; rw [hid]; exact h5
      have e : fs.findIdx? k.names = some i := by
        rw [List.findIdx?_eq_some_iff_getElem]
        exact ⟨hi', hn, fun j hj => by rw [hne j (by omega) hj]; simp⟩
      have hd : fs.getD i ⟨0, 0, false, none, 0, []⟩ = fs[i] := by simp [hi']
      have hnF : namedF fs k = if fs[i].sealed then some i else none := by
        with_unfolding_all rw [namedF, if_pos hk9, e]
        simp only [hd]
      rw [hnF]
      repeat' (first | (refine zA ?_; first | refine zB ?_ | refine zC H ?_ | refine zD H ?_ | refine zE H fun _ _ H => ?_ | refine zF H fun _ _ H => ?_ | refine zG H fun _ H => ?_ | refine zH H fun _ H => ?_) | (refine zI ?_; first | refine zJ ?_ | refine zK ?_ | refine zL ?_ | refine CW.seqDc ?_ | refine CW.seqDb ?_ | refine CW.seqDl ?_ | refine CW.seqDs ?_ | refine CW.seqDk ?_ | refine zN ?_ | refine zO ?_ | refine zP ?_ | refine zQ ?_ | refine zR ?_) | refine zS ?_)
      refine OpsW.ix (n := i) rfl rfl rfl rfl rfl rfl rfl hi' rfl ?_
      repeat' (first | (refine zA ?_; first | refine zB ?_ | refine zC H ?_ | refine zD H ?_ | refine zE H fun _ _ H => ?_ | refine zF H fun _ _ H => ?_ | refine zG H fun _ H => ?_ | refine zH H fun _ H => ?_) | (refine zI ?_; first | refine zJ ?_ | refine zK ?_ | refine zL ?_ | refine CW.seqDc ?_ | refine CW.seqDb ?_ | refine CW.seqDl ?_ | refine CW.seqDs ?_ | refine CW.seqDk ?_ | refine zN ?_ | refine zO ?_ | refine zP ?_ | refine zQ ?_ | refine zR ?_) | refine zS ?_)
      refine OpsW.ldh (H.has hb.tail) rfl rfl rfl rfl (hg 2 (by decide)) rfl ?_
      cases hs : fs[i].sealed
      · repeat' (first | (refine zA ?_; first | refine zB ?_ | refine zC H ?_ | refine zD H ?_ | refine zE H fun _ _ H => ?_ | refine zF H fun _ _ H => ?_ | refine zG H fun _ H => ?_ | refine zH H fun _ H => ?_) | (refine zI ?_; first | refine zJ ?_ | refine zK ?_ | refine zL ?_ | refine CW.seqDc ?_ | refine CW.seqDb ?_ | refine CW.seqDl ?_ | refine CW.seqDs ?_ | refine CW.seqDk ?_ | refine zN ?_ | refine zO ?_ | refine zP ?_ | refine zQ ?_ | refine zR ?_) | refine zS ?_)
        exact ret1 rfl ⟨rfl, H.drop⟩
      · repeat' (first | (refine zA ?_; first | refine zB ?_ | refine zC H ?_ | refine zD H ?_ | refine zE H fun _ _ H => ?_ | refine zF H fun _ _ H => ?_ | refine zG H fun _ H => ?_ | refine zH H fun _ H => ?_) | (refine zI ?_; first | refine zJ ?_ | refine zK ?_ | refine zL ?_ | refine CW.seqDc ?_ | refine CW.seqDb ?_ | refine CW.seqDl ?_ | refine CW.seqDs ?_ | refine CW.seqDk ?_ | refine zN ?_ | refine zO ?_ | refine zP ?_ | refine zQ ?_ | refine zR ?_) | refine zS ?_)
        exact ret1 rfl ⟨rfl, H.drop⟩
    · repeat' (first | (refine zA ?_; first | refine zB ?_ | refine zC H ?_ | refine zD H ?_ | refine zE H fun _ _ H => ?_ | refine zF H fun _ _ H => ?_ | refine zG H fun _ H => ?_ | refine zH H fun _ H => ?_) | (refine zI ?_; first | refine zJ ?_ | refine zK ?_ | refine zL ?_ | refine CW.seqDc ?_ | refine CW.seqDb ?_ | refine CW.seqDl ?_ | refine CW.seqDs ?_ | refine CW.seqDk ?_ | refine zN ?_ | refine zO ?_ | refine zP ?_ | refine zQ ?_ | refine zR ?_) | refine zS ?_)
      refine ⟨i + 1, (by (repeat (first | (with_reducible exact Agree.refl _ _) | (with_reducible refine Agree.trim (by assumption) ?_) | refine Agree.upd ?_ rfl | exact Agree.mix' | refine Agree.mixL ?_ (fun j h => by simp only [Bool.or_eq_true, Bool.and_eq_true, Nat.beq_eq, Nat.ble_eq] at h ⊢; omega) rfl))), ⟨nat_succ hi' (by omega), trivial⟩, ⟨⟨hi', fun j hj hji => ?_⟩, H⟩, by omega⟩
      by_cases e : j = i
      · subst e; unfold K.names; rw [hid]; exact h5
      · exact hne j hj (by omega)
  · have hid : (fs[i].id == k.id) = false := ‹_›
    repeat' (first | (refine zA ?_; first | refine zB ?_ | refine zC H ?_ | refine zD H ?_ | refine zE H fun _ _ H => ?_ | refine zF H fun _ _ H => ?_ | refine zG H fun _ H => ?_ | refine zH H fun _ H => ?_) | (refine zI ?_; first | refine zJ ?_ | refine zK ?_ | refine zL ?_ | refine CW.seqDc ?_ | refine CW.seqDb ?_ | refine CW.seqDl ?_ | refine CW.seqDs ?_ | refine CW.seqDk ?_ | refine zN ?_ | refine zO ?_ | refine zP ?_ | refine zQ ?_ | refine zR ?_) | refine zS ?_)
    refine ⟨i + 1, (by (repeat (first | (with_reducible exact Agree.refl _ _) | (with_reducible refine Agree.trim (by assumption) ?_) | refine Agree.upd ?_ rfl | exact Agree.mix' | refine Agree.mixL ?_ (fun j h => by simp only [Bool.or_eq_true, Bool.and_eq_true, Nat.beq_eq, Nat.ble_eq] at h ⊢; omega) rfl))), ⟨nat_succ hi' (by omega), trivial⟩, ⟨⟨hi', fun j hj hji => ?_⟩, H⟩, by omega⟩
    by_cases e : j = i
    · subst e; unfold K.names; rw [hid]; rfl
    · exact hne j hj (by omega)
theorem hole8_ {fs : List Fac} {v : Value} (H : Sat z w As) (h20 : fs.length ≤ 20) (hv : SlR As v 4 fs.length (fs.flatMap Fac.c)) (hok : ∀ f ∈ fs, f.ok As ∧ f.parts.length ≤ 8) (k : K) :
    Spec cf 10 #[k.v, v] w fun e w' => e = .bool (isHole fs k) ∧ Sat z w' As := by
  obtain ⟨a, cp, rfl⟩ := lenW hv
  refine enter (l := [k.v, .slice a fs.length cp]) Try.func10 rfl rfl rfl rfl rfl ?_
  repeat' (first | (refine zA ?_; first | refine zB ?_ | refine zC H ?_ | refine zD H ?_ | refine zE H fun _ _ H => ?_ | refine zF H fun _ _ H => ?_ | refine zG H fun _ H => ?_ | refine zH H fun _ H => ?_) | (refine zI ?_; first | refine zJ ?_ | refine zK ?_ | refine zL ?_ | refine zM ?_ | refine zN ?_ | refine zO ?_ | refine zP ?_ | refine zQ ?_ | refine zR ?_) | refine zS ?_)
  refine OpsW.bsl H rfl rfl rfl rfl rfl rfl rfl rfl fun b0 w H => ?_
  repeat' (first | (refine zA ?_; first | refine zB ?_ | refine zC H ?_ | refine zD H ?_ | refine zE H fun _ _ H => ?_ | refine zF H fun _ _ H => ?_ | refine zG H fun _ H => ?_ | refine zH H fun _ H => ?_) | (refine zI ?_; first | refine zJ ?_ | refine zK ?_ | refine zL ?_ | refine zM ?_ | refine zN ?_ | refine zO ?_ | refine zP ?_ | refine zQ ?_ | refine zR ?_) | refine zS ?_)
  refine OpsW.mks H rfl rfl rfl rfl rfl (by omega) rfl rfl rfl rfl rfl fun bm w H => ?_
  rw [show repl fs.length (cf.T.zero.getD (cf.T.elem.getD 44 0) []) = (List.replicate fs.length false).map .bool from by rw [List.map_replicate]; exact repl_one _ _] at H
  have H0 : Sat z w (kvec (some ⟨b0, 0, none⟩) 1 [k] :: blk bm 4 ((List.replicate fs.length false).map .bool) :: As) := kvec_blk (((H.perm p2).drop).perm p1) rfl rfl rfl
  clear H
  repeat' (first | (refine zA ?_; first | refine zB ?_ | refine zC H ?_ | refine zD H ?_ | refine zE H fun _ _ H => ?_ | refine zF H fun _ _ H => ?_ | refine zG H fun _ H => ?_ | refine zH H fun _ H => ?_) | (refine zI ?_; first | refine zJ ?_ | refine zK ?_ | refine zL ?_ | refine CW.seqDc ?_ | refine CW.seqDb ?_ | refine CW.seqDl ?_ | refine CW.seqDs ?_ | refine CW.seqDk ?_ | refine zN ?_ | refine zO ?_ | refine zP ?_ | refine zQ ?_ | refine zR ?_) | refine zS ?_)
  refine CW.loopF (X := Nat × List K × (Option Addr × Nat) × List Bool) (fun j => Nat.beq j 5 || Nat.ble 7 j) (fun x => [(7, .int .i64 (x.1 : Int)), (5, .slice x.2.2.1.1 x.2.1.length x.2.2.1.2)])
    (fun x w => Srch fs 8 k x.1 x.2.1 x.2.2.2 ∧ Sat z w (kvec x.2.2.1.1 x.2.2.1.2 x.2.1 :: blk bm 4 (x.2.2.2.map .bool) :: As))
    (fun x => x.2.1.length + x.2.2.2.count false * 8 - x.1) (0, [k], (some ⟨b0, 0, none⟩, 1), List.replicate fs.length false) ⟨rfl, rfl, trivial⟩ ⟨Srch.start k, H0⟩ ?_
  clear H0
  rintro ⟨i, todo, ⟨ta, tc⟩, seen⟩ τ w ⟨hS, H⟩
  dsimp only at hS H
  have hlb := hS.lb
  have hsl := hS.ln
  repeat' (first | (refine zA ?_; first | refine zB ?_ | refine zC H ?_ | refine zD H ?_ | refine zE H fun _ _ H => ?_ | refine zF H fun _ _ H => ?_ | refine zG H fun _ H => ?_ | refine zH H fun _ H => ?_) | (refine zI ?_; first | refine zJ ?_ | refine zK ?_ | refine zL ?_ | refine CW.seqDc ?_ | refine CW.seqDb ?_ | refine CW.seqDl ?_ | refine CW.seqDs ?_ | refine CW.seqDk ?_ | refine zN ?_ | refine zO ?_ | refine zP ?_ | refine zQ ?_ | refine zR ?_) | refine zS ?_)
  refine CW.cond rfl (fun h => ?_) (fun h => ?_)
  case refine_2 =>
    have hil : i = todo.length := by have := hS.ub; simp at h; omega
    rw [hS.none hil]
    repeat' (first | (refine zA ?_; first | refine zB ?_ | refine zC H ?_ | refine zD H ?_ | refine zE H fun _ _ H => ?_ | refine zF H fun _ _ H => ?_ | refine zG H fun _ H => ?_ | refine zH H fun _ H => ?_) | (refine zI ?_; first | refine zJ ?_ | refine zK ?_ | refine zL ?_ | refine CW.seqDc ?_ | refine CW.seqDb ?_ | refine CW.seqDl ?_ | refine CW.seqDs ?_ | refine CW.seqDk ?_ | refine zN ?_ | refine zO ?_ | refine zP ?_ | refine zQ ?_ | refine zR ?_) | refine zS ?_)
    exact ret1 rfl ⟨rfl, H.drop.drop⟩
  have hi : i < todo.length := by simpa using h
  obtain ⟨T, hT, sT, H2⟩ := Sat.vopen (kvec_open H)
  obtain ⟨b1, o1, m1, E1, f1, rfl, -, -⟩ := (sT []).at_ (by omega)
  replace H := H2
  clear H2
  have hb1 : ∀ Rs, ∃ m1 E1 f1, Has (T :: Rs) b1 (.cells m1 E1 f1) ∧ m1[o1 + i * 5 + 0]? = some (.int .i64 todo[i].kind) := fun Rs => by
    obtain ⟨b2, o2, m2, E2, f2, e2, h2, h3⟩ := (sT Rs).at_ (by omega)
    simp only [Option.some.injEq, Addr.mk.injEq] at e2
    obtain ⟨rfl, rfl, -⟩ := e2
    refine ⟨m2, E2, f2, h2, (h3 i 0 hi (by decide)).trans ?_⟩
    have := fl_get K.l 5 K.l_len todo [] i 0 hi (by decide)
    rw [List.append_nil] at this
    exact this
  have hvs : ((todo.flatMap K.l).drop (i * 5)).take 5 = todo[i].l := by
    have := fl_take K.l 5 K.l_len todo [] i hi
    rwa [List.append_nil] at this
  repeat' (first | (refine zA ?_; first | refine zB ?_ | refine zC H ?_ | refine zD H ?_ | refine zE H fun _ _ H => ?_ | refine zF H fun _ _ H => ?_ | refine zG H fun _ H => ?_ | refine zH H fun _ H => ?_) | (refine zI ?_; first | refine zJ ?_ | refine zK ?_ | refine zL ?_ | refine CW.seqDc ?_ | refine CW.seqDb ?_ | refine CW.seqDl ?_ | refine CW.seqDs ?_ | refine CW.seqDk ?_ | refine zN ?_ | refine zO ?_ | refine zP ?_ | refine zQ ?_ | refine zR ?_) | refine zS ?_)
  refine OpsW.ix (n := i) rfl rfl rfl rfl rfl rfl rfl hi rfl ?_
  refine OpsW.ldSA (k := i) (sz := 5) (vs := todo[i].l) H (sT _) rfl rfl rfl rfl hi hvs rfl ?_
  refine OpsW.call rfl rfl rfl (refSensory_ _ _ _ H todo[i]) ?_
  rintro _ w ⟨rfl, H⟩
  cases hs : todo[i].sensory
  case true =>
    repeat' (first | (refine zA ?_; first | refine zB ?_ | refine zC H ?_ | refine zD H ?_ | refine zE H fun _ _ H => ?_ | refine zF H fun _ _ H => ?_ | refine zG H fun _ H => ?_ | refine zH H fun _ H => ?_) | (refine zI ?_; first | refine zJ ?_ | refine zK ?_ | refine zL ?_ | refine CW.seqDc ?_ | refine CW.seqDb ?_ | refine CW.seqDl ?_ | refine CW.seqDs ?_ | refine CW.seqDk ?_ | refine zN ?_ | refine zO ?_ | refine zP ?_ | refine zQ ?_ | refine zR ?_) | refine zS ?_)
    exact ⟨(i + 1, todo, (_, tc), seen), (by (repeat (first | (with_reducible exact Agree.refl _ _) | (with_reducible refine Agree.trim (by assumption) ?_) | refine Agree.upd ?_ rfl | exact Agree.mix' | refine Agree.mixL ?_ (fun j h => by simp only [Bool.or_eq_true, Bool.and_eq_true, Nat.beq_eq, Nat.ble_eq] at h ⊢; omega) rfl))), ⟨nat_succ (n := todo.length) hi (by omega), rfl, trivial⟩, ⟨hS.skip hi (.inl hs), H.imp hT⟩, by show todo.length + seen.count false * 8 - (i + 1) < todo.length + seen.count false * 8 - i; omega⟩
  obtain ⟨m1, E1, f1, hb1, hk0⟩ := hb1 (blk bm 4 (seen.map .bool) :: As)
  repeat' (first | (refine zA ?_; first | refine zB ?_ | refine zC H ?_ | refine zD H ?_ | refine zE H fun _ _ H => ?_ | refine zF H fun _ _ H => ?_ | refine zG H fun _ H => ?_ | refine zH H fun _ H => ?_) | (refine zI ?_; first | refine zJ ?_ | refine zK ?_ | refine zL ?_ | refine CW.seqDc ?_ | refine CW.seqDb ?_ | refine CW.seqDl ?_ | refine CW.seqDs ?_ | refine CW.seqDk ?_ | refine zN ?_ | refine zO ?_ | refine zP ?_ | refine zQ ?_ | refine zR ?_) | refine zS ?_)
  refine OpsW.ix (n := i) rfl rfl rfl rfl rfl rfl rfl hi rfl ?_
  repeat' (first | (refine zA ?_; first | refine zB ?_ | refine zC H ?_ | refine zD H ?_ | refine zE H fun _ _ H => ?_ | refine zF H fun _ _ H => ?_ | refine zG H fun _ H => ?_ | refine zH H fun _ H => ?_) | (refine zI ?_; first | refine zJ ?_ | refine zK ?_ | refine zL ?_ | refine CW.seqDc ?_ | refine CW.seqDb ?_ | refine CW.seqDl ?_ | refine CW.seqDs ?_ | refine CW.seqDk ?_ | refine zN ?_ | refine zO ?_ | refine zP ?_ | refine zQ ?_ | refine zR ?_) | refine zS ?_)
  refine OpsW.ldh (H.has hb1) rfl rfl rfl rfl hk0 rfl ?_
  repeat' (first | (refine zA ?_; first | refine zB ?_ | refine zC H ?_ | refine zD H ?_ | refine zE H fun _ _ H => ?_ | refine zF H fun _ _ H => ?_ | refine zG H fun _ H => ?_ | refine zH H fun _ H => ?_) | (refine zI ?_; first | refine zJ ?_ | refine zK ?_ | refine zL ?_ | refine CW.seqDc ?_ | refine CW.seqDb ?_ | refine CW.seqDl ?_ | refine CW.seqDs ?_ | refine CW.seqDk ?_ | refine zN ?_ | refine zO ?_ | refine zP ?_ | refine zQ ?_ | refine zR ?_) | refine zS ?_)
  by_cases h9 : todo[i].kind = 9
  case neg =>
    refine CW.cond rfl (fun h => absurd h (by simp [h9])) (fun _ => ?_)
    rw [hS.out hi hs (namedF_no h9)]
    repeat' (first | (refine zA ?_; first | refine zB ?_ | refine zC H ?_ | refine zD H ?_ | refine zE H fun _ _ H => ?_ | refine zF H fun _ _ H => ?_ | refine zG H fun _ H => ?_ | refine zH H fun _ H => ?_) | (refine zI ?_; first | refine zJ ?_ | refine zK ?_ | refine zL ?_ | refine CW.seqDc ?_ | refine CW.seqDb ?_ | refine CW.seqDl ?_ | refine CW.seqDs ?_ | refine CW.seqDk ?_ | refine zN ?_ | refine zO ?_ | refine zP ?_ | refine zQ ?_ | refine zR ?_) | refine zS ?_)
    exact ret1 rfl ⟨rfl, H.drop.drop⟩
  refine CW.cond rfl (fun _ => ?_) (fun h => absurd h (by simp [h9]))
  repeat' (first | (refine zA ?_; first | refine zB ?_ | refine zC H ?_ | refine zD H ?_ | refine zE H fun _ _ H => ?_ | refine zF H fun _ _ H => ?_ | refine zG H fun _ H => ?_ | refine zH H fun _ H => ?_) | (refine zI ?_; first | refine zJ ?_ | refine zK ?_ | refine zL ?_ | refine CW.seqDc ?_ | refine CW.seqDb ?_ | refine CW.seqDl ?_ | refine CW.seqDs ?_ | refine CW.seqDk ?_ | refine zN ?_ | refine zO ?_ | refine zP ?_ | refine zQ ?_ | refine zR ?_) | refine zS ?_)
  refine OpsW.ix (n := i) rfl rfl rfl rfl rfl rfl rfl hi rfl ?_
  refine OpsW.ldSA (k := i) (sz := 5) (vs := todo[i].l) H (sT _) rfl rfl rfl rfl hi hvs rfl ?_
  repeat' (first | (refine zA ?_; first | refine zB ?_ | refine zC H ?_ | refine zD H ?_ | refine zE H fun _ _ H => ?_ | refine zF H fun _ _ H => ?_ | refine zG H fun _ H => ?_ | refine zH H fun _ H => ?_) | (refine zI ?_; first | refine zJ ?_ | refine zK ?_ | refine zL ?_ | refine CW.seqDc ?_ | refine CW.seqDb ?_ | refine CW.seqDl ?_ | refine CW.seqDs ?_ | refine CW.seqDk ?_ | refine zN ?_ | refine zO ?_ | refine zP ?_ | refine zQ ?_ | refine zR ?_) | refine zS ?_)
  refine OpsW.call rfl rfl rfl (find8_ H hv.tail.tail (by omega) todo[i] h9) ?_
  rintro _ w ⟨rfl, H⟩
  cases hn : namedF fs todo[i] with
  | none =>
    rw [hS.out hi hs hn]
    repeat' (first | (refine zA ?_; first | refine zB ?_ | refine zC H ?_ | refine zD H ?_ | refine zE H fun _ _ H => ?_ | refine zF H fun _ _ H => ?_ | refine zG H fun _ H => ?_ | refine zH H fun _ H => ?_) | (refine zI ?_; first | refine zJ ?_ | refine zK ?_ | refine zL ?_ | refine CW.seqDc ?_ | refine CW.seqDb ?_ | refine CW.seqDl ?_ | refine CW.seqDs ?_ | refine CW.seqDk ?_ | refine zN ?_ | refine zO ?_ | refine zP ?_ | refine zQ ?_ | refine zR ?_) | refine zS ?_)
    exact ret1 rfl ⟨rfl, H.drop.drop⟩
  | some j =>
    have hj := namedF_lt hn
    have hd : fs.getD j Fac.z = fs[j] := by simp [hj]
    obtain ⟨hok1, hok2⟩ := hok fs[j] (List.getElem_mem hj)
    have hgm : (seen.map Value.bool)[0 + j * 1]? = some (.bool (seen.getD j false)) := by
      rw [Nat.zero_add, Nat.mul_one, List.getElem?_map, List.getElem?_eq_getElem (by omega)]
      simp [hsl, hj]
    repeat' (first | (refine zA ?_; first | refine zB ?_ | refine zC H ?_ | refine zD H ?_ | refine zE H fun _ _ H => ?_ | refine zF H fun _ _ H => ?_ | refine zG H fun _ H => ?_ | refine zH H fun _ H => ?_) | (refine zI ?_; first | refine zJ ?_ | refine zK ?_ | refine zL ?_ | refine CW.seqDc ?_ | refine CW.seqDb ?_ | refine CW.seqDl ?_ | refine CW.seqDs ?_ | refine CW.seqDk ?_ | refine zN ?_ | refine zO ?_ | refine zP ?_ | refine zQ ?_ | refine zR ?_) | refine zS ?_)
    refine OpsW.ix (n := j) rfl rfl rfl rfl rfl rfl rfl hj rfl ?_
    refine OpsW.ld H p1 rfl rfl rfl rfl hgm rfl ?_
    cases hb : seen.getD j false
    case true =>
      repeat' (first | (refine zA ?_; first | refine zB ?_ | refine zC H ?_ | refine zD H ?_ | refine zE H fun _ _ H => ?_ | refine zF H fun _ _ H => ?_ | refine zG H fun _ H => ?_ | refine zH H fun _ H => ?_) | (refine zI ?_; first | refine zJ ?_ | refine zK ?_ | refine zL ?_ | refine CW.seqDc ?_ | refine CW.seqDb ?_ | refine CW.seqDl ?_ | refine CW.seqDs ?_ | refine CW.seqDk ?_ | refine zN ?_ | refine zO ?_ | refine zP ?_ | refine zQ ?_ | refine zR ?_) | refine zS ?_)
      exact ⟨(i + 1, todo, (_, tc), seen), (by (repeat (first | (with_reducible exact Agree.refl _ _) | (with_reducible refine Agree.trim (by assumption) ?_) | refine Agree.upd ?_ rfl | exact Agree.mix' | refine Agree.mixL ?_ (fun j h => by simp only [Bool.or_eq_true, Bool.and_eq_true, Nat.beq_eq, Nat.ble_eq] at h ⊢; omega) rfl))), ⟨nat_succ (n := todo.length) hi (by omega), rfl, trivial⟩, ⟨hS.skip hi (.inr ⟨j, hn, hb⟩), H.imp hT⟩, by show todo.length + seen.count false * 8 - (i + 1) < todo.length + seen.count false * 8 - i; omega⟩
    have hcs := count_set_lt (met := seen) (i := j) (by omega) hb
    repeat' (first | (refine zA ?_; first | refine zB ?_ | refine zC H ?_ | refine zD H ?_ | refine zE H fun _ _ H => ?_ | refine zF H fun _ _ H => ?_ | refine zG H fun _ H => ?_ | refine zH H fun _ H => ?_) | (refine zI ?_; first | refine zJ ?_ | refine zK ?_ | refine zL ?_ | refine CW.seqDc ?_ | refine CW.seqDb ?_ | refine CW.seqDl ?_ | refine CW.seqDs ?_ | refine CW.seqDk ?_ | refine zN ?_ | refine zO ?_ | refine zP ?_ | refine zQ ?_ | refine zR ?_) | refine zS ?_)
    refine OpsW.ix (n := j) rfl rfl rfl rfl rfl rfl rfl hj rfl ?_
    refine OpsW.str H p1 rfl rfl rfl rfl rfl rfl (by rw [List.length_map]; omega) fun w H => ?_
    have H2 : Sat z w (kvec (some ⟨b1, o1, none⟩) tc todo :: blk bm 4 ((seen.set j true).map .bool) :: As) := by
      rw [show (seen.map Value.bool).set (0 + j * 1) (.bool true) = (seen.set j true).map .bool from by rw [Nat.zero_add, Nat.mul_one, List.map_set]] at H
      exact (H.perm p1).imp hT
    clear H
    obtain ⟨b3, o3, m3, E3, f3, rfl, hb3, hm3⟩ := hv.at_ (by omega)
    have hg3 : m3[o3 + j * 4 + 3]? = some (.slice fs[j].pa fs[j].parts.length fs[j].pc) := (hm3 j 3 hj (by decide)).trans (by
      have := fl_get Fac.c 4 Fac.c_len fs [] j 3 hj (by decide)
      rw [List.append_nil] at this
      exact this)
    repeat' (first | (refine zA ?_; first | refine zB ?_ | refine zC H ?_ | refine zD H ?_ | refine zE H fun _ _ H => ?_ | refine zF H fun _ _ H => ?_ | refine zG H fun _ H => ?_ | refine zH H fun _ H => ?_) | (refine zI ?_; first | refine zJ ?_ | refine zK ?_ | refine zL ?_ | refine CW.seqDc ?_ | refine CW.seqDb ?_ | refine CW.seqDl ?_ | refine CW.seqDs ?_ | refine CW.seqDk ?_ | refine zN ?_ | refine zO ?_ | refine zP ?_ | refine zQ ?_ | refine zR ?_) | refine zS ?_)
    refine OpsW.ix (n := j) rfl rfl rfl rfl rfl rfl rfl hj rfl ?_
    repeat' (first | (refine zA ?_; first | refine zB ?_ | refine zC H ?_ | refine zD H ?_ | refine zE H fun _ _ H => ?_ | refine zF H fun _ _ H => ?_ | refine zG H fun _ H => ?_ | refine zH H fun _ H => ?_) | (refine zI ?_; first | refine zJ ?_ | refine zK ?_ | refine zL ?_ | refine CW.seqDc ?_ | refine CW.seqDb ?_ | refine CW.seqDl ?_ | refine CW.seqDs ?_ | refine CW.seqDk ?_ | refine zN ?_ | refine zO ?_ | refine zP ?_ | refine zQ ?_ | refine zR ?_) | refine zS ?_)
    refine OpsW.ldh (H2.has hb3.tail.tail) rfl rfl rfl rfl hg3 rfl ?_
    refine OpsW.vappA (n2 := fs[j].parts.length) (sz := 5) (c2 := fs[j].parts.flatMap K.l) (kvec_open H2) p0 (SlR.tail hok1) (klf_scal _) (by omega) rfl rfl rfl rfl rfl rfl rfl rfl rfl fun a2 cap2 w H => ?_
    repeat' (first | (refine zA ?_; first | refine zB ?_ | refine zC H ?_ | refine zD H ?_ | refine zE H fun _ _ H => ?_ | refine zF H fun _ _ H => ?_ | refine zG H fun _ H => ?_ | refine zH H fun _ H => ?_) | (refine zI ?_; first | refine zJ ?_ | refine zK ?_ | refine zL ?_ | refine CW.seqDc ?_ | refine CW.seqDb ?_ | refine CW.seqDl ?_ | refine CW.seqDs ?_ | refine CW.seqDk ?_ | refine zN ?_ | refine zO ?_ | refine zP ?_ | refine zQ ?_ | refine zR ?_) | refine zS ?_)
    have hm := hS.more hi hs hn hb (B := 8) (by rw [hd]; exact hok2)
    rw [hd] at hm
    refine ⟨(i + 1, todo ++ fs[j].parts, (a2, cap2), seen.set j true), (by (repeat (first | (with_reducible exact Agree.refl _ _) | (with_reducible refine Agree.trim (by assumption) ?_) | refine Agree.upd ?_ rfl | exact Agree.mix' | refine Agree.mixL ?_ (fun j h => by simp only [Bool.or_eq_true, Bool.and_eq_true, Nat.beq_eq, Nat.ble_eq] at h ⊢; omega) rfl))), ⟨nat_succ (n := todo.length) hi (by omega), ae rfl (by rw [List.length_append]), trivial⟩, ⟨hm, kvec_mk H rfl (by rw [List.length_append]) (by rw [List.flatMap_append])⟩, ?_⟩
    show (todo ++ fs[j].parts).length + (seen.set j true).count false * 8 - (i + 1) < todo.length + seen.count false * 8 - i
    rw [List.length_append]; omega
theorem holes8_ {fs : List Fac} {v v2 : Value} {l : List K} (H : Sat z w As) (h20 : fs.length ≤ 20) (hv : SlR As v 4 fs.length (fs.flatMap Fac.c)) (hok : ∀ f ∈ fs, f.ok As ∧ f.parts.length ≤ 8) (hl8 : l.length ≤ 8) (hl : SlR As v2 5 l.length (l.flatMap K.l)) :
    Spec cf 8 #[v2, v] w fun e w' => ∃ a cap, e = .slice a (l.filter (isHole fs)).length cap ∧ Sat z w' (kvec a cap (l.filter (isHole fs)) :: As) := by
  obtain ⟨a, cp, rfl⟩ := lenW hv
  obtain ⟨a2, cp2, rfl⟩ := lenW hl
  refine enter (l := [.slice a2 l.length cp2, .slice a fs.length cp]) Try.func8 rfl rfl rfl rfl rfl ?_
  repeat' (first | (refine zA ?_; first | refine zB ?_ | refine zC H ?_ | refine zD H ?_ | refine zE H fun _ _ H => ?_ | refine zF H fun _ _ H => ?_ | refine zG H fun _ H => ?_ | refine zH H fun _ H => ?_) | (refine zI ?_; first | refine zJ ?_ | refine zK ?_ | refine zL ?_ | refine zM ?_ | refine zN ?_ | refine zO ?_ | refine zP ?_ | refine zQ ?_ | refine zR ?_) | refine zS ?_)
  have H0 : Sat z w (kvec none 0 [] :: As) := Sat.vnil (E := 24) (sz := 5) H
  refine CW.loopF (X := Nat × Option Addr × Nat) (fun j => Nat.ble 5 j) (fun s => [(6, .int .i64 (s.1 : Int)), (5, .slice s.2.1 ((l.take s.1).filter (isHole fs)).length s.2.2)])
    (fun s w => s.1 ≤ l.length ∧ Sat z w (kvec s.2.1 s.2.2 ((l.take s.1).filter (isHole fs)) :: As)) (fun s => l.length - s.1) (0, none, 0) ⟨rfl, ae rfl (by simp), trivial⟩ ⟨Nat.zero_le _, by simpa using H0⟩ ?_
  clear H0 H
  rintro ⟨i, oa, oc⟩ τ w ⟨hi, H⟩
  dsimp only at hi H
  repeat' (first | (refine zA ?_; first | refine zB ?_ | refine zC H ?_ | refine zD H ?_ | refine zE H fun _ _ H => ?_ | refine zF H fun _ _ H => ?_ | refine zG H fun _ H => ?_ | refine zH H fun _ H => ?_) | (refine zI ?_; first | refine zJ ?_ | refine zK ?_ | refine zL ?_ | refine CW.seqDc ?_ | refine CW.seqDb ?_ | refine CW.seqDl ?_ | refine CW.seqDs ?_ | refine CW.seqDk ?_ | refine zN ?_ | refine zO ?_ | refine zP ?_ | refine zQ ?_ | refine zR ?_) | refine zS ?_)
  refine CW.cond rfl (fun h => ?_) (fun h => ?_)
  · have hi' : i < l.length := by simpa using h
    have hvs := fl_take K.l 5 K.l_len l [] i hi'
    rw [List.append_nil] at hvs
    have et : (l.take (i + 1)).filter (isHole fs) = (l.take i).filter (isHole fs) ++ (if isHole fs l[i] then [l[i]] else []) := by
      rw [List.take_succ_eq_append_getElem hi', List.filter_append, List.filter_cons]
      cases isHole fs l[i] <;> simp
    have hfl := List.length_filter_le (isHole fs) (l.take i)
    rw [List.length_take] at hfl
    repeat' (first | (refine zA ?_; first | refine zB ?_ | refine zC H ?_ | refine zD H ?_ | refine zE H fun _ _ H => ?_ | refine zF H fun _ _ H => ?_ | refine zG H fun _ H => ?_ | refine zH H fun _ H => ?_) | (refine zI ?_; first | refine zJ ?_ | refine zK ?_ | refine zL ?_ | refine CW.seqDc ?_ | refine CW.seqDb ?_ | refine CW.seqDl ?_ | refine CW.seqDs ?_ | refine CW.seqDk ?_ | refine zN ?_ | refine zO ?_ | refine zP ?_ | refine zQ ?_ | refine zR ?_) | refine zS ?_)
    refine OpsW.ixldA H (SlR.tail hl) rfl (fun _ => rfl) rfl rfl rfl rfl rfl rfl rfl rfl hi' hvs rfl rfl fun pp => ?_
    repeat' (first | (refine zA ?_; first | refine zB ?_ | refine zC H ?_ | refine zD H ?_ | refine zE H fun _ _ H => ?_ | refine zF H fun _ _ H => ?_ | refine zG H fun _ H => ?_ | refine zH H fun _ H => ?_) | (refine zI ?_; first | refine zJ ?_ | refine zK ?_ | refine zL ?_ | refine CW.seqDc ?_ | refine CW.seqDb ?_ | refine CW.seqDl ?_ | refine CW.seqDs ?_ | refine CW.seqDk ?_ | refine zN ?_ | refine zO ?_ | refine zP ?_ | refine zQ ?_ | refine zR ?_) | refine zS ?_)
    refine OpsW.call rfl rfl rfl (hole8_ H h20 hv.tail (fun g hg => ⟨SlR.tail (hok g hg).1, (hok g hg).2⟩) l[i]) ?_
    rintro _ w ⟨rfl, H⟩
    cases hh : isHole fs l[i]
    · rw [hh] at et
      simp only [Bool.false_eq_true, if_false, List.append_nil] at et
      repeat' (first | (refine zA ?_; first | refine zB ?_ | refine zC H ?_ | refine zD H ?_ | refine zE H fun _ _ H => ?_ | refine zF H fun _ _ H => ?_ | refine zG H fun _ H => ?_ | refine zH H fun _ H => ?_) | (refine zI ?_; first | refine zJ ?_ | refine zK ?_ | refine zL ?_ | refine CW.seqDc ?_ | refine CW.seqDb ?_ | refine CW.seqDl ?_ | refine CW.seqDs ?_ | refine CW.seqDk ?_ | refine zN ?_ | refine zO ?_ | refine zP ?_ | refine zQ ?_ | refine zR ?_) | refine zS ?_)
      exact ⟨(i + 1, oa, oc), (by (repeat (first | (with_reducible exact Agree.refl _ _) | (with_reducible refine Agree.trim (by assumption) ?_) | refine Agree.upd ?_ rfl | exact Agree.mix' | refine Agree.mixL ?_ (fun j h => by simp only [Bool.or_eq_true, Bool.and_eq_true, Nat.beq_eq, Nat.ble_eq] at h ⊢; omega) rfl))), ⟨nat_succ hi' (by omega), ae rfl (by rw [et]), trivial⟩, ⟨hi', by show Sat z w (kvec oa oc ((l.take (i + 1)).filter (isHole fs)) :: As); rw [et]; exact H⟩, by show l.length - (i + 1) < l.length - i; omega⟩
    · rw [hh] at et
      simp only [if_true] at et
      repeat' (first | (refine zA ?_; first | refine zB ?_ | refine zC H ?_ | refine zD H ?_ | refine zE H fun _ _ H => ?_ | refine zF H fun _ _ H => ?_ | refine zG H fun _ H => ?_ | refine zH H fun _ H => ?_) | (refine zI ?_; first | refine zJ ?_ | refine zK ?_ | refine zL ?_ | refine CW.seqDc ?_ | refine CW.seqDb ?_ | refine CW.seqDl ?_ | refine CW.seqDs ?_ | refine CW.seqDk ?_ | refine zN ?_ | refine zO ?_ | refine zP ?_ | refine zQ ?_ | refine zR ?_) | refine zS ?_)
      refine OpsW.ixldA H (SlR.tail hl) rfl (fun _ => rfl) rfl rfl rfl rfl rfl rfl rfl rfl hi' hvs rfl rfl fun pp => ?_
      refine OpsW.bsl H rfl rfl rfl rfl rfl rfl rfl rfl fun bb w H => ?_
      refine OpsW.vapp (n2 := 1) (sz := 5) (c2 := l[i].l) H p1 (SlR.of_blk (r := []) rfl (Nat.le_refl 1)) rfl (by omega) (by omega) rfl rfl rfl rfl rfl rfl rfl rfl rfl fun a2 cap2 w H => ?_
      repeat' (first | (refine zA ?_; first | refine zB ?_ | refine zC H ?_ | refine zD H ?_ | refine zE H fun _ _ H => ?_ | refine zF H fun _ _ H => ?_ | refine zG H fun _ H => ?_ | refine zH H fun _ H => ?_) | (refine zI ?_; first | refine zJ ?_ | refine zK ?_ | refine zL ?_ | refine CW.seqDc ?_ | refine CW.seqDb ?_ | refine CW.seqDl ?_ | refine CW.seqDs ?_ | refine CW.seqDk ?_ | refine zN ?_ | refine zO ?_ | refine zP ?_ | refine zQ ?_ | refine zR ?_) | refine zS ?_)
      refine ⟨(i + 1, a2, cap2), (by (repeat (first | (with_reducible exact Agree.refl _ _) | (with_reducible refine Agree.trim (by assumption) ?_) | refine Agree.upd ?_ rfl | exact Agree.mix' | refine Agree.mixL ?_ (fun j h => by simp only [Bool.or_eq_true, Bool.and_eq_true, Nat.beq_eq, Nat.ble_eq] at h ⊢; omega) rfl))), ⟨nat_succ hi' (by omega), ae rfl (by rw [et, List.length_append]; rfl), trivial⟩, ⟨hi', ?_⟩, by show l.length - (i + 1) < l.length - i; omega⟩
      show Sat z w (kvec a2 cap2 ((l.take (i + 1)).filter (isHole fs)) :: As)
      rw [et, kvec, List.length_append, List.flatMap_append]
      have e1 : [l[i]].flatMap K.l = l[i].l := by simp
      rw [e1]
      exact (H.perm p1).drop
  · have : i = l.length := by simp at h; omega
    subst this
    rw [List.take_length] at H ⊢
    repeat' (first | (refine zA ?_; first | refine zB ?_ | refine zC H ?_ | refine zD H ?_ | refine zE H fun _ _ H => ?_ | refine zF H fun _ _ H => ?_ | refine zG H fun _ H => ?_ | refine zH H fun _ H => ?_) | (refine zI ?_; first | refine zJ ?_ | refine zK ?_ | refine zL ?_ | refine CW.seqDc ?_ | refine CW.seqDb ?_ | refine CW.seqDl ?_ | refine CW.seqDs ?_ | refine CW.seqDk ?_ | refine zN ?_ | refine zO ?_ | refine zP ?_ | refine zQ ?_ | refine zR ?_) | refine zS ?_)
    exact ret1 rfl ⟨oa, oc, rfl, H⟩
theorem other8_ {fs : List Fac} {v : Value} (H : Sat z w As) (hl : fs.length ≤ 100000) (hv : SlR As v 4 fs.length (fs.flatMap Fac.c)) :
    Spec cf 7 #[v] w fun e w' => ∃ a cap, e = .slice a fs.length cap ∧ Sat z w' (vec 42 a fs.length cap 4 (fs.flatMap Fac.c) :: As) := by
  obtain ⟨a, cp, rfl⟩ := lenW hv
  refine enter (l := [.slice a fs.length cp]) Try.func7 rfl rfl rfl rfl rfl ?_
  repeat' (first | (refine zA ?_; first | refine zB ?_ | refine zC H ?_ | refine zD H ?_ | refine zE H fun _ _ H => ?_ | refine zF H fun _ _ H => ?_ | refine zG H fun _ H => ?_ | refine zH H fun _ H => ?_) | (refine zI ?_; first | refine zJ ?_ | refine zK ?_ | refine zL ?_ | refine CW.seqDc ?_ | refine CW.seqDb ?_ | refine CW.seqDl ?_ | refine CW.seqDs ?_ | refine CW.seqDk ?_ | refine zN ?_ | refine zO ?_ | refine zP ?_ | refine zQ ?_ | refine zR ?_) | refine zS ?_)
  refine CW.loopF (X := Nat × Option Addr × Nat) (fun j => Nat.ble 3 j) (fun s => [(4, .int .i64 (s.1 : Int)), (3, .slice s.2.1 s.1 s.2.2)])
    (fun s w => s.1 ≤ fs.length ∧ Sat z w (vec 42 s.2.1 s.1 s.2.2 4 ((fs.take s.1).flatMap Fac.c) :: As)) (fun s => fs.length - s.1) (0, none, 0) ⟨rfl, rfl, trivial⟩ ⟨Nat.zero_le _, Sat.vnil (E := 42) (sz := 4) H⟩ ?_
  clear H
  rintro ⟨i, oa, oc⟩ τ w ⟨hi, H⟩
  dsimp only at hi H
  repeat' (first | (refine zA ?_; first | refine zB ?_ | refine zC H ?_ | refine zD H ?_ | refine zE H fun _ _ H => ?_ | refine zF H fun _ _ H => ?_ | refine zG H fun _ H => ?_ | refine zH H fun _ H => ?_) | (refine zI ?_; first | refine zJ ?_ | refine zK ?_ | refine zL ?_ | refine CW.seqDc ?_ | refine CW.seqDb ?_ | refine CW.seqDl ?_ | refine CW.seqDs ?_ | refine CW.seqDk ?_ | refine zN ?_ | refine zO ?_ | refine zP ?_ | refine zQ ?_ | refine zR ?_) | refine zS ?_)
  refine CW.cond rfl (fun h => ?_) (fun h => ?_)
  case refine_2 =>
    have : i = fs.length := by simp at h; omega
    subst this
    rw [List.take_length] at H
    repeat' (first | (refine zA ?_; first | refine zB ?_ | refine zC H ?_ | refine zD H ?_ | refine zE H fun _ _ H => ?_ | refine zF H fun _ _ H => ?_ | refine zG H fun _ H => ?_ | refine zH H fun _ H => ?_) | (refine zI ?_; first | refine zJ ?_ | refine zK ?_ | refine zL ?_ | refine CW.seqDc ?_ | refine CW.seqDb ?_ | refine CW.seqDl ?_ | refine CW.seqDs ?_ | refine CW.seqDk ?_ | refine zN ?_ | refine zO ?_ | refine zP ?_ | refine zQ ?_ | refine zR ?_) | refine zS ?_)
    exact ret1 rfl ⟨oa, oc, rfl, H⟩
  have hi' : i < fs.length := by simpa using h
  obtain ⟨b, off, m, E, fr, rfl, hb, hm⟩ := hv.at_ (by omega)
  have hg : ∀ o, o < 4 → m[off + i * 4 + o]? = (fs[i].c)[o]? := fun o ho => (hm i o hi' ho).trans (by
    have := fl_get Fac.c 4 Fac.c_len fs [] i o hi' ho
    rwa [List.append_nil] at this)
  repeat' (first | (refine zA ?_; first | refine zB ?_ | refine zC H ?_ | refine zD H ?_ | refine zE H fun _ _ H => ?_ | refine zF H fun _ _ H => ?_ | refine zG H fun _ H => ?_ | refine zH H fun _ H => ?_) | (refine zI ?_; first | refine zJ ?_ | refine zK ?_ | refine zL ?_ | refine CW.seqDc ?_ | refine CW.seqDb ?_ | refine CW.seqDl ?_ | refine CW.seqDs ?_ | refine CW.seqDk ?_ | refine zN ?_ | refine zO ?_ | refine zP ?_ | refine zQ ?_ | refine zR ?_) | refine zS ?_)
  (first | refine CW.seqDraw mo H [0, 0, 0, 6, 14, 30, 0, 0, 192, 448, 960, 0, 0, 6144, 14336, 30720, 0, 0, 196608, 458752, 983040, 2097150, 4194302, 8388607, 16777215] fun w H => ?_ | refine CW.draw mo H [0, 0, 0, 6, 14, 30, 0, 0, 192, 448, 960, 0, 0, 6144, 14336, 30720, 0, 0, 196608, 458752, 983040, 2097150, 4194302, 8388607, 16777215] fun w H => ?_); refine AnyW.segX (m := 23) (by kernel_rfl) (by kernel_rfl) H rfl ?_
  refine DrawX.cons rfl (fun X τ w H => OpsW.st rfl (OpsW.nil ⟨rfl, H⟩)) ?_
  refine DrawX.cons rfl (fun X τ w H => OpsW.st rfl (OpsW.nil ⟨rfl, H⟩)) ?_
  refine DrawX.cons rfl (fun X τ w H => OpsW.st rfl (OpsW.nil ⟨rfl, H⟩)) ?_
  refine DrawX.cons rfl (fun X τ w H => OpsW.ix (n := i) rfl rfl rfl rfl rfl rfl rfl hi' rfl (OpsW.nil ⟨rfl, H⟩)) ?_
  refine DrawX.cons rfl (fun X τ w H => OpsW.st rfl (OpsW.nil ⟨rfl, H⟩)) ?_
  refine DrawX.cons rfl (fun X τ w H => OpsW.ldh (H.has hb.tail.tail) rfl rfl rfl rfl (hg 0 (by decide)) rfl (OpsW.nil ⟨rfl, H⟩)) ?_
  refine DrawX.cons rfl (fun X τ w H => OpsW.st rfl (OpsW.nil ⟨rfl, H⟩)) ?_
  refine DrawX.cons rfl (fun X τ w H => OpsW.st rfl (OpsW.nil ⟨rfl, H⟩)) ?_
  refine DrawX.cons rfl (fun X τ w H => OpsW.ix (n := i) rfl rfl rfl rfl rfl rfl rfl hi' rfl (OpsW.nil ⟨rfl, H⟩)) ?_
  refine DrawX.cons rfl (fun X τ w H => OpsW.st rfl (OpsW.nil ⟨rfl, H⟩)) ?_
  refine DrawX.cons rfl (fun X τ w H => OpsW.ldh (H.has hb.tail.tail) rfl rfl rfl rfl (hg 1 (by decide)) rfl (OpsW.nil ⟨rfl, H⟩)) ?_
  refine DrawX.cons rfl (fun X τ w H => OpsW.st rfl (OpsW.nil ⟨rfl, H⟩)) ?_
  refine DrawX.cons rfl (fun X τ w H => OpsW.st rfl (OpsW.nil ⟨rfl, H⟩)) ?_
  refine DrawX.cons rfl (fun X τ w H => OpsW.ix (n := i) rfl rfl rfl rfl rfl rfl rfl hi' rfl (OpsW.nil ⟨rfl, H⟩)) ?_
  refine DrawX.cons rfl (fun X τ w H => OpsW.st rfl (OpsW.nil ⟨rfl, H⟩)) ?_
  refine DrawX.cons rfl (fun X τ w H => OpsW.ldh (H.has hb.tail.tail) rfl rfl rfl rfl (hg 2 (by decide)) rfl (OpsW.nil ⟨rfl, H⟩)) ?_
  refine DrawX.cons rfl (fun X τ w H => OpsW.st rfl (OpsW.nil ⟨rfl, H⟩)) ?_
  refine DrawX.cons rfl (fun X τ w H => OpsW.st rfl (OpsW.nil ⟨rfl, H⟩)) ?_
  refine DrawX.cons rfl (fun X τ w H => OpsW.ix (n := i) rfl rfl rfl rfl rfl rfl rfl hi' rfl (OpsW.nil ⟨rfl, H⟩)) ?_
  refine DrawX.cons rfl (fun X τ w H => OpsW.st rfl (OpsW.nil ⟨rfl, H⟩)) ?_
  refine DrawX.cons rfl (fun X τ w H => OpsW.ldh (H.has hb.tail.tail) rfl rfl rfl rfl (hg 3 (by decide)) rfl (OpsW.nil ⟨rfl, H⟩)) ?_
  refine DrawX.cons rfl (fun X τ w H => OpsW.st rfl (OpsW.nil ⟨rfl, H⟩)) ?_
  refine DrawX.bsl (by kernel_rfl) rfl rfl rfl rfl rfl (fun τ => rfl) rfl ?_
  refine DrawX.nilS (q := 22) (fun _ => rfl) (fun _ => rfl) fun bb w H => ?_
  dsimp only
  refine AnyW.one (by kernel_rfl) (by kernel_rfl) rfl ?_
  refine OpsW.vapp (n2 := 1) (sz := 4) (c2 := fs[i].c) H p1 (SlR.of_blk (r := []) rfl (Nat.le_refl 1)) rfl (by decide) (by omega) rfl rfl rfl rfl rfl rfl rfl rfl rfl fun a2 cap2 w H => ?_
  refine OpsW.nil ?_
  refine AnyW.one (by kernel_rfl) (by kernel_rfl) rfl ?_
  (first | (refine zA ?_; first | refine zB ?_ | refine zC H ?_ | refine zD H ?_ | refine zE H fun _ _ H => ?_ | refine zF H fun _ _ H => ?_ | refine zG H fun _ H => ?_ | refine zH H fun _ H => ?_) | (refine zI ?_; first | refine zJ ?_ | refine zK ?_ | refine zL ?_ | refine zM ?_ | refine zN ?_ | refine zO ?_ | refine zP ?_ | refine zQ ?_ | refine zR ?_) | refine zS ?_)
  refine OpsW.nil ?_
  refine AnyW.done ?_
  repeat' (first | (refine zA ?_; first | refine zB ?_ | refine zC H ?_ | refine zD H ?_ | refine zE H fun _ _ H => ?_ | refine zF H fun _ _ H => ?_ | refine zG H fun _ H => ?_ | refine zH H fun _ H => ?_) | (refine zI ?_; first | refine zJ ?_ | refine zK ?_ | refine zL ?_ | refine CW.seqDc ?_ | refine CW.seqDb ?_ | refine CW.seqDl ?_ | refine CW.seqDs ?_ | refine CW.seqDk ?_ | refine zN ?_ | refine zO ?_ | refine zP ?_ | refine zQ ?_ | refine zR ?_) | refine zS ?_)
  refine ⟨(i + 1, a2, cap2), (by (repeat (first | (with_reducible exact Agree.refl _ _) | (with_reducible refine Agree.trim (by assumption) ?_) | refine Agree.upd ?_ rfl | exact Agree.mix' | refine Agree.mixL ?_ (fun j h => by simp only [Bool.or_eq_true, Bool.and_eq_true, Nat.beq_eq, Nat.ble_eq] at h ⊢; omega) rfl))), ⟨nat_succ hi' (by omega), rfl, trivial⟩, ⟨hi', ?_⟩, by show fs.length - (i + 1) < fs.length - i; omega⟩
  show Sat z w (vec _ a2 (i + 1) cap2 4 ((fs.take (i + 1)).flatMap Fac.c) :: As)
  rw [List.take_succ_eq_append_getElem hi', List.flatMap_append]
  have e1 : [fs[i]].flatMap Fac.c = fs[i].c := by simp
  rw [e1]
  exact (H.perm p1).drop
theorem light_ {fs : List Fac} {v : Value} (H : Sat z w As) (hl : fs.length ≤ 9223372036854775807) (hv : SlR As v 4 fs.length (fs.flatMap Fac.c)) (hok : ∀ f ∈ fs, f.ok As) :
    Spec cf 5 #[v] w fun e w' => ∃ b, e = .bool b ∧ (b = true → fs.length ≤ 20 ∧ ∀ f ∈ fs, f.parts.length ≤ 8) ∧ Sat z w' As := by
  obtain ⟨a, cp, rfl⟩ := lenW hv
  refine enter (l := [.slice a fs.length cp]) Try.func5 rfl rfl rfl rfl rfl ?_
  repeat' (first | (refine zA ?_; first | refine zB ?_ | refine zC H ?_ | refine zD H ?_ | refine zE H fun _ _ H => ?_ | refine zF H fun _ _ H => ?_ | refine zG H fun _ H => ?_ | refine zH H fun _ H => ?_) | (refine zI ?_; first | refine zJ ?_ | refine zK ?_ | refine zL ?_ | refine CW.seqDc ?_ | refine CW.seqDb ?_ | refine CW.seqDl ?_ | refine CW.seqDs ?_ | refine CW.seqDk ?_ | refine zN ?_ | refine zO ?_ | refine zP ?_ | refine zQ ?_ | refine zR ?_) | refine zS ?_)
  refine CW.loopF (X := Nat) (fun j => Nat.ble 3 j) (fun s => [(3, .int .i64 (s : Int))]) (fun s w => (s ≤ fs.length ∧ ∀ j (hj : j < fs.length), j < s → fs[j].parts.length ≤ 8) ∧ Sat z w As) (fun s => fs.length - s) 0 ⟨rfl, trivial⟩ ⟨⟨Nat.zero_le _, fun j _ h => absurd h (Nat.not_lt_zero j)⟩, H⟩ ?_
  clear H
  rintro i τ w ⟨⟨hi, h8⟩, H⟩
  repeat' (first | (refine zA ?_; first | refine zB ?_ | refine zC H ?_ | refine zD H ?_ | refine zE H fun _ _ H => ?_ | refine zF H fun _ _ H => ?_ | refine zG H fun _ H => ?_ | refine zH H fun _ H => ?_) | (refine zI ?_; first | refine zJ ?_ | refine zK ?_ | refine zL ?_ | refine CW.seqDc ?_ | refine CW.seqDb ?_ | refine CW.seqDl ?_ | refine CW.seqDs ?_ | refine CW.seqDk ?_ | refine zN ?_ | refine zO ?_ | refine zP ?_ | refine zQ ?_ | refine zR ?_) | refine zS ?_)
  refine CW.cond rfl (fun h => ?_) (fun h => ?_)
  case refine_2 =>
    have : i = fs.length := by simp at h; omega
    repeat' (first | (refine zA ?_; first | refine zB ?_ | refine zC H ?_ | refine zD H ?_ | refine zE H fun _ _ H => ?_ | refine zF H fun _ _ H => ?_ | refine zG H fun _ H => ?_ | refine zH H fun _ H => ?_) | (refine zI ?_; first | refine zJ ?_ | refine zK ?_ | refine zL ?_ | refine CW.seqDc ?_ | refine CW.seqDb ?_ | refine CW.seqDl ?_ | refine CW.seqDs ?_ | refine CW.seqDk ?_ | refine zN ?_ | refine zO ?_ | refine zP ?_ | refine zQ ?_ | refine zR ?_) | refine zS ?_)
    refine ret1 rfl ⟨_, rfl, fun hb => ⟨by have := of_decide_eq_true hb; omega, fun f hf => ?_⟩, H⟩
    obtain ⟨j, hj, rfl⟩ := List.mem_iff_getElem.1 hf
    exact h8 j hj (by omega)
  have hi' : i < fs.length := by simpa using h
  have hok1 := hok fs[i] (List.getElem_mem hi')
  obtain ⟨b, off, m, E, fr, rfl, hb, hm⟩ := hv.at_ (by omega)
  have hg : m[off + i * 4 + 3]? = some (.slice fs[i].pa fs[i].parts.length fs[i].pc) := (hm i 3 hi' (by decide)).trans (by
    have := fl_get Fac.c 4 Fac.c_len fs [] i 3 hi' (by decide)
    rw [List.append_nil] at this
    exact this)
  repeat' (first | (refine zA ?_; first | refine zB ?_ | refine zC H ?_ | refine zD H ?_ | refine zE H fun _ _ H => ?_ | refine zF H fun _ _ H => ?_ | refine zG H fun _ H => ?_ | refine zH H fun _ H => ?_) | (refine zI ?_; first | refine zJ ?_ | refine zK ?_ | refine zL ?_ | refine CW.seqDc ?_ | refine CW.seqDb ?_ | refine CW.seqDl ?_ | refine CW.seqDs ?_ | refine CW.seqDk ?_ | refine zN ?_ | refine zO ?_ | refine zP ?_ | refine zQ ?_ | refine zR ?_) | refine zS ?_)
  refine OpsW.ix (n := i) rfl rfl rfl rfl rfl rfl rfl hi' rfl ?_
  repeat' (first | (refine zA ?_; first | refine zB ?_ | refine zC H ?_ | refine zD H ?_ | refine zE H fun _ _ H => ?_ | refine zF H fun _ _ H => ?_ | refine zG H fun _ H => ?_ | refine zH H fun _ H => ?_) | (refine zI ?_; first | refine zJ ?_ | refine zK ?_ | refine zL ?_ | refine CW.seqDc ?_ | refine CW.seqDb ?_ | refine CW.seqDl ?_ | refine CW.seqDs ?_ | refine CW.seqDk ?_ | refine zN ?_ | refine zO ?_ | refine zP ?_ | refine zQ ?_ | refine zR ?_) | refine zS ?_)
  refine OpsW.ldh (H.has hb) rfl rfl rfl rfl hg rfl ?_
  repeat' (first | (refine zA ?_; first | refine zB ?_ | refine zC H ?_ | refine zD H ?_ | refine zE H fun _ _ H => ?_ | refine zF H fun _ _ H => ?_ | refine zG H fun _ H => ?_ | refine zH H fun _ H => ?_) | (refine zI ?_; first | refine zJ ?_ | refine zK ?_ | refine zL ?_ | refine CW.seqDc ?_ | refine CW.seqDb ?_ | refine CW.seqDl ?_ | refine CW.seqDs ?_ | refine CW.seqDk ?_ | refine zN ?_ | refine zO ?_ | refine zP ?_ | refine zQ ?_ | refine zR ?_) | refine zS ?_)
  refine CW.cond rfl (fun h => ?_) (fun h => ?_)
  · repeat' (first | (refine zA ?_; first | refine zB ?_ | refine zC H ?_ | refine zD H ?_ | refine zE H fun _ _ H => ?_ | refine zF H fun _ _ H => ?_ | refine zG H fun _ H => ?_ | refine zH H fun _ H => ?_) | (refine zI ?_; first | refine zJ ?_ | refine zK ?_ | refine zL ?_ | refine CW.seqDc ?_ | refine CW.seqDb ?_ | refine CW.seqDl ?_ | refine CW.seqDs ?_ | refine CW.seqDk ?_ | refine zN ?_ | refine zO ?_ | refine zP ?_ | refine zQ ?_ | refine zR ?_) | refine zS ?_)
    exact ret1 rfl ⟨false, rfl, fun h => (by cases h), H⟩
  have hp8 : fs[i].parts.length ≤ 8 := by have := of_decide_eq_false h; omega
  repeat' (first | (refine zA ?_; first | refine zB ?_ | refine zC H ?_ | refine zD H ?_ | refine zE H fun _ _ H => ?_ | refine zF H fun _ _ H => ?_ | refine zG H fun _ H => ?_ | refine zH H fun _ H => ?_) | (refine zI ?_; first | refine zJ ?_ | refine zK ?_ | refine zL ?_ | refine CW.seqDc ?_ | refine CW.seqDb ?_ | refine CW.seqDl ?_ | refine CW.seqDs ?_ | refine CW.seqDk ?_ | refine zN ?_ | refine zO ?_ | refine zP ?_ | refine zQ ?_ | refine zR ?_) | refine zS ?_)
  refine CW.loopF (X := Nat) (fun j => Nat.ble 4 j) (fun s => [(4, .int .i64 (s : Int))]) (fun s w => s ≤ fs[i].parts.length ∧ Sat z w As) (fun s => fs[i].parts.length - s) 0 ⟨rfl, trivial⟩ ⟨Nat.zero_le _, H⟩ ?_
  clear H
  rintro c τ w ⟨hc, H⟩
  repeat' (first | (refine zA ?_; first | refine zB ?_ | refine zC H ?_ | refine zD H ?_ | refine zE H fun _ _ H => ?_ | refine zF H fun _ _ H => ?_ | refine zG H fun _ H => ?_ | refine zH H fun _ H => ?_) | (refine zI ?_; first | refine zJ ?_ | refine zK ?_ | refine zL ?_ | refine CW.seqDc ?_ | refine CW.seqDb ?_ | refine CW.seqDl ?_ | refine CW.seqDs ?_ | refine CW.seqDk ?_ | refine zN ?_ | refine zO ?_ | refine zP ?_ | refine zQ ?_ | refine zR ?_) | refine zS ?_)
  refine OpsW.ix (n := i) rfl rfl rfl rfl rfl rfl rfl hi' rfl ?_
  repeat' (first | (refine zA ?_; first | refine zB ?_ | refine zC H ?_ | refine zD H ?_ | refine zE H fun _ _ H => ?_ | refine zF H fun _ _ H => ?_ | refine zG H fun _ H => ?_ | refine zH H fun _ H => ?_) | (refine zI ?_; first | refine zJ ?_ | refine zK ?_ | refine zL ?_ | refine CW.seqDc ?_ | refine CW.seqDb ?_ | refine CW.seqDl ?_ | refine CW.seqDs ?_ | refine CW.seqDk ?_ | refine zN ?_ | refine zO ?_ | refine zP ?_ | refine zQ ?_ | refine zR ?_) | refine zS ?_)
  refine OpsW.ldh (H.has hb) rfl rfl rfl rfl hg rfl ?_
  repeat' (first | (refine zA ?_; first | refine zB ?_ | refine zC H ?_ | refine zD H ?_ | refine zE H fun _ _ H => ?_ | refine zF H fun _ _ H => ?_ | refine zG H fun _ H => ?_ | refine zH H fun _ H => ?_) | (refine zI ?_; first | refine zJ ?_ | refine zK ?_ | refine zL ?_ | refine CW.seqDc ?_ | refine CW.seqDb ?_ | refine CW.seqDl ?_ | refine CW.seqDs ?_ | refine CW.seqDk ?_ | refine zN ?_ | refine zO ?_ | refine zP ?_ | refine zQ ?_ | refine zR ?_) | refine zS ?_)
  refine CW.cond rfl (fun h => ?_) (fun h => ?_)
  case refine_2 =>
    repeat' (first | (refine zA ?_; first | refine zB ?_ | refine zC H ?_ | refine zD H ?_ | refine zE H fun _ _ H => ?_ | refine zF H fun _ _ H => ?_ | refine zG H fun _ H => ?_ | refine zH H fun _ H => ?_) | (refine zI ?_; first | refine zJ ?_ | refine zK ?_ | refine zL ?_ | refine CW.seqDc ?_ | refine CW.seqDb ?_ | refine CW.seqDl ?_ | refine CW.seqDs ?_ | refine CW.seqDk ?_ | refine zN ?_ | refine zO ?_ | refine zP ?_ | refine zQ ?_ | refine zR ?_) | refine zS ?_)
    exact ⟨i + 1, (by (repeat (first | (with_reducible exact Agree.refl _ _) | (with_reducible refine Agree.trim (by assumption) ?_) | refine Agree.upd ?_ rfl | exact Agree.mix' | refine Agree.mixL ?_ (fun j h => by simp only [Bool.or_eq_true, Bool.and_eq_true, Nat.beq_eq, Nat.ble_eq] at h ⊢; omega) rfl))), ⟨nat_succ hi' hl, trivial⟩, ⟨⟨hi', fun j hj hji => by
      by_cases e : j = i
      · subst e; exact hp8
      · exact h8 j hj (by omega)⟩, H⟩, by omega⟩
  have hc' : c < fs[i].parts.length := by simpa using h
  have hvs := fl_take K.l 5 K.l_len fs[i].parts [] c hc'
  rw [List.append_nil] at hvs
  repeat' (first | (refine zA ?_; first | refine zB ?_ | refine zC H ?_ | refine zD H ?_ | refine zE H fun _ _ H => ?_ | refine zF H fun _ _ H => ?_ | refine zG H fun _ H => ?_ | refine zH H fun _ H => ?_) | (refine zI ?_; first | refine zJ ?_ | refine zK ?_ | refine zL ?_ | refine CW.seqDc ?_ | refine CW.seqDb ?_ | refine CW.seqDl ?_ | refine CW.seqDs ?_ | refine CW.seqDk ?_ | refine zN ?_ | refine zO ?_ | refine zP ?_ | refine zQ ?_ | refine zR ?_) | refine zS ?_)
  refine OpsW.ix (n := i) rfl rfl rfl rfl rfl rfl rfl hi' rfl ?_
  repeat' (first | (refine zA ?_; first | refine zB ?_ | refine zC H ?_ | refine zD H ?_ | refine zE H fun _ _ H => ?_ | refine zF H fun _ _ H => ?_ | refine zG H fun _ H => ?_ | refine zH H fun _ H => ?_) | (refine zI ?_; first | refine zJ ?_ | refine zK ?_ | refine zL ?_ | refine CW.seqDc ?_ | refine CW.seqDb ?_ | refine CW.seqDl ?_ | refine CW.seqDs ?_ | refine CW.seqDk ?_ | refine zN ?_ | refine zO ?_ | refine zP ?_ | refine zQ ?_ | refine zR ?_) | refine zS ?_)
  refine OpsW.ldh (H.has hb) rfl rfl rfl rfl hg rfl ?_
  repeat' (first | (refine zA ?_; first | refine zB ?_ | refine zC H ?_ | refine zD H ?_ | refine zE H fun _ _ H => ?_ | refine zF H fun _ _ H => ?_ | refine zG H fun _ H => ?_ | refine zH H fun _ H => ?_) | (refine zI ?_; first | refine zJ ?_ | refine zK ?_ | refine zL ?_ | refine CW.seqDc ?_ | refine CW.seqDb ?_ | refine CW.seqDl ?_ | refine CW.seqDs ?_ | refine CW.seqDk ?_ | refine zN ?_ | refine zO ?_ | refine zP ?_ | refine zQ ?_ | refine zR ?_) | refine zS ?_)
  refine OpsW.ixldA H hok1 rfl (fun _ => rfl) rfl rfl rfl rfl rfl rfl rfl rfl hc' hvs rfl rfl fun pp => ?_
  refine OpsW.call rfl rfl rfl (valid_ _ _ _ H fs[i].parts[c]) ?_
  rintro _ w ⟨rfl, H⟩
  repeat' (first | (refine zA ?_; first | refine zB ?_ | refine zC H ?_ | refine zD H ?_ | refine zE H fun _ _ H => ?_ | refine zF H fun _ _ H => ?_ | refine zG H fun _ H => ?_ | refine zH H fun _ H => ?_) | (refine zI ?_; first | refine zJ ?_ | refine zK ?_ | refine zL ?_ | refine CW.seqDc ?_ | refine CW.seqDb ?_ | refine CW.seqDl ?_ | refine CW.seqDs ?_ | refine CW.seqDk ?_ | refine zN ?_ | refine zO ?_ | refine zP ?_ | refine zQ ?_ | refine zR ?_) | refine zS ?_)
  refine CW.cond rfl (fun h => ?_) (fun h => ?_)
  · repeat' (first | (refine zA ?_; first | refine zB ?_ | refine zC H ?_ | refine zD H ?_ | refine zE H fun _ _ H => ?_ | refine zF H fun _ _ H => ?_ | refine zG H fun _ H => ?_ | refine zH H fun _ H => ?_) | (refine zI ?_; first | refine zJ ?_ | refine zK ?_ | refine zL ?_ | refine CW.seqDc ?_ | refine CW.seqDb ?_ | refine CW.seqDl ?_ | refine CW.seqDs ?_ | refine CW.seqDk ?_ | refine zN ?_ | refine zO ?_ | refine zP ?_ | refine zQ ?_ | refine zR ?_) | refine zS ?_)
    exact ret1 rfl ⟨false, rfl, fun h => (by cases h), H⟩
  · repeat' (first | (refine zA ?_; first | refine zB ?_ | refine zC H ?_ | refine zD H ?_ | refine zE H fun _ _ H => ?_ | refine zF H fun _ _ H => ?_ | refine zG H fun _ H => ?_ | refine zH H fun _ H => ?_) | (refine zI ?_; first | refine zJ ?_ | refine zK ?_ | refine zL ?_ | refine CW.seqDc ?_ | refine CW.seqDb ?_ | refine CW.seqDl ?_ | refine CW.seqDs ?_ | refine CW.seqDk ?_ | refine zN ?_ | refine zO ?_ | refine zP ?_ | refine zQ ?_ | refine zR ?_) | refine zS ?_)
    exact ⟨c + 1, (by (repeat (first | (with_reducible exact Agree.refl _ _) | (with_reducible refine Agree.trim (by assumption) ?_) | refine Agree.upd ?_ rfl | exact Agree.mix' | refine Agree.mixL ?_ (fun j h => by simp only [Bool.or_eq_true, Bool.and_eq_true, Nat.beq_eq, Nat.ble_eq] at h ⊢; omega) rfl))), ⟨nat_succ hc' (by omega), trivial⟩, ⟨hc', H⟩, by omega⟩
end
end Go.Proofs.Ytdbnkimegdogjaa.X
