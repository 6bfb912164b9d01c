/- Contracts of chapter 20 (maker): all factories, their holes; conditions: none. -/
import Derived.Test.YtbmfpkpcljihgaaDoorA20m
namespace Go.Proofs.YtbmfpkpcljihgaaDoor.X
open Go Go.Proofs
set_option linter.unusedSimpArgs false
set_option linter.unusedVariables false
/-- What a factory is, but for where its parts lie. -/
def Fac.pl (f : Fac) : Int × Int × Bool × List K := (f.id, f.ver, f.sealed, f.parts)
def Mk.fac (m : Mk) (i : Nat) : Int × Int × Bool × List K := ((i : Int), (m.f i).ver, m.sl i, X.mk 6 (m.pt i))
def Mk.facs (m : Mk) (n : Nat) : List (Int × Int × Bool × List K) := ((List.range n).filter fun j => (m.f j).there).map m.fac
def ofP (p : Int × Int × Bool × List K) : Fac := ⟨p.1, p.2.1, p.2.2.1, none, 0, p.2.2.2⟩
/-- The factories as the search has them. -/
def Mk.fcs (m : Mk) : List Fac := (m.facs m.N).map ofP
theorem ofP_pl (l : List (Int × Int × Bool × List K)) : (l.map ofP).map Fac.pl = l := by
  rw [List.map_map]
  have : Fac.pl ∘ ofP = id := rfl
  rw [this, List.map_id]
def namesP (k : K) (p : Int × Int × Bool × List K) : Bool := p.1 == k.id && p.2.1 == k.ver
theorem findP (k : K) (fs : List Fac) : fs.findIdx? k.names = (fs.map Fac.pl).findIdx? (namesP k) := by
  rw [List.findIdx?_map]; rfl
theorem getP {fs gs : List Fac} (h : fs.map Fac.pl = gs.map Fac.pl) (i : Nat) : (fs.getD i ⟨0, 0, false, none, 0, []⟩).pl = (gs.getD i ⟨0, 0, false, none, 0, []⟩).pl := by
  have h1 : ∀ l : List Fac, (l.getD i ⟨0, 0, false, none, 0, []⟩).pl = (l.map Fac.pl).getD i (0, 0, false, []) := fun l => by
    rw [List.getD_eq_getElem?_getD, List.getD_eq_getElem?_getD, List.getElem?_map]
    cases l[i]? <;> rfl
  rw [h1, h1, h]
theorem namedF_pl {fs gs : List Fac} (h : fs.map Fac.pl = gs.map Fac.pl) (k : K) : namedF fs k = namedF gs k := by
  unfold namedF
  rw [findP, findP, h]
  split
  · cases e : (gs.map Fac.pl).findIdx? (namesP k) with
    | none => rfl
    | some i =>
      have := getP h i
      simp only [Fac.pl, Prod.mk.injEq] at this
      simp only [this.2.2.1]
  · rfl
theorem reach_pl {fs gs : List Fac} (h : fs.map Fac.pl = gs.map Fac.pl) : ∀ (n : Nat) (k : K) (met : List Bool), reach fs n k met = reach gs n k met := by
  intro n
  induction n with
  | zero => intro k met; rfl
  | succ n ih =>
    intro k met
    unfold reach
    rw [namedF_pl h]
    split
    · rfl
    · cases namedF gs k with
      | none => rfl
      | some i =>
        have hp := getP h i
        simp only [Fac.pl, Prod.mk.injEq] at hp
        have hs : (fun met x => reach fs n x met) = fun met x => reach gs n x met := by funext met x; exact ih x met
        simp only [hp.2.2.2, hs]
theorem isHole_pl {fs gs : List Fac} (h : fs.map Fac.pl = gs.map Fac.pl) : isHole fs = isHole gs := by
  have hl : fs.length = gs.length := by have := congrArg List.length h; simpa using this
  funext k
  unfold isHole
  rw [hl, reach_pl h]
attribute [local irreducible] CW OpsW RetW Spec blk snap DrawP AnyW AnyM AnyN bits IntKind.wrap vec arena eA onc pks mks K.sensory namedF reach isHole K.weaken K.same facsM makP
section
variable {z w : World} {Rs As : List HP} {bm : Nat} {m : Mk} {ads : List Addr}
theorem mak_factory (H : Sat z w (makP bm m :: Rs)) (hN : m.N ≤ 256) (i : Nat) (hi : i < m.N) (hon : (m.f i).there = true) :
    Spec cf 80 #[.pointer (some ⟨bm, 0, none⟩), .int .i64 i] w fun e w' => ∃ a cap, e = .agg (Fac.c ⟨i, (m.f i).ver, m.sl i, a, cap, mk 6 (m.pt i)⟩).toArray ∧ Sat z w' (kvec a cap (mk 6 (m.pt i)) :: makP bm m :: Rs) := by
  have ho : m.on i = true := by show onN m.N m.f i = true; rw [onN_nat hi]; exact hon
  have hp : m.parts i = mk 6 (m.pt i) := if_pos ho
  have hs : m.isS i = m.sl i := by unfold Mk.isS; rw [ho]; rfl
  refine enter (l := [.pointer (some ⟨bm, 0, none⟩), .int .i64 i]) Tryd.func80 rfl rfl rfl rfl rfl ?_
  repeat' (first | (refine zA ?_; first | refine zB ?_ | refine zC H ?_ | refine zD H ?_ | refine zE H fun _ _ H => ?_ | refine zF H fun _ _ H => ?_ | refine zG H fun _ H => ?_ | refine zH H fun _ H => ?_) | (refine zI ?_; first | refine zJ ?_ | refine zK ?_ | refine zL ?_ | refine CW.seqDc ?_ | refine CW.seqDb ?_ | refine CW.seqDl ?_ | refine CW.seqDs ?_ | refine CW.seqDk ?_ | refine zN ?_ | refine zO ?_ | refine zP ?_ | refine zQ ?_ | refine zR ?_) | refine zS ?_)
  obtain ⟨ba, b, cap, rest, hc, H2⟩ := mak_open (H.perm p1)
  clear H
  have H := H2
  clear H2
  refine OpsW.ld H p0 rfl rfl rfl rfl (by rfl) rfl ?_
  repeat' (first | (refine zA ?_; first | refine zB ?_ | refine zC H ?_ | refine zD H ?_ | refine zE H fun _ _ H => ?_ | refine zF H fun _ _ H => ?_ | refine zG H fun _ H => ?_ | refine zH H fun _ H => ?_) | (refine zI ?_; first | refine zJ ?_ | refine zK ?_ | refine zL ?_ | refine CW.seqDc ?_ | refine CW.seqDb ?_ | refine CW.seqDl ?_ | refine CW.seqDs ?_ | refine CW.seqDk ?_ | refine zN ?_ | refine zO ?_ | refine zP ?_ | refine zQ ?_ | refine zR ?_) | refine zS ?_)
  have hv := arena_ver (H.perm p1) i (by rw [mk_length]; exact hi)
  rw [mk_get] at hv
  refine OpsW.call rfl rfl rfl hv ?_
  rintro _ w ⟨rfl, H⟩
  replace H := mak_close hc (H.perm p1)
  repeat' (first | (refine zA ?_; first | refine zB ?_ | refine zC H ?_ | refine zD H ?_ | refine zE H fun _ _ H => ?_ | refine zF H fun _ _ H => ?_ | refine zG H fun _ H => ?_ | refine zH H fun _ H => ?_) | (refine zI ?_; first | refine zJ ?_ | refine zK ?_ | refine zL ?_ | refine CW.seqDc ?_ | refine CW.seqDb ?_ | refine CW.seqDl ?_ | refine CW.seqDs ?_ | refine CW.seqDk ?_ | refine zN ?_ | refine zO ?_ | refine zP ?_ | refine zQ ?_ | refine zR ?_) | refine zS ?_)
  refine OpsW.call rfl rfl rfl (mak_sealed H hN i) ?_
  rintro _ w ⟨rfl, H⟩
  rw [hs]
  repeat' (first | (refine zA ?_; first | refine zB ?_ | refine zC H ?_ | refine zD H ?_ | refine zE H fun _ _ H => ?_ | refine zF H fun _ _ H => ?_ | refine zG H fun _ H => ?_ | refine zH H fun _ H => ?_) | (refine zI ?_; first | refine zJ ?_ | refine zK ?_ | refine zL ?_ | refine CW.seqDc ?_ | refine CW.seqDb ?_ | refine CW.seqDl ?_ | refine CW.seqDs ?_ | refine CW.seqDk ?_ | refine zN ?_ | refine zO ?_ | refine zP ?_ | refine zQ ?_ | refine zR ?_) | refine zS ?_)
  refine OpsW.call rfl rfl rfl (mak_parts H hN i) ?_
  rintro _ w ⟨a, c2, rfl, H⟩
  rw [hp] at H ⊢
  repeat' (first | (refine zA ?_; first | refine zB ?_ | refine zC H ?_ | refine zD H ?_ | refine zE H fun _ _ H => ?_ | refine zF H fun _ _ H => ?_ | refine zG H fun _ H => ?_ | refine zH H fun _ H => ?_) | (refine zI ?_; first | refine zJ ?_ | refine zK ?_ | refine zL ?_ | refine CW.seqDc ?_ | refine CW.seqDb ?_ | refine CW.seqDl ?_ | refine CW.seqDs ?_ | refine CW.seqDk ?_ | refine zN ?_ | refine zO ?_ | refine zP ?_ | refine zQ ?_ | refine zR ?_) | refine zS ?_)
  refine ret1c (resA H (by (first | exact p0 | exact p1 | exact p2 | exact p3 | exact p4 | exact p5 | exact p6 | exact p7)) rfl rfl (by rfl)) ⟨a, c2, rfl, ?_⟩
  exact H.drop.perm (.refl _)
theorem facs_succ (m : Mk) (n : Nat) : m.facs (n + 1) = m.facs n ++ (if (m.f n).there = true then [m.fac n] else []) := by
  unfold Mk.facs
  rw [List.range_succ, List.filter_append, List.map_append, List.filter_cons]
  cases (m.f n).there <;> simp
theorem facs_len (m : Mk) (n : Nat) : (m.facs n).length ≤ n := by
  unfold Mk.facs
  rw [List.length_map]
  have := List.length_filter_le (fun j => (m.f j).there) (List.range n)
  rw [List.length_range] at this
  exact this
theorem facsM_0 : facsM [] = emp := by unfold facsM; rfl
set_option maxRecDepth 20000 in
theorem mak_all (H : Sat z w (makP bm m :: Rs)) (hN : m.N ≤ 256) :
    Spec cf 47 #[.pointer (some ⟨bm, 0, none⟩)] w fun e w' => ∃ a cap, ∃ out : List Fac, e = .slice a out.length cap ∧ out.map Fac.pl = m.facs m.N ∧ Sat z w' (vec 112 a out.length cap 4 (out.flatMap Fac.c) :: facsM out :: makP bm m :: Rs) := by
  refine enter (l := [.pointer (some ⟨bm, 0, none⟩)]) Tryd.func47 rfl rfl rfl rfl rfl ?_
  obtain ⟨ba, b, cap, rest, hc, H2⟩ := mak_open H
  clear H
  have H := H2
  clear H2
  repeat' (first | (refine zA ?_; first | refine zB ?_ | refine zC H ?_ | refine zD H ?_ | refine zE H fun _ _ H => ?_ | refine zF H fun _ _ H => ?_ | refine zG H fun _ H => ?_ | refine zH H fun _ H => ?_) | (refine zI ?_; first | refine zJ ?_ | refine zK ?_ | refine zL ?_ | refine CW.seqDc ?_ | refine CW.seqDb ?_ | refine CW.seqDl ?_ | refine CW.seqDs ?_ | refine CW.seqDk ?_ | refine zN ?_ | refine zO ?_ | refine zP ?_ | refine zQ ?_ | refine zR ?_) | refine zS ?_)
  have H0 : Sat z w (vec 112 none ([] : List Fac).length 0 4 (([] : List Fac).flatMap Fac.c) :: facsM [] :: makP bm m :: Rs) := by
    refine Sat.vnil (E := 112) (sz := 4) ?_
    rw [facsM_0]
    exact (mak_close hc H).mkemp
  clear H
  refine CW.loopF (X := Nat × List Fac × Option Addr × Nat) (fun j => Nat.beq j 3 || Nat.beq j 4 || Nat.ble 10 j) (fun x => [(10, .int .i64 (x.1 : Int)), (3, .slice x.2.2.1 x.2.1.length x.2.2.2)])
    (fun x w => (x.1 ≤ m.N ∧ x.2.1.map Fac.pl = m.facs x.1) ∧ Sat z w (vec 112 x.2.2.1 x.2.1.length x.2.2.2 4 (x.2.1.flatMap Fac.c) :: facsM x.2.1 :: makP bm m :: Rs)) (fun x => m.N - x.1) (0, [], none, 0) ⟨rfl, rfl, trivial⟩ ⟨⟨Nat.zero_le _, rfl⟩, H0⟩ ?_
  clear H0
  rintro ⟨i, out, oa, oc⟩ τ w ⟨⟨hi, ho⟩, H⟩
  dsimp only at hi ho H
  have hol : out.length ≤ i := by
    have h1 := facs_len m i
    rw [← ho, List.length_map] at h1
    exact h1
  repeat' (first | (refine zA ?_; first | refine zB ?_ | refine zC H ?_ | refine zD H ?_ | refine zE H fun _ _ H => ?_ | refine zF H fun _ _ H => ?_ | refine zG H fun _ H => ?_ | refine zH H fun _ H => ?_) | (refine zI ?_; first | refine zJ ?_ | refine zK ?_ | refine zL ?_ | refine CW.seqDc ?_ | refine CW.seqDb ?_ | refine CW.seqDl ?_ | refine CW.seqDs ?_ | refine CW.seqDk ?_ | refine zN ?_ | refine zO ?_ | refine zP ?_ | refine zQ ?_ | refine zR ?_) | refine zS ?_)
  refine CW.cond rfl (fun h => ?_) (fun h => ?_)
  case refine_2 =>
    have : i = m.N := by have := of_decide_eq_false h; omega
    subst this
    repeat' (first | (refine zA ?_; first | refine zB ?_ | refine zC H ?_ | refine zD H ?_ | refine zE H fun _ _ H => ?_ | refine zF H fun _ _ H => ?_ | refine zG H fun _ H => ?_ | refine zH H fun _ H => ?_) | (refine zI ?_; first | refine zJ ?_ | refine zK ?_ | refine zL ?_ | refine CW.seqDc ?_ | refine CW.seqDb ?_ | refine CW.seqDl ?_ | refine CW.seqDs ?_ | refine CW.seqDk ?_ | refine zN ?_ | refine zO ?_ | refine zP ?_ | refine zQ ?_ | refine zR ?_) | refine zS ?_)
    exact ret1 rfl ⟨oa, oc, out, rfl, ho, H⟩
  have hi' : i < m.N := by have := of_decide_eq_true h; omega
  obtain ⟨ba, b, cap, rest, hc, H2⟩ := mak_open (H.perm p2)
  clear H
  have H := H2
  clear H2
  repeat' (first | (refine zA ?_; first | refine zB ?_ | refine zC H ?_ | refine zD H ?_ | refine zE H fun _ _ H => ?_ | refine zF H fun _ _ H => ?_ | refine zG H fun _ H => ?_ | refine zH H fun _ H => ?_) | (refine zI ?_; first | refine zJ ?_ | refine zK ?_ | refine zL ?_ | refine CW.seqDc ?_ | refine CW.seqDb ?_ | refine CW.seqDl ?_ | refine CW.seqDs ?_ | refine CW.seqDk ?_ | refine zN ?_ | refine zO ?_ | refine zP ?_ | refine zQ ?_ | refine zR ?_) | refine zS ?_)
  have hth := arenaN_there (H.perm p1) hN (i : Int)
  rw [onN_nat hi'] at hth
  refine OpsW.call rfl rfl rfl hth ?_
  rintro _ w ⟨rfl, H⟩
  replace H := mak_close hc (H.perm p1)
  have hsu := facs_succ m i
  cases ht : (m.f i).there
  · rw [ht, if_neg (by decide), List.append_nil] at hsu
    repeat' (first | (refine zA ?_; first | refine zB ?_ | refine zC H ?_ | refine zD H ?_ | refine zE H fun _ _ H => ?_ | refine zF H fun _ _ H => ?_ | refine zG H fun _ H => ?_ | refine zH H fun _ H => ?_) | (refine zI ?_; first | refine zJ ?_ | refine zK ?_ | refine zL ?_ | refine CW.seqDc ?_ | refine CW.seqDb ?_ | refine CW.seqDl ?_ | refine CW.seqDs ?_ | refine CW.seqDk ?_ | refine zN ?_ | refine zO ?_ | refine zP ?_ | refine zQ ?_ | refine zR ?_) | refine zS ?_)
    exact ⟨(i + 1, out, oa, oc), (by (repeat (first | (with_reducible exact Agree.refl _ _) | (with_reducible refine Agree.trim (by assumption) ?_) | refine Agree.upd ?_ rfl | exact Agree.mix' | refine Agree.mixL ?_ (fun j h => by simp only [Bool.or_eq_true, Bool.and_eq_true, Nat.beq_eq, Nat.ble_eq] at h ⊢; omega) rfl))), ⟨nat_succ hi' (by omega), rfl, trivial⟩, ⟨⟨hi', ho.trans hsu.symm⟩, H.perm (by repeat' (first | (with_reducible exact List.Perm.refl _) | (with_reducible refine List.Perm.trans p0 (List.Perm.cons _ ?_)) | (with_reducible refine List.Perm.trans p1 (List.Perm.cons _ ?_)) | (with_reducible refine List.Perm.trans p2 (List.Perm.cons _ ?_)) | (with_reducible refine List.Perm.trans p3 (List.Perm.cons _ ?_)) | (with_reducible refine List.Perm.trans p4 (List.Perm.cons _ ?_)) | (with_reducible refine List.Perm.trans p5 (List.Perm.cons _ ?_)) | (with_reducible refine List.Perm.trans p6 (List.Perm.cons _ ?_)) | (with_reducible refine List.Perm.trans p7 (List.Perm.cons _ ?_)) | (with_reducible refine List.Perm.trans p8 (List.Perm.cons _ ?_)) | (with_reducible refine List.Perm.trans p9 (List.Perm.cons _ ?_)) | (with_reducible refine List.Perm.trans p10 (List.Perm.cons _ ?_)) | (with_reducible refine List.Perm.trans p11 (List.Perm.cons _ ?_))))⟩, by show m.N - (i + 1) < m.N - i; omega⟩
  · rw [ht, if_pos rfl] at hsu
    repeat' (first | (refine zA ?_; first | refine zB ?_ | refine zC H ?_ | refine zD H ?_ | refine zE H fun _ _ H => ?_ | refine zF H fun _ _ H => ?_ | refine zG H fun _ H => ?_ | refine zH H fun _ H => ?_) | (refine zI ?_; first | refine zJ ?_ | refine zK ?_ | refine zL ?_ | refine CW.seqDc ?_ | refine CW.seqDb ?_ | refine CW.seqDl ?_ | refine CW.seqDs ?_ | refine CW.seqDk ?_ | refine zN ?_ | refine zO ?_ | refine zP ?_ | refine zQ ?_ | refine zR ?_) | refine zS ?_)
    refine OpsW.call rfl rfl rfl (mak_factory H hN i hi' ht) ?_
    rintro _ w ⟨pa, pc, rfl, H⟩
    obtain ⟨f, hf⟩ : ∃ f : Fac, f = ⟨i, (m.f i).ver, m.sl i, pa, pc, mk 6 (m.pt i)⟩ := ⟨_, rfl⟩
    rw [← hf]
    have hfm : kvec pa pc (mk 6 (m.pt i)) = facM f := by rw [hf]; rfl
    rw [hfm] at H
    have hfp : f.pl = m.fac i := by rw [hf]; rfl
    refine OpsW.bsl (l := f.c) H rfl rfl rfl rfl rfl rfl rfl rfl fun bb w H => ?_
    refine OpsW.vapp (n2 := 1) (sz := 4) (c2 := f.c) H p3 (SlR.of_blk (r := []) rfl (Nat.le_refl 1)) rfl (by decide) (by omega) rfl rfl rfl rfl rfl rfl rfl rfl rfl fun a2 cap2 w H => ?_
    repeat' (first | (refine zA ?_; first | refine zB ?_ | refine zC H ?_ | refine zD H ?_ | refine zE H fun _ _ H => ?_ | refine zF H fun _ _ H => ?_ | refine zG H fun _ H => ?_ | refine zH H fun _ H => ?_) | (refine zI ?_; first | refine zJ ?_ | refine zK ?_ | refine zL ?_ | refine CW.seqDc ?_ | refine CW.seqDb ?_ | refine CW.seqDl ?_ | refine CW.seqDs ?_ | refine CW.seqDk ?_ | refine zN ?_ | refine zO ?_ | refine zP ?_ | refine zQ ?_ | refine zR ?_) | refine zS ?_)
    refine ⟨(i + 1, out ++ [f], a2, cap2), (by (repeat (first | (with_reducible exact Agree.refl _ _) | (with_reducible refine Agree.trim (by assumption) ?_) | refine Agree.upd ?_ rfl | exact Agree.mix' | refine Agree.mixL ?_ (fun j h => by simp only [Bool.or_eq_true, Bool.and_eq_true, Nat.beq_eq, Nat.ble_eq] at h ⊢; omega) rfl))), ⟨nat_succ hi' (by omega), ae rfl (by rw [List.length_append]; rfl), trivial⟩, ⟨⟨hi', ?_⟩, ?_⟩, by show m.N - (i + 1) < m.N - i; omega⟩
    · rw [List.map_append, ho, hsu, ← hfp]; rfl
    · show Sat z w (vec 112 a2 (out ++ [f]).length cap2 4 ((out ++ [f]).flatMap Fac.c) :: facsM (out ++ [f]) :: makP bm m :: Rs)
      rw [facsM_snoc, List.flatMap_append, List.length_append]
      have e1 : [f].flatMap Fac.c = f.c := by simp
      rw [e1]
      have H3 : Sat z w (facsM out :: facM f :: vec 112 a2 (out.length + 1) cap2 4 (out.flatMap Fac.c ++ f.c) :: makP bm m :: Rs) := ((H.perm p1).drop).perm (by repeat' (first | (with_reducible exact List.Perm.refl _) | (with_reducible refine List.Perm.trans p0 (List.Perm.cons _ ?_)) | (with_reducible refine List.Perm.trans p1 (List.Perm.cons _ ?_)) | (with_reducible refine List.Perm.trans p2 (List.Perm.cons _ ?_)) | (with_reducible refine List.Perm.trans p3 (List.Perm.cons _ ?_)) | (with_reducible refine List.Perm.trans p4 (List.Perm.cons _ ?_)) | (with_reducible refine List.Perm.trans p5 (List.Perm.cons _ ?_)) | (with_reducible refine List.Perm.trans p6 (List.Perm.cons _ ?_)) | (with_reducible refine List.Perm.trans p7 (List.Perm.cons _ ?_)) | (with_reducible refine List.Perm.trans p8 (List.Perm.cons _ ?_)) | (with_reducible refine List.Perm.trans p9 (List.Perm.cons _ ?_)) | (with_reducible refine List.Perm.trans p10 (List.Perm.cons _ ?_)) | (with_reducible refine List.Perm.trans p11 (List.Perm.cons _ ?_))))
      exact H3.join.perm (.swap _ _ _)
theorem mak_holes (H : Sat z w (makP bm m :: Rs)) (hN : m.N ≤ 256) (id : Int) :
    Spec cf 46 #[.pointer (some ⟨bm, 0, none⟩), .int .i64 id] w fun e w' => ∃ a cap, e = .slice a ((m.parts id).filter (isHole m.fcs)).length cap ∧ Sat z w' (kvec a cap ((m.parts id).filter (isHole m.fcs)) :: makP bm m :: Rs) := by
  refine enter (l := [.pointer (some ⟨bm, 0, none⟩), .int .i64 id]) Tryd.func46 rfl rfl rfl rfl rfl ?_
  obtain ⟨ba, b, cap, rest, hc, H2⟩ := mak_open H
  clear H
  have H := H2
  clear H2
  repeat' (first | (refine zA ?_; first | refine zB ?_ | refine zC H ?_ | refine zD H ?_ | refine zE H fun _ _ H => ?_ | refine zF H fun _ _ H => ?_ | refine zG H fun _ H => ?_ | refine zH H fun _ H => ?_) | (refine zI ?_; first | refine zJ ?_ | refine zK ?_ | refine zL ?_ | refine CW.seqDc ?_ | refine CW.seqDb ?_ | refine CW.seqDl ?_ | refine CW.seqDs ?_ | refine CW.seqDk ?_ | refine zN ?_ | refine zO ?_ | refine zP ?_ | refine zQ ?_ | refine zR ?_) | refine zS ?_)
  refine OpsW.call rfl rfl rfl (arenaN_there (H.perm p1) hN id) ?_
  rintro _ w ⟨rfl, H⟩
  replace H := mak_close hc (H.perm p1)
  cases hon : onN m.N m.f id
  · rw [show m.parts id = [] from if_neg (by show ¬ onN m.N m.f id = true; rw [hon]; decide)]
    repeat' (first | (refine zA ?_; first | refine zB ?_ | refine zC H ?_ | refine zD H ?_ | refine zE H fun _ _ H => ?_ | refine zF H fun _ _ H => ?_ | refine zG H fun _ H => ?_ | refine zH H fun _ H => ?_) | (refine zI ?_; first | refine zJ ?_ | refine zK ?_ | refine zL ?_ | refine CW.seqDc ?_ | refine CW.seqDb ?_ | refine CW.seqDl ?_ | refine CW.seqDs ?_ | refine CW.seqDk ?_ | refine zN ?_ | refine zO ?_ | refine zP ?_ | refine zQ ?_ | refine zR ?_) | refine zS ?_)
    exact ret1 rfl ⟨none, 0, rfl, Sat.vnil (E := 41) (sz := 5) H⟩
  have hp : m.parts id = mk 6 (m.pt id.toNat) := if_pos hon
  rw [hp]
  obtain ⟨i, rfl, hi, ht⟩ := onN_at hon
  repeat' (first | (refine zA ?_; first | refine zB ?_ | refine zC H ?_ | refine zD H ?_ | refine zE H fun _ _ H => ?_ | refine zF H fun _ _ H => ?_ | refine zG H fun _ H => ?_ | refine zH H fun _ H => ?_) | (refine zI ?_; first | refine zJ ?_ | refine zK ?_ | refine zL ?_ | refine CW.seqDc ?_ | refine CW.seqDb ?_ | refine CW.seqDl ?_ | refine CW.seqDs ?_ | refine CW.seqDk ?_ | refine zN ?_ | refine zO ?_ | refine zP ?_ | refine zQ ?_ | refine zR ?_) | refine zS ?_)
  refine OpsW.call rfl rfl rfl (mak_factory H hN i hi ht) ?_
  rintro _ w ⟨pa, pc, rfl, H⟩
  repeat' (first | (refine zA ?_; first | refine zB ?_ | refine zC H ?_ | refine zD H ?_ | refine zE H fun _ _ H => ?_ | refine zF H fun _ _ H => ?_ | refine zG H fun _ H => ?_ | refine zH H fun _ H => ?_) | (refine zI ?_; first | refine zJ ?_ | refine zK ?_ | refine zL ?_ | refine CW.seqDc ?_ | refine CW.seqDb ?_ | refine CW.seqDl ?_ | refine CW.seqDs ?_ | refine CW.seqDk ?_ | refine zN ?_ | refine zO ?_ | refine zP ?_ | refine zQ ?_ | refine zR ?_) | refine zS ?_)
  refine OpsW.call rfl rfl rfl (mak_all (H.perm p1) hN) ?_
  rintro _ w ⟨oa, oc, out, rfl, ho, H⟩
  have hol : out.length ≤ m.N := by
    have h1 := facs_len m m.N
    rw [← ho, List.length_map] at h1
    exact h1
  obtain ⟨T1, -, s1, H⟩ := Sat.vopen H
  obtain ⟨T2, -, s2, H⟩ := facs_open out _ _ (H.perm p1)
  obtain ⟨T3, -, s3, H⟩ := Sat.vopen (kvec_open (H.perm p3))
  have hpl : ∀ f ∈ out, f.parts.length ≤ 1000000 := fun f hf => by
    have h2 : f.pl ∈ m.facs m.N := by rw [← ho]; exact List.mem_map_of_mem hf
    unfold Mk.facs at h2
    obtain ⟨j, -, hj⟩ := List.mem_map.1 h2
    have h3 : f.parts = mk 6 (m.pt j) := by
      have := congrArg (fun p : Int × Int × Bool × List K => p.2.2.2) hj
      exact this.symm
    rw [h3, mk_length]; decide
  have h6 : (mk 6 (m.pt i)).length ≤ 1000000 := by rw [mk_length]; decide
  have hih : isHole out = isHole m.fcs := isHole_pl (by rw [ho]; unfold Mk.fcs; rw [ofP_pl])
  have hof := hole_of (fs := out) ⟨i, (m.f i).ver, m.sl i, pa, pc, mk 6 (m.pt i)⟩ H (by omega) (SlR.tail (SlR.tail (s1 _))) (fun f hf => ⟨SlR.tail (s2 _ f hf), hpl f hf⟩) (s3 _) h6
  rw [hih] at hof
  refine OpsW.call rfl rfl rfl hof ?_
  rintro _ w ⟨ra, rc, rfl, H⟩
  repeat' (first | (refine zA ?_; first | refine zB ?_ | refine zC H ?_ | refine zD H ?_ | refine zE H fun _ _ H => ?_ | refine zF H fun _ _ H => ?_ | refine zG H fun _ H => ?_ | refine zH H fun _ H => ?_) | (refine zI ?_; first | refine zJ ?_ | refine zK ?_ | refine zL ?_ | refine CW.seqDc ?_ | refine CW.seqDb ?_ | refine CW.seqDl ?_ | refine CW.seqDs ?_ | refine CW.seqDk ?_ | refine zN ?_ | refine zO ?_ | refine zP ?_ | refine zQ ?_ | refine zR ?_) | refine zS ?_)
  exact ret1 rfl ⟨ra, rc, rfl, (((H.perm p1).drop.perm p1).drop.perm p1).drop⟩
end
end Go.Proofs.YtbmfpkpcljihgaaDoor.X
