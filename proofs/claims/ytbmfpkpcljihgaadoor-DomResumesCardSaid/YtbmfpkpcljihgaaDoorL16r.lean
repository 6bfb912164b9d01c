/- The law DomResumes of chapter 16, walked; conditions: none. -/
import Derived.Test.YtbmfpkpcljihgaaDoorL16
import Derived.Test.YtbmfpkpcljihgaaDoorADk
namespace Go.Proofs.YtbmfpkpcljihgaaDoor.X
open Go Go.Proofs
set_option linter.unusedSimpArgs false
set_option linter.unusedVariables false
/-- The errors that domains load. -/
structure ED (As : List HP) (ads : List Addr) : Prop where
  s : GlobV As 4 (eA ads 2)
  r : GlobV As 1 (eA ads 3)
  n : GlobV As 0 (eA ads 5)
  f : GlobV As 3 (eA ads 6)
theorem errsD {W : World} (h : Errs W 187 [4, 1, 0, 3]) : ∃ ads : List Addr, ED [snap W] ads := by
  obtain ⟨a, ha⟩ := h.get 0 rfl
  obtain ⟨b, hb⟩ := h.get 1 rfl
  obtain ⟨c, hc⟩ := h.get 2 rfl
  obtain ⟨d, hd⟩ := h.get 3 rfl
  exact ⟨[a, a, b, b, c, d], ha, hb, hc, hd⟩
/-- The domain that is put, and the two domains with it. -/
def dR (st wt : Int) : Dm := ⟨fun _ => 0, 0, st, 0, fun _ => K.void, K.void, K.void, K.void, wt⟩
def sR (x : Dm) : Ds := ⟨2, mF 1, fun j => if j = 0 then x else (if j = 0 then Dm.n else Dm.z), fun _ => []⟩
section
variable {x : Dm} {st wt : Int}
theorem dR_fitE (h1 : 1 ≤ st) (h2 : st ≤ 4) (h3 : 0 ≤ wt) (h4 : wt < 1000) : (dR st wt).fitE = 0 := by
  have ho : ¬ (dR st wt).outE := by
    show ¬ (st < 1 ∨ st > 4 ∨ (0 : Int) < 0 ∨ (0 : Int) > 6 ∨ wt < 0 ∨ wt > 536870911)
    omega
  unfold Dm.fitE
  rw [if_neg ho]
  show ecs (X.mk 16 (fun _ => K.void) ++ [K.void, K.void, K.void]) = 0
  decide +kernel
theorem sR_put : (dsM 2 (0 + 1) (fun j => if j = 0 then Dm.n else Dm.z) fun _ => []).setD 0 x = sR x := rfl
theorem sR_N : (sR x).N = 2 := rfl
theorem sR_resume : (sR x).resume 0 = if x.st = 2 then ⟨6, 0, 0, 0, IntKind.wrap .u32 x.wait⟩ else K.void := by
  by_cases h : x.st = 2
  · rw [if_pos h]; exact if_pos ⟨rfl, h⟩
  · rw [if_neg h]; exact if_neg fun h2 => h h2.2
theorem dR_resume : (sR (dR st wt)).resume 0 = if st = 2 then ⟨6, 0, 0, 0, IntKind.wrap .u32 wt⟩ else K.void := sR_resume
theorem sR_door {b : Int} (h : b ≤ 536870911) : (sR x).door 0 b = ⟨5, 0, 0, 0, b⟩ := if_pos ⟨rfl, h⟩
theorem sR_door2 : (sR x).door 0 536870912 = K.void := if_neg (fun h => absurd h.2 (by decide))
theorem sR_there : ((sR x).f 0).there = true := rfl
theorem sR_ql : ∀ j, j < (sR x).N → ((sR x).q j).length ≤ 1000 := fun j _ => Nat.zero_le _
theorem sR_qu : ∀ a c, a < (sR x).N → c < (sR x).N → ((0 : Nat) : Int) ∈ (sR x).q a → ((0 : Nat) : Int) ∈ (sR x).q c → a = c := fun a c _ _ h => by cases h
theorem sR_eN : ((sR x).endS 0).N = 2 := rfl
theorem sR_eon : ((sR x).endS 0).on 0 = false := rfl
theorem sR_ekey : ((sR x).endS 0).key 0 = K.void := if_neg (by rw [sR_eon]; decide)
theorem sR_eres : ((sR x).endS 0).resume 0 = K.void := if_neg (by rw [sR_eon]; rintro ⟨h, _⟩; cases h)
theorem sR_ever : ((sR x).endS 0).f 0 = ⟨false, 1, false⟩ := by
  show (if (0 : Nat) = 0 then (mF 1 0).give else mF 1 0) = _
  rw [if_pos rfl, mF_lt (by decide)]
  show (if (0 : Int) = 1048575 then (⟨false, 0, true⟩ : Pl) else ⟨false, IntKind.wrap .i64 (0 + 1), false⟩) = _
  rw [if_neg (by decide), show IntKind.wrap .i64 (0 + 1) = 1 by decide +kernel]
theorem zeroKV : (cf.T.zeroV 41).cells.toList = K.void.l := by kernel_rfl
end
attribute [local irreducible] CW OpsW RetW Spec blk snap DrawP AnyW AnyM AnyN bits IntKind.wrap vec arena eA queue Dm.c dms qps domP dsM sR Ds.endS dR Ds.resume Ds.door
set_option maxHeartbeats 4000000 in
set_option maxRecDepth 20000 in
theorem domResumes_ (W : World) (hEs : Errs W 187 [4, 1, 0, 3]) (sti : Int) (hsw : (Lit.int .i64 sti).wf = true) (wti : Int) (hww : (Lit.int .i64 wti).wf = true) :
    Spec cf 4 #[.int .i64 sti, .int .i64 wti] W fun v w' => v = .bool true ∧ Sat W w' [snap W] := by
  have H := Sat.start W
  obtain ⟨ads, hE⟩ := errsD hEs
  have hF := hE.f
  rw [eA_pos (by decide)] at hF
  refine enter (l := [.int .i64 sti, .int .i64 wti]) Tryd.func4 rfl rfl rfl rfl rfl ?_
  repeat' (first | (refine zA ?_; first | refine zB ?_ | refine zC H ?_ | refine zD H ?_ | refine zE H fun _ _ H => ?_ | refine zF H fun _ _ H => ?_ | refine zG H fun _ H => ?_ | refine zH H fun _ H => ?_) | (refine zI ?_; first | refine zJ ?_ | refine zK ?_ | refine zL ?_ | refine CW.seqDc ?_ | refine CW.seqDb ?_ | refine CW.seqDl ?_ | refine CW.seqDs ?_ | refine CW.seqDk ?_ | refine zN ?_ | refine zO ?_ | refine zP ?_ | refine zQ ?_ | refine zR ?_) | refine zS ?_)
  refine OpsW.call rfl rfl rfl (first16_ H hF) ?_
  rintro _ w ⟨rfl, H⟩
  repeat' (first | (refine zA ?_; first | refine zB ?_ | refine zC H ?_ | refine zD H ?_ | refine zE H fun _ _ H => ?_ | refine zF H fun _ _ H => ?_ | refine zG H fun _ H => ?_ | refine zH H fun _ H => ?_) | (refine zI ?_; first | refine zJ ?_ | refine zK ?_ | refine zL ?_ | refine CW.seqDc ?_ | refine CW.seqDb ?_ | refine CW.seqDl ?_ | refine CW.seqDs ?_ | refine CW.seqDk ?_ | refine zN ?_ | refine zO ?_ | refine zP ?_ | refine zQ ?_ | refine zR ?_) | refine zS ?_)
  refine OpsW.call rfl rfl rfl (number_ _ _ _ H sti 4 (by decide) (by decide)) ?_
  rintro _ w ⟨rfl, H⟩
  obtain ⟨st, hst⟩ : ∃ st, st = IntKind.wrap .i64 (sti % 4 + 1) := ⟨_, rfl⟩
  have hst1 : st = sti % 4 + 1 := by
    have h1 := Int.emod_nonneg sti (show (4 : Int) ≠ 0 by decide)
    have h2 := Int.emod_lt_of_pos sti (show (0 : Int) < 4 by decide)
    rw [hst, wrap64_id (by omega) (by omega)]
  have hs1 : 1 ≤ st := by have h1 := Int.emod_nonneg sti (show (4 : Int) ≠ 0 by decide); omega
  have hs4 : st ≤ 4 := by have h2 := Int.emod_lt_of_pos sti (show (0 : Int) < 4 by decide); omega
  repeat' (first | (refine zA ?_; first | refine zB ?_ | refine zC H ?_ | refine zD H ?_ | refine zE H fun _ _ H => ?_ | refine zF H fun _ _ H => ?_ | refine zG H fun _ H => ?_ | refine zH H fun _ H => ?_) | (refine zI ?_; first | refine zJ ?_ | refine zK ?_ | refine zL ?_ | refine CW.seqDc ?_ | refine CW.seqDb ?_ | refine CW.seqDl ?_ | refine CW.seqDs ?_ | refine CW.seqDk ?_ | refine zN ?_ | refine zO ?_ | refine zP ?_ | refine zQ ?_ | refine zR ?_) | refine zS ?_)
  rw [← hst]
  refine OpsW.call rfl rfl rfl (number_ _ _ _ H wti 1000 (by decide) (by decide)) ?_
  rintro _ w ⟨rfl, H⟩
  have hw0 := Int.emod_nonneg wti (show (1000 : Int) ≠ 0 by decide)
  have hw1 := Int.emod_lt_of_pos wti (show (0 : Int) < 1000 by decide)
  generalize wti % 1000 = wt at *
  clear hst hst1
  repeat' (first | (refine zA ?_; first | refine zB ?_ | refine zC H ?_ | refine zD H ?_ | refine zE H fun _ _ H => ?_ | refine zF H fun _ _ H => ?_ | refine zG H fun _ H => ?_ | refine zH H fun _ H => ?_) | (refine zI ?_; first | refine zJ ?_ | refine zK ?_ | refine zL ?_ | refine CW.seqDc ?_ | refine CW.seqDb ?_ | refine CW.seqDl ?_ | refine CW.seqDs ?_ | refine CW.seqDk ?_ | refine zN ?_ | refine zO ?_ | refine zP ?_ | refine zQ ?_ | refine zR ?_) | refine zS ?_)
  refine OpsW.call rfl rfl rfl (dom_new H 2 (by decide) (by decide)) ?_
  rintro _ w ⟨bd, rfl, H⟩
  rw [dsM_0] at H
  repeat' (first | (refine zA ?_; first | refine zB ?_ | refine zC H ?_ | refine zD H ?_ | refine zE H fun _ _ H => ?_ | refine zF H fun _ _ H => ?_ | refine zG H fun _ H => ?_ | refine zH H fun _ H => ?_) | (refine zI ?_; first | refine zJ ?_ | refine zK ?_ | refine zL ?_ | refine CW.seqDc ?_ | refine CW.seqDb ?_ | refine CW.seqDl ?_ | refine CW.seqDs ?_ | refine CW.seqDk ?_ | refine zN ?_ | refine zO ?_ | refine zP ?_ | refine zQ ?_ | refine zR ?_) | refine zS ?_)
  have hmk := dom_make H (by rw [dsM_N]; decide) hF 0 (by rw [dsM_N]; decide) dsM_free (fun j hj => dsM_taken hj)
  rw [dsM_ver, dsM_make] at hmk
  refine OpsW.call rfl rfl rfl hmk ?_
  rintro _ w ⟨rfl, H⟩
  clear hmk
  repeat' (first | (refine zA ?_; first | refine zB ?_ | refine zC H ?_ | refine zD H ?_ | refine zE H fun _ _ H => ?_ | refine zF H fun _ _ H => ?_ | refine zG H fun _ H => ?_ | refine zH H fun _ H => ?_) | (refine zI ?_; first | refine zJ ?_ | refine zK ?_ | refine zL ?_ | refine CW.seqDc ?_ | refine CW.seqDb ?_ | refine CW.seqDl ?_ | refine CW.seqDs ?_ | refine CW.seqDk ?_ | refine zN ?_ | refine zO ?_ | refine zP ?_ | refine zQ ?_ | refine zR ?_) | refine zS ?_)
  have hge := dom_get H (by rw [dsM_N]; decide) 0 (by rw [dsM_N]; decide) (by with_unfolding_all decide)
  rw [dsM_d, if_pos rfl] at hge
  refine OpsW.call rfl rfl rfl hge ?_
  rintro _ w ⟨rfl, H⟩
  clear hge
  repeat' (first | (refine zA ?_; first | refine zB ?_ | refine zC H ?_ | refine zD H ?_ | refine zE H fun _ _ H => ?_ | refine zG H fun _ H => ?_ | refine zH H fun _ H => ?_) | (refine zI ?_; first | refine zJ ?_ | refine zK ?_ | refine zL ?_ | refine zM ?_ | refine zN ?_ | refine zO ?_ | refine zP ?_ | refine zQ ?_ | refine zR ?_) | refine zS ?_)
  refine OpsW.alloc (l := Dm.z.c) H rfl rfl ((forceL_eq _ _).trans (congrArg some zero107V)) rfl fun bl w H => ?_
  repeat' (first | (refine zA ?_; first | refine zB ?_ | refine zC H ?_ | refine zD H ?_ | refine zE H fun _ _ H => ?_ | refine zG H fun _ H => ?_ | refine zH H fun _ H => ?_) | (refine zI ?_; first | refine zJ ?_ | refine zK ?_ | refine zL ?_ | refine zM ?_ | refine zN ?_ | refine zO ?_ | refine zP ?_ | refine zQ ?_ | refine zR ?_) | refine zS ?_)
  refine OpsW.strA (vs := Dm.n.c) H p0 rfl rfl (forceL_eq _ _) (Dm.scl _) rfl (Dm.len _) (by rw [Dm.len, Dm.len]; decide) fun w H => ?_
  rw [dm_over] at H
  repeat' (first | (refine zA ?_; first | refine zB ?_ | refine zC H ?_ | refine zD H ?_ | refine zE H fun _ _ H => ?_ | refine zF H fun _ _ H => ?_ | refine zG H fun _ H => ?_ | refine zH H fun _ H => ?_) | (refine zI ?_; first | refine zJ ?_ | refine zK ?_ | refine zL ?_ | refine CW.seqDc ?_ | refine CW.seqDb ?_ | refine CW.seqDl ?_ | refine CW.seqDs ?_ | refine CW.seqDk ?_ | refine zN ?_ | refine zO ?_ | refine zP ?_ | refine zQ ?_ | refine zR ?_) | refine zS ?_)
  refine OpsW.str H p0 rfl rfl rfl rfl rfl rfl (by rw [Dm.len]; decide) fun w H => ?_
  replace H : Sat W w (blk bl 44 (Dm.n.c.set 9 (.int .i64 st)) :: domP bd (dsM 2 (0 + 1) (fun j => if j = 0 then Dm.n else Dm.z) fun _ => []) :: [snap W]) := H
  rw [Dm.stS] at H
  repeat' (first | (refine zA ?_; first | refine zB ?_ | refine zC H ?_ | refine zD H ?_ | refine zE H fun _ _ H => ?_ | refine zF H fun _ _ H => ?_ | refine zG H fun _ H => ?_ | refine zH H fun _ H => ?_) | (refine zI ?_; first | refine zJ ?_ | refine zK ?_ | refine zL ?_ | refine CW.seqDc ?_ | refine CW.seqDb ?_ | refine CW.seqDl ?_ | refine CW.seqDs ?_ | refine CW.seqDk ?_ | refine zN ?_ | refine zO ?_ | refine zP ?_ | refine zQ ?_ | refine zR ?_) | refine zS ?_)
  refine OpsW.str H p0 rfl rfl rfl rfl rfl rfl (by rw [Dm.len]; decide) fun w H => ?_
  replace H : Sat W w (blk bl 44 ((Dm.c { Dm.n with st := st }).set 106 (.int .i64 wt)) :: domP bd (dsM 2 (0 + 1) (fun j => if j = 0 then Dm.n else Dm.z) fun _ => []) :: [snap W]) := H
  rw [Dm.stW] at H
  replace H : Sat W w (blk bl 44 (dR st wt).c :: domP bd (dsM 2 (0 + 1) (fun j => if j = 0 then Dm.n else Dm.z) fun _ => []) :: [snap W]) := by with_unfolding_all exact H
  repeat' (first | (refine zA ?_; first | refine zB ?_ | refine zC H ?_ | refine zD H ?_ | refine zE H fun _ _ H => ?_ | refine zF H fun _ _ H => ?_ | refine zG H fun _ H => ?_ | refine zH H fun _ H => ?_) | (refine zI ?_; first | refine zJ ?_ | refine zK ?_ | refine zL ?_ | refine CW.seqDc ?_ | refine CW.seqDb ?_ | refine CW.seqDl ?_ | refine CW.seqDs ?_ | refine CW.seqDk ?_ | refine zN ?_ | refine zO ?_ | refine zP ?_ | refine zQ ?_ | refine zR ?_) | refine zS ?_)
  refine OpsW.ldA H p0 rfl rfl rfl (Dm.all _) rfl ?_
  have hpu := dom_put (H.perm p1) (by rw [dsM_N]; decide) (hE.s.tail) (hE.r.tail) 0 (by rw [dsM_N]; decide) (by with_unfolding_all decide) (dR st wt)
  rw [dR_fitE hs1 hs4 hw0 hw1, if_pos rfl, sR_put, eA_0] at hpu
  refine OpsW.call rfl rfl rfl hpu ?_
  rintro _ w ⟨rfl, H⟩
  clear hpu
  replace H := (H.perm p1).drop
  repeat' (first | (refine zA ?_; first | refine zB ?_ | refine zC H ?_ | refine zD H ?_ | refine zE H fun _ _ H => ?_ | refine zG H fun _ H => ?_ | refine zH H fun _ H => ?_) | (refine zI ?_; first | refine zJ ?_ | refine zK ?_ | refine zL ?_ | refine zM ?_ | refine zN ?_ | refine zO ?_ | refine zP ?_ | refine zQ ?_ | refine zR ?_) | refine zS ?_)
  obtain ⟨k1, hk1⟩ : ∃ k1, k1 = (sR (dR st wt)).resume 0 := ⟨_, rfl⟩
  have hre := dom_resume H (by rw [sR_N]; decide) 0
  rw [← hk1] at hre
  refine OpsW.call rfl rfl rfl hre ?_
  rintro _ w ⟨rfl, H⟩
  clear hre
  repeat' (first | (refine zA ?_; first | refine zB ?_ | refine zC H ?_ | refine zD H ?_ | refine zE H fun _ _ H => ?_ | refine zG H fun _ H => ?_ | refine zH H fun _ H => ?_) | (refine zI ?_; first | refine zJ ?_ | refine zK ?_ | refine zL ?_ | refine zM ?_ | refine zN ?_ | refine zO ?_ | refine zP ?_ | refine zQ ?_ | refine zR ?_) | refine zS ?_)
  refine OpsW.alloc (l := K.void.l) H rfl rfl ((forceL_eq _ _).trans (congrArg some zeroKV)) rfl fun b10 w H => ?_
  repeat' (first | (refine zA ?_; first | refine zB ?_ | refine zC H ?_ | refine zD H ?_ | refine zE H fun _ _ H => ?_ | refine zG H fun _ H => ?_ | refine zH H fun _ H => ?_) | (refine zI ?_; first | refine zJ ?_ | refine zK ?_ | refine zL ?_ | refine zM ?_ | refine zN ?_ | refine zO ?_ | refine zP ?_ | refine zQ ?_ | refine zR ?_) | refine zS ?_)
  replace H : Sat W _ (blk b10 41 k1.l :: domP bd (sR (dR st wt)) :: [snap W]) := H
  repeat' (first | (refine zA ?_; first | refine zB ?_ | refine zC H ?_ | refine zD H ?_ | refine zE H fun _ _ H => ?_ | refine zG H fun _ H => ?_ | refine zH H fun _ H => ?_) | (refine zI ?_; first | refine zJ ?_ | refine zK ?_ | refine zL ?_ | refine zM ?_ | refine zN ?_ | refine zO ?_ | refine zP ?_ | refine zQ ?_ | refine zR ?_) | refine zS ?_)
  obtain ⟨wu, hwu⟩ : ∃ wu, wu = IntKind.wrap .u32 wt := ⟨_, rfl⟩
  have hwb : wu ≤ 536870911 := by rw [hwu, wrapu32]; omega
  rw [← hwu]
  have hdo := dom_door (H.perm p1) (by rw [sR_N]; decide) 0 wu
  rw [sR_door hwb] at hdo
  refine OpsW.call rfl rfl rfl hdo ?_
  rintro _ w ⟨rfl, H⟩
  clear hdo
  repeat' (first | (refine zA ?_; first | refine zB ?_ | refine zC H ?_ | refine zD H ?_ | refine zE H fun _ _ H => ?_ | refine zG H fun _ H => ?_ | refine zH H fun _ H => ?_) | (refine zI ?_; first | refine zJ ?_ | refine zK ?_ | refine zL ?_ | refine zM ?_ | refine zN ?_ | refine zO ?_ | refine zP ?_ | refine zQ ?_ | refine zR ?_) | refine zS ?_)
  refine OpsW.alloc (l := K.void.l) H rfl rfl ((forceL_eq _ _).trans (congrArg some zeroKV)) rfl fun b11 w H => ?_
  repeat' (first | (refine zA ?_; first | refine zB ?_ | refine zC H ?_ | refine zD H ?_ | refine zE H fun _ _ H => ?_ | refine zG H fun _ H => ?_ | refine zH H fun _ H => ?_) | (refine zI ?_; first | refine zJ ?_ | refine zK ?_ | refine zL ?_ | refine zM ?_ | refine zN ?_ | refine zO ?_ | refine zP ?_ | refine zQ ?_ | refine zR ?_) | refine zS ?_)
  replace H : Sat W _ (blk b11 41 (K.l ⟨5, 0, 0, 0, wu⟩) :: domP bd (sR (dR st wt)) :: blk b10 41 k1.l :: [snap W]) := H
  repeat' (first | (refine zA ?_; first | refine zB ?_ | refine zC H ?_ | refine zD H ?_ | refine zE H fun _ _ H => ?_ | refine zG H fun _ H => ?_ | refine zH H fun _ H => ?_) | (refine zI ?_; first | refine zJ ?_ | refine zK ?_ | refine zL ?_ | refine zM ?_ | refine zN ?_ | refine zO ?_ | refine zP ?_ | refine zQ ?_ | refine zR ?_) | refine zS ?_)
  have hdo := dom_door (H.perm p1) (by rw [sR_N]; decide) 0 536870912
  rw [sR_door2] at hdo
  refine OpsW.call rfl rfl rfl hdo ?_
  rintro _ w ⟨rfl, H⟩
  clear hdo
  repeat' (first | (refine zA ?_; first | refine zB ?_ | refine zC H ?_ | refine zD H ?_ | refine zE H fun _ _ H => ?_ | refine zG H fun _ H => ?_ | refine zH H fun _ H => ?_) | (refine zI ?_; first | refine zJ ?_ | refine zK ?_ | refine zL ?_ | refine zM ?_ | refine zN ?_ | refine zO ?_ | refine zP ?_ | refine zQ ?_ | refine zR ?_) | refine zS ?_)
  refine OpsW.alloc (l := K.void.l) H rfl rfl ((forceL_eq _ _).trans (congrArg some zeroKV)) rfl fun b12 w H => ?_
  repeat' (first | (refine zA ?_; first | refine zB ?_ | refine zC H ?_ | refine zD H ?_ | refine zE H fun _ _ H => ?_ | refine zG H fun _ H => ?_ | refine zH H fun _ H => ?_) | (refine zI ?_; first | refine zJ ?_ | refine zK ?_ | refine zL ?_ | refine zM ?_ | refine zN ?_ | refine zO ?_ | refine zP ?_ | refine zQ ?_ | refine zR ?_) | refine zS ?_)
  replace H : Sat W _ (blk b12 41 K.void.l :: domP bd (sR (dR st wt)) :: blk b11 41 (K.l ⟨5, 0, 0, 0, wu⟩) :: blk b10 41 k1.l :: [snap W]) := H
  repeat' (first | (refine zA ?_; first | refine zB ?_ | refine zC H ?_ | refine zD H ?_ | refine zE H fun _ _ H => ?_ | refine zG H fun _ H => ?_ | refine zH H fun _ H => ?_) | (refine zI ?_; first | refine zJ ?_ | refine zK ?_ | refine zL ?_ | refine zM ?_ | refine zN ?_ | refine zO ?_ | refine zP ?_ | refine zQ ?_ | refine zR ?_) | refine zS ?_)
  refine OpsW.call rfl rfl rfl (dom_end (H.perm p1) (by rw [sR_N]; decide) 0 (by rw [sR_N]; decide) sR_there sR_ql sR_qu) ?_
  rintro _ w ⟨rfl, H⟩
  repeat' (first | (refine zA ?_; first | refine zB ?_ | refine zC H ?_ | refine zD H ?_ | refine zE H fun _ _ H => ?_ | refine zG H fun _ H => ?_ | refine zH H fun _ H => ?_) | (refine zI ?_; first | refine zJ ?_ | refine zK ?_ | refine zL ?_ | refine zM ?_ | refine zN ?_ | refine zO ?_ | refine zP ?_ | refine zQ ?_ | refine zR ?_) | refine zS ?_)
  refine OpsW.alloc (l := K.void.l) H rfl rfl ((forceL_eq _ _).trans (congrArg some zeroKV)) rfl fun b13 w H => ?_
  repeat' (first | (refine zA ?_; first | refine zB ?_ | refine zC H ?_ | refine zD H ?_ | refine zE H fun _ _ H => ?_ | refine zG H fun _ H => ?_ | refine zH H fun _ H => ?_) | (refine zI ?_; first | refine zJ ?_ | refine zK ?_ | refine zL ?_ | refine zM ?_ | refine zN ?_ | refine zO ?_ | refine zP ?_ | refine zQ ?_ | refine zR ?_) | refine zS ?_)
  replace H : Sat W _ (blk b13 41 K.void.l :: domP bd ((sR (dR st wt)).endS 0) :: blk b12 41 K.void.l :: blk b11 41 (K.l ⟨5, 0, 0, 0, wu⟩) :: blk b10 41 k1.l :: [snap W]) := H
  repeat' (first | (refine zA ?_; first | refine zB ?_ | refine zC H ?_ | refine zD H ?_ | refine zE H fun _ _ H => ?_ | refine zG H fun _ H => ?_ | refine zH H fun _ H => ?_) | (refine zI ?_; first | refine zJ ?_ | refine zK ?_ | refine zL ?_ | refine zM ?_ | refine zN ?_ | refine zO ?_ | refine zP ?_ | refine zQ ?_ | refine zR ?_) | refine zS ?_)
  refine OpsW.alloc (l := K.void.l) H rfl rfl ((forceL_eq _ _).trans (congrArg some zeroKV)) rfl fun b15 w H => ?_
  repeat' (first | (refine zA ?_; first | refine zB ?_ | refine zC H ?_ | refine zD H ?_ | refine zE H fun _ _ H => ?_ | refine zF H fun _ _ H => ?_ | refine zG H fun _ H => ?_ | refine zH H fun _ H => ?_) | (refine zI ?_; first | refine zJ ?_ | refine zK ?_ | refine zL ?_ | refine CW.seqDb ?_ | refine CW.seqDl ?_ | refine CW.seqDk ?_ | refine zN ?_ | refine zO ?_ | refine zP ?_ | refine zQ ?_ | refine zR ?_) | refine zS ?_)
  replace H : Sat W _ (blk b15 41 K.void.l :: blk b13 41 K.void.l :: domP bd ((sR (dR st wt)).endS 0) :: blk b12 41 K.void.l :: blk b11 41 (K.l ⟨5, 0, 0, 0, wu⟩) :: blk b10 41 k1.l :: [snap W]) := H
  refine CW.join (X := Unit) (fun j => Nat.ble 65 j) (fun _ => []) (fun _ w => Sat W w (domP bd ((sR (dR st wt)).endS 0) :: blk b10 41 k1.l :: blk b11 41 (K.l ⟨5, 0, 0, 0, wu⟩) :: blk b12 41 K.void.l :: blk b13 41 K.void.l :: blk b15 41 k1.l :: [snap W])) ?_ ?_
  · by_cases h2 : st = 2
    · have hk : k1 = ⟨6, 0, 0, 0, wu⟩ := by rw [hk1, dR_resume, if_pos h2, hwu]
      rw [show (st == 2) = true by simpa using h2]
      repeat' (first | (refine zA ?_; first | refine zB ?_ | refine zC H ?_ | refine zD H ?_ | refine zE H fun _ _ H => ?_ | refine zF H fun _ _ H => ?_ | refine zG H fun _ H => ?_ | refine zH H fun _ H => ?_) | (refine zI ?_; first | refine zJ ?_ | refine zK ?_ | refine zL ?_ | refine CW.seqDc ?_ | refine CW.seqDb ?_ | refine CW.seqDl ?_ | refine CW.seqDs ?_ | refine CW.seqDk ?_ | refine zN ?_ | refine zO ?_ | refine zP ?_ | refine zQ ?_ | refine zR ?_) | refine zS ?_)
      replace H : Sat W _ (blk b15 41 (K.l ⟨6, 0, 0, 0, IntKind.wrap .u32 wt⟩) :: blk b13 41 K.void.l :: domP bd ((sR (dR st wt)).endS 0) :: blk b12 41 K.void.l :: blk b11 41 (K.l ⟨5, 0, 0, 0, wu⟩) :: blk b10 41 k1.l :: [snap W]) := H
      rw [← hwu, ← hk] at H
      exact ⟨(), (by (repeat (first | (with_reducible exact Agree.refl _ _) | (with_reducible refine Agree.trim (by assumption) ?_) | refine Agree.upd ?_ rfl | exact Agree.mix' | refine Agree.mixL ?_ (fun j h => by simp only [Bool.or_eq_true, Bool.and_eq_true, Nat.beq_eq, Nat.ble_eq] at h ⊢; omega) rfl))), trivial, H.perm (by repeat' (first | (with_reducible exact List.Perm.refl _) | (with_reducible refine List.Perm.trans p0 (List.Perm.cons _ ?_)) | (with_reducible refine List.Perm.trans p1 (List.Perm.cons _ ?_)) | (with_reducible refine List.Perm.trans p2 (List.Perm.cons _ ?_)) | (with_reducible refine List.Perm.trans p3 (List.Perm.cons _ ?_)) | (with_reducible refine List.Perm.trans p4 (List.Perm.cons _ ?_)) | (with_reducible refine List.Perm.trans p5 (List.Perm.cons _ ?_)) | (with_reducible refine List.Perm.trans p6 (List.Perm.cons _ ?_)) | (with_reducible refine List.Perm.trans p7 (List.Perm.cons _ ?_)) | (with_reducible refine List.Perm.trans p8 (List.Perm.cons _ ?_)) | (with_reducible refine List.Perm.trans p9 (List.Perm.cons _ ?_)) | (with_reducible refine List.Perm.trans p10 (List.Perm.cons _ ?_)) | (with_reducible refine List.Perm.trans p11 (List.Perm.cons _ ?_))))⟩
    · have hk : k1 = K.void := by rw [hk1, dR_resume, if_neg h2]
      rw [show (st == 2) = false by simpa using h2]
      repeat' (first | (refine zA ?_; first | refine zB ?_ | refine zC H ?_ | refine zD H ?_ | refine zE H fun _ _ H => ?_ | refine zF H fun _ _ H => ?_ | refine zG H fun _ H => ?_ | refine zH H fun _ H => ?_) | (refine zI ?_; first | refine zJ ?_ | refine zK ?_ | refine zL ?_ | refine CW.seqDc ?_ | refine CW.seqDb ?_ | refine CW.seqDl ?_ | refine CW.seqDs ?_ | refine CW.seqDk ?_ | refine zN ?_ | refine zO ?_ | refine zP ?_ | refine zQ ?_ | refine zR ?_) | refine zS ?_)
      refine ⟨(), (by (repeat (first | (with_reducible exact Agree.refl _ _) | (with_reducible refine Agree.trim (by assumption) ?_) | refine Agree.upd ?_ rfl | exact Agree.mix' | refine Agree.mixL ?_ (fun j h => by simp only [Bool.or_eq_true, Bool.and_eq_true, Nat.beq_eq, Nat.ble_eq] at h ⊢; omega) rfl))), trivial, ?_⟩
      rw [hk] at H ⊢
      exact H.perm (by repeat' (first | (with_reducible exact List.Perm.refl _) | (with_reducible refine List.Perm.trans p0 (List.Perm.cons _ ?_)) | (with_reducible refine List.Perm.trans p1 (List.Perm.cons _ ?_)) | (with_reducible refine List.Perm.trans p2 (List.Perm.cons _ ?_)) | (with_reducible refine List.Perm.trans p3 (List.Perm.cons _ ?_)) | (with_reducible refine List.Perm.trans p4 (List.Perm.cons _ ?_)) | (with_reducible refine List.Perm.trans p5 (List.Perm.cons _ ?_)) | (with_reducible refine List.Perm.trans p6 (List.Perm.cons _ ?_)) | (with_reducible refine List.Perm.trans p7 (List.Perm.cons _ ?_)) | (with_reducible refine List.Perm.trans p8 (List.Perm.cons _ ?_)) | (with_reducible refine List.Perm.trans p9 (List.Perm.cons _ ?_)) | (with_reducible refine List.Perm.trans p10 (List.Perm.cons _ ?_)) | (with_reducible refine List.Perm.trans p11 (List.Perm.cons _ ?_))))
  clear H
  rintro _ τ w H
  clear hk1
  have hN : ((sR (dR st wt)).endS 0).N ≤ 256 := by rw [sR_eN]; decide
  have hK1 : ∀ {w : World}, Sat W w (domP bd ((sR (dR st wt)).endS 0) :: blk b10 41 k1.l :: blk b11 41 (K.l ⟨5, 0, 0, 0, wu⟩) :: blk b12 41 K.void.l :: blk b13 41 K.void.l :: blk b15 41 k1.l :: [snap W]) → Spec cf 23 #[k1.v, k1.v] w fun e w' => e = .bool true ∧ Sat W w' (domP bd ((sR (dR st wt)).endS 0) :: blk b10 41 k1.l :: blk b11 41 (K.l ⟨5, 0, 0, 0, wu⟩) :: blk b12 41 K.void.l :: blk b13 41 K.void.l :: blk b15 41 k1.l :: [snap W]) := fun {w} H => by
    have := sameKey _ _ _ H k1 k1
    rw [(K.same_iff _ _).2 rfl] at this; exact this
  have hKV : ∀ {w : World}, Sat W w (domP bd ((sR (dR st wt)).endS 0) :: blk b10 41 k1.l :: blk b11 41 (K.l ⟨5, 0, 0, 0, wu⟩) :: blk b12 41 K.void.l :: blk b13 41 K.void.l :: blk b15 41 k1.l :: [snap W]) → Spec cf 23 #[K.void.v, K.void.v] w fun e w' => e = .bool true ∧ Sat W w' (domP bd ((sR (dR st wt)).endS 0) :: blk b10 41 k1.l :: blk b11 41 (K.l ⟨5, 0, 0, 0, wu⟩) :: blk b12 41 K.void.l :: blk b13 41 K.void.l :: blk b15 41 k1.l :: [snap W]) := fun {w} H => by
    have := sameKey _ _ _ H K.void K.void
    rw [(K.same_iff _ _).2 rfl] at this; exact this
  have hKe : ∀ {w : World}, Sat W w (domP bd ((sR (dR st wt)).endS 0) :: blk b10 41 k1.l :: blk b11 41 (K.l ⟨5, 0, 0, 0, wu⟩) :: blk b12 41 K.void.l :: blk b13 41 K.void.l :: blk b15 41 k1.l :: [snap W]) → Spec cf 24 #[.pointer (some ⟨bd, 0, none⟩), .int .i64 0] w fun e w' => e = K.void.v ∧ Sat W w' (domP bd ((sR (dR st wt)).endS 0) :: blk b10 41 k1.l :: blk b11 41 (K.l ⟨5, 0, 0, 0, wu⟩) :: blk b12 41 K.void.l :: blk b13 41 K.void.l :: blk b15 41 k1.l :: [snap W]) := fun {w} H => by
    have := dom_key H hN 0
    rw [sR_ekey] at this; exact this
  have hRe : ∀ {w : World}, Sat W w (domP bd ((sR (dR st wt)).endS 0) :: blk b10 41 k1.l :: blk b11 41 (K.l ⟨5, 0, 0, 0, wu⟩) :: blk b12 41 K.void.l :: blk b13 41 K.void.l :: blk b15 41 k1.l :: [snap W]) → Spec cf 20 #[.pointer (some ⟨bd, 0, none⟩), .int .i64 0] w fun e w' => e = K.void.v ∧ Sat W w' (domP bd ((sR (dR st wt)).endS 0) :: blk b10 41 k1.l :: blk b11 41 (K.l ⟨5, 0, 0, 0, wu⟩) :: blk b12 41 K.void.l :: blk b13 41 K.void.l :: blk b15 41 k1.l :: [snap W]) := fun {w} H => by
    have := dom_resume H hN 0
    rw [sR_eres] at this; exact this
  have hbq : (wu == IntKind.wrap .u32 wt) = true := by rw [hwu]; exact beq_self_eq_true _
  repeat' (first | (refine zA ?_; first | refine zB ?_ | refine zC H ?_ | refine zD H ?_ | refine zE H fun _ _ H => ?_ | refine zF H fun _ _ H => ?_ | refine zG H fun _ H => ?_ | refine zH H fun _ H => ?_) | (refine zI ?_; first | refine zJ ?_ | refine zK ?_ | refine zL ?_ | refine CW.seqDc ?_ | refine CW.seqDb ?_ | refine CW.seqDl ?_ | refine CW.seqDs ?_ | refine CW.seqDk ?_ | refine zN ?_ | refine zO ?_ | refine zP ?_ | refine zQ ?_ | refine zR ?_) | refine zS ?_)
  (first | refine CW.seqDraw mo H [0, 1, 3, 3, 15, 31, 63, 127, 255, 511, 1023, 2047, 4095, 8191, 4095, 20479, 65535, 131071, 262143, 524287, 524287, 2097151, 4194303, 8388607, 16777215, 33554431, 16777215, 134217727, 268435455, 536870911, 1073741823, 2147483647, 1073741823, 8589934591, 17179869183, 34359738367, 68719476735, 137438953471, 274877906943, 549755813887, 1099511627775, 2199023255551, 4398046511103, 8796093022207] fun w H => ?_ | refine CW.draw mo H [0, 1, 3, 3, 15, 31, 63, 127, 255, 511, 1023, 2047, 4095, 8191, 4095, 20479, 65535, 131071, 262143, 524287, 524287, 2097151, 4194303, 8388607, 16777215, 33554431, 16777215, 134217727, 268435455, 536870911, 1073741823, 2147483647, 1073741823, 8589934591, 17179869183, 34359738367, 68719476735, 137438953471, 274877906943, 549755813887, 1099511627775, 2199023255551, 4398046511103, 8796093022207] fun w H => ?_); refine AnyW.seg (m := 38) (by kernel_rfl) (by kernel_rfl) H rfl ?_
  repeat' (first | (refine DrawP.nil ?_; intro w H) | (refine DrawP.go ?_; first | (refine DrawP.goNe ?_; first | refine DrawP.cons rfl (fun τ w H => OpsW.stV rfl (congrArg Value.bool hbq) (OpsW.nil ⟨rfl, H⟩)) ?_) | (refine DrawP.goEq ?_; first | refine DrawP.cons rfl (fun τ w H => OpsW.stV rfl (congrArg Value.bool hbq) (OpsW.nil ⟨rfl, H⟩)) ?_) | refine DrawP.cons rfl (fun τ w H => OpsW.st rfl (OpsW.nil ⟨rfl, H⟩)) ?_ | refine DrawP.cons rfl (fun τ w H => OpsW.ld H (by (first | exact p0 | exact p1 | exact p2 | exact p3 | exact p4 | exact p5 | exact p6 | exact p7)) rfl rfl rfl rfl (by rfl) rfl (OpsW.nil ⟨rfl, H⟩)) ?_ | refine DrawP.cons rfl (fun τ w H => OpsW.ldA H (by (first | exact p0 | exact p1 | exact p2 | exact p3 | exact p4 | exact p5 | exact p6 | exact p7)) rfl rfl rfl (by rfl) rfl (OpsW.nil ⟨rfl, H⟩)) ?_ | (refine DrawP.goCall ?_; first | refine DrawP.cons rfl (fun τ w H => OpsW.call rfl rfl rfl (hK1 H) fun _ w h => by obtain ⟨rfl, H⟩ := h; exact OpsW.nil ⟨rfl, H⟩) ?_ | refine DrawP.cons rfl (fun τ w H => OpsW.call rfl rfl rfl (hKV H) fun _ w h => by obtain ⟨rfl, H⟩ := h; exact OpsW.nil ⟨rfl, H⟩) ?_ | refine DrawP.cons rfl (fun τ w H => OpsW.call rfl rfl rfl (hKe H) fun _ w h => by obtain ⟨rfl, H⟩ := h; exact OpsW.nil ⟨rfl, H⟩) ?_ | refine DrawP.cons rfl (fun τ w H => OpsW.call rfl rfl rfl (hRe H) fun _ w h => by obtain ⟨rfl, H⟩ := h; exact OpsW.nil ⟨rfl, H⟩) ?_) | refine DrawP.cons rfl (fun τ w H => OpsW.ldA H p1 rfl rfl rfl (by rfl) rfl (OpsW.nil ⟨rfl, H⟩)) ?_ | refine DrawP.cons rfl (fun τ w H => OpsW.ldA H p3 rfl rfl rfl (by rfl) rfl (OpsW.nil ⟨rfl, H⟩)) ?_ | refine DrawP.cons rfl (fun τ w H => OpsW.ldA H p4 rfl rfl rfl (by rfl) rfl (OpsW.nil ⟨rfl, H⟩)) ?_ | refine DrawP.cons rfl (fun τ w H => OpsW.ldA H p5 rfl rfl rfl (by rfl) rfl (OpsW.nil ⟨rfl, H⟩)) ?_ | refine DrawP.cons rfl (fun τ w H => OpsW.ld H p2 rfl rfl rfl rfl (by rfl) rfl (OpsW.nil ⟨rfl, H⟩)) ?_) | refine DrawP.split (fun h => ?_) (fun h => ?_))
  obtain ⟨ba, b, bc, cap, ccap, rest, crest, qa, ⟨hc, hcc⟩, H2⟩ := dom_open H
  replace H := H2.perm p2
  clear H2
  have hve := fun {w : World} {As : List HP} (H : Sat W w (arena ba (X.mk ((sR (dR st wt)).endS 0).N ((sR (dR st wt)).endS 0).f) :: As)) => arenaN_verD H 0 (by rw [sR_eN]; decide)
  rw [sR_ever] at hve
  refine AnyW.seg (m := 44) (by kernel_rfl) (by kernel_rfl) H rfl ?_
  repeat' (first | (refine DrawP.nil ?_; intro w H) | (refine DrawP.go ?_; first | refine DrawP.cons rfl (fun τ w H => OpsW.st rfl (OpsW.nil ⟨rfl, H⟩)) ?_ | refine DrawP.cons rfl (fun τ w H => OpsW.ld H (by (first | exact p0 | exact p1 | exact p2 | exact p3 | exact p4 | exact p5 | exact p6 | exact p7)) rfl rfl rfl rfl (by rfl) rfl (OpsW.nil ⟨rfl, H⟩)) ?_ | refine DrawP.cons rfl (fun τ w H => OpsW.ldA H (by (first | exact p0 | exact p1 | exact p2 | exact p3 | exact p4 | exact p5 | exact p6 | exact p7)) rfl rfl rfl (by rfl) rfl (OpsW.nil ⟨rfl, H⟩)) ?_ | (refine DrawP.goCall ?_; first | refine DrawP.cons rfl (fun τ w H => OpsW.call rfl rfl rfl (hve H) fun _ w h => by obtain ⟨rfl, H⟩ := h; exact OpsW.nil ⟨rfl, H⟩) ?_)) | refine DrawP.split (fun h => ?_) (fun h => ?_))
  refine AnyW.done ?_
  repeat' (first | (refine zA ?_; first | refine zB ?_ | refine zC H ?_ | refine zD H ?_ | refine zE H fun _ _ H => ?_ | refine zF H fun _ _ H => ?_ | refine zG H fun _ H => ?_ | refine zH H fun _ H => ?_) | (refine zI ?_; first | refine zJ ?_ | refine zK ?_ | refine zL ?_ | refine CW.seqDc ?_ | refine CW.seqDb ?_ | refine CW.seqDl ?_ | refine CW.seqDs ?_ | refine CW.seqDk ?_ | refine zN ?_ | refine zO ?_ | refine zP ?_ | refine zQ ?_ | refine zR ?_) | refine zS ?_)
  exact ret1 rfl ⟨rfl, H.d7.drop.drop.drop⟩
end Go.Proofs.YtbmfpkpcljihgaaDoor.X
