/- The law MakerSeals of chapter 20, walked; conditions: none. -/
import Derived.Test.YtbmfpkpcljihgaaDoorL20
import Derived.Test.YtbmfpkpcljihgaaDoorRK
namespace Go.Proofs.YtbmfpkpcljihgaaDoor.X
open Go Go.Proofs
set_option linter.unusedSimpArgs false
set_option linter.unusedVariables false
/-- The first parts of the first of three factories. -/
def ptS (ks : List K) (i : Nat) : Nat → K := fun c => if c < i then ks.getD c K.void else K.void
def stS (ks : List K) (i : Nat) : Mk := ⟨3, mF 1, fun _ => false, fun j => if j = 0 then ptS ks i else fun _ => K.void⟩
def stE (ks : List K) (i : Nat) : Mk := (stS ks i).setS 0
theorem stS_N (ks : List K) (i : Nat) : (stS ks i).N = 3 := rfl
theorem stE_N (ks : List K) (i : Nat) : (stE ks i).N = 3 := rfl
theorem stS_0 (ks : List K) : (Mk.new 3).make 0 = stS ks 0 := by
  unfold Mk.make Mk.new stS
  dsimp only
  have h0 : (fun _ : Nat => Pl.z) = mF 0 := by funext j; exact (mF_ge (Nat.zero_le j)).symm
  have h1 : (fun j : Nat => if j = 0 then Pl.z.take else Pl.z) = mF 1 := by
    have := @mF_up 0
    rw [← h0] at this
    exact this
  have h2 : (fun j : Nat => if j = 0 then false else false) = fun _ => false := by funext j; split <;> rfl
  have h3 : ptS ks 0 = fun _ => K.void := by funext c; unfold ptS; rw [if_neg (by omega)]
  rw [h1, h2, h3]
theorem stS_on (ks : List K) (i : Nat) : (stS ks i).on 0 = true := rfl
theorem stS_instE (ks : List K) (i : Nat) (hi : i < 6) (k : K) (hk : k.ec = 0) : (stS ks i).instE 0 i k = 0 := by
  unfold Mk.instE
  rw [stS_on, if_neg (by decide), if_neg (by show ¬ (false = true); decide), if_neg (by omega), hk]
theorem stS_inst (ks : List K) (i : Nat) (hi : i < 6) (hl : i < ks.length) (hk : ks[i].ec = 0) : (stS ks i).inst 0 i ks[i] = stS ks (i + 1) := by
  unfold Mk.inst
  rw [stS_instE ks i hi _ hk, if_pos rfl]
  unfold Mk.putP stS
  dsimp only
  congr 1
  funext j
  by_cases e : j = 0
  · subst e
    have h1 : (0 : Int).toNat = 0 := rfl
    have h2 : ((i : Int)).toNat = i := rfl
    rw [h1, h2, if_pos rfl, if_pos rfl, if_pos rfl]
    funext c
    unfold ptS
    by_cases hc : c = i
    · subst hc; rw [if_pos rfl, if_pos (by omega), List.getD_eq_getElem?_getD, List.getElem?_eq_getElem hl]; rfl
    · rw [if_neg hc]
      by_cases h3 : c < i
      · rw [if_pos h3, if_pos (by omega)]
      · rw [if_neg h3, if_neg (by omega)]
  · have h1 : (0 : Int).toNat = 0 := rfl
    rw [h1, if_neg e, if_neg e, if_neg e]
theorem ptS_put (ks : List K) (i : Nat) (hl : i < ks.length) : (fun c => if c = i then ks[i] else ptS ks i c) = ptS ks (i + 1) := by
  funext c
  unfold ptS
  by_cases hc : c = i
  · subst hc; rw [if_pos rfl, if_pos (by omega), List.getD_eq_getElem?_getD, List.getElem?_eq_getElem hl]; rfl
  · rw [if_neg hc]
    by_cases h3 : c < i
    · rw [if_pos h3, if_pos (by omega)]
    · rw [if_neg h3, if_neg (by omega)]
theorem stS_isS (ks : List K) (i : Nat) : (stS ks i).isS 0 = false := rfl
theorem stS_sealE (ks : List K) (i : Nat) : (stS ks i).sealE 0 = 0 := rfl
theorem stS_sealS (ks : List K) (i : Nat) : (stS ks i).sealS 0 = stE ks i := rfl
theorem stE_sealE (ks : List K) (i : Nat) : (stE ks i).sealE 0 = 9 := rfl
theorem stE_sealS (ks : List K) (i : Nat) : (stE ks i).sealS 0 = stE ks i := rfl
theorem stE_instE (ks : List K) (i : Nat) (p : Int) (k : K) : (stE ks i).instE 0 p k = 9 := rfl
theorem stE_inst (ks : List K) (i : Nat) (p : Int) (k : K) : (stE ks i).inst 0 p k = stE ks i := by
  unfold Mk.inst; rw [stE_instE, if_neg (by decide)]
theorem stE_parts (ks : List K) (i : Nat) : (stE ks i).parts 0 = mk 6 (ptS ks i) := rfl
theorem pks_put (p : Nat → K) (i : Nat) (hi : i < 6) (k : K) : splice (pks p) (0 + i * 5) k.l = pks fun c => if c = i then k else p c := by
  have h2 := fl_splice K.l 5 Kl_len (mk 6 p) i (by rw [mk_length]; exact hi) k
  rw [mk_set] at h2
  rw [Nat.zero_add]
  unfold pks
  exact h2
theorem pks_repl : repl 6 (cf.T.zero.getD 41 []) = pks fun _ => K.void := by kernel_rfl
attribute [local irreducible] CW OpsW RetW Spec blk snap DrawP AnyW AnyM AnyN bits IntKind.wrap vec arena eA onc pks mks K.sensory namedF reach isHole K.weaken K.same facsM makP stS stE ptS
set_option maxHeartbeats 4000000 in
set_option maxRecDepth 20000 in
theorem makerSeals_ (W : World) (hEs : Errs W 187 errGs) (v : Value) (ly : List shKeyR.T) (hly : ly.length ≤ maxLen) (hlw : ∀ k ∈ ly, shKeyR.good W k) (hvy : SlR [snap W] v 5 ly.length (ly.flatMap shKeyR.cells)) (ky : shKeyR.T) (hky : shKeyR.good W ky) (at_ : Int) (haw : (Lit.int .i64 at_).wf = true) :
    Spec cf 6 #[v, .agg (shKeyR.cells ky).toArray, .int .i64 at_] W fun v w' => v = .bool true ∧ Sat W w' [snap W] := by
  have H := Sat.start W
  obtain ⟨ads, hE⟩ := hEs
  have hM := hE.em
  rw [toKR_c]
  generalize toKR ky = more
  have hv : SlR [snap W] v 5 (ly.map toKR).length ((ly.map toKR).flatMap K.l) := by
    rw [← flat_keyR, List.length_map]; exact hvy
  clear hvy hly hlw
  generalize ly.map toKR = ks at *
  obtain ⟨a, cap, rfl⟩ := lenW hv
  refine enter (l := [.slice a ks.length cap, more.v, .int .i64 at_]) Tryd.func6 rfl rfl rfl rfl rfl ?_
  repeat' (first | (refine zA ?_; first | refine zB ?_ | refine zC H ?_ | refine zD H ?_ | refine zE H fun _ _ H => ?_ | refine zF H fun _ _ H => ?_ | refine zG H fun _ H => ?_ | refine zH H fun _ H => ?_) | (refine zI ?_; first | refine zJ ?_ | refine zK ?_ | refine zL ?_ | refine CW.seqDc ?_ | refine CW.seqDb ?_ | refine CW.seqDl ?_ | refine CW.seqDs ?_ | refine CW.seqDk ?_ | refine zN ?_ | refine zO ?_ | refine zP ?_ | refine zQ ?_ | refine zR ?_) | refine zS ?_)
  rename_i bo _
  replace H : Sat W _ (blk bo 41 more.l :: [snap W]) := H
  refine OpsW.call rfl rfl rfl (first20_ H hM.tail) ?_
  rintro _ w ⟨rfl, H⟩
  repeat' (first | (refine zA ?_; first | refine zB ?_ | refine zC H ?_ | refine zD H ?_ | refine zE H fun _ _ H => ?_ | refine zF H fun _ _ H => ?_ | refine zG H fun _ H => ?_ | refine zH H fun _ H => ?_) | (refine zI ?_; first | refine zJ ?_ | refine zK ?_ | refine zL ?_ | refine CW.seqDc ?_ | refine CW.seqDb ?_ | refine CW.seqDl ?_ | refine CW.seqDs ?_ | refine CW.seqDk ?_ | refine zN ?_ | refine zO ?_ | refine zP ?_ | refine zQ ?_ | refine zR ?_) | refine zS ?_)
  refine OpsW.gs rfl rfl rfl (fun h => ?_) (fun h => ?_)
  · repeat' (first | (refine zA ?_; first | refine zB ?_ | refine zC H ?_ | refine zD H ?_ | refine zE H fun _ _ H => ?_ | refine zF H fun _ _ H => ?_ | refine zG H fun _ H => ?_ | refine zH H fun _ H => ?_) | (refine zI ?_; first | refine zJ ?_ | refine zK ?_ | refine zL ?_ | refine CW.seqDc ?_ | refine CW.seqDb ?_ | refine CW.seqDl ?_ | refine CW.seqDs ?_ | refine CW.seqDk ?_ | refine zN ?_ | refine zO ?_ | refine zP ?_ | refine zQ ?_ | refine zR ?_) | refine zS ?_)
    exact ret1 rfl ⟨rfl, H.drop⟩
  have h6 : ks.length ≤ 6 := by have := of_decide_eq_false h; omega
  repeat' (first | (refine zA ?_; first | refine zB ?_ | refine zC H ?_ | refine zD H ?_ | refine zE H fun _ _ H => ?_ | refine zF H fun _ _ H => ?_ | refine zG H fun _ H => ?_ | refine zH H fun _ H => ?_) | (refine zI ?_; first | refine zJ ?_ | refine zK ?_ | refine zL ?_ | refine CW.seqDc ?_ | refine CW.seqDb ?_ | refine CW.seqDl ?_ | refine CW.seqDs ?_ | refine CW.seqDk ?_ | refine zN ?_ | refine zO ?_ | refine zP ?_ | refine zQ ?_ | refine zR ?_) | refine zS ?_)
  refine OpsW.call rfl rfl rfl (validR H more) ?_
  rintro _ w ⟨rfl, H⟩
  repeat' (first | (refine zA ?_; first | refine zB ?_ | refine zC H ?_ | refine zD H ?_ | refine zE H fun _ _ H => ?_ | refine zF H fun _ _ H => ?_ | refine zG H fun _ H => ?_ | refine zH H fun _ H => ?_) | (refine zI ?_; first | refine zJ ?_ | refine zK ?_ | refine zL ?_ | refine CW.seqDc ?_ | refine CW.seqDb ?_ | refine CW.seqDl ?_ | refine CW.seqDs ?_ | refine CW.seqDk ?_ | refine zN ?_ | refine zO ?_ | refine zP ?_ | refine zQ ?_ | refine zR ?_) | refine zS ?_)
  refine OpsW.gs rfl rfl rfl (fun h => ?_) (fun h => ?_)
  · repeat' (first | (refine zA ?_; first | refine zB ?_ | refine zC H ?_ | refine zD H ?_ | refine zE H fun _ _ H => ?_ | refine zF H fun _ _ H => ?_ | refine zG H fun _ H => ?_ | refine zH H fun _ H => ?_) | (refine zI ?_; first | refine zJ ?_ | refine zK ?_ | refine zL ?_ | refine CW.seqDc ?_ | refine CW.seqDb ?_ | refine CW.seqDl ?_ | refine CW.seqDs ?_ | refine CW.seqDk ?_ | refine zN ?_ | refine zO ?_ | refine zP ?_ | refine zQ ?_ | refine zR ?_) | refine zS ?_)
    exact ret1 rfl ⟨rfl, H.drop⟩
  repeat' (first | (refine zA ?_; first | refine zB ?_ | refine zC H ?_ | refine zD H ?_ | refine zE H fun _ _ H => ?_ | refine zF H fun _ _ H => ?_ | refine zG H fun _ H => ?_ | refine zH H fun _ H => ?_) | (refine zI ?_; first | refine zJ ?_ | refine zK ?_ | refine zL ?_ | refine CW.seqDc ?_ | refine CW.seqDb ?_ | refine CW.seqDl ?_ | refine CW.seqDs ?_ | refine CW.seqDk ?_ | refine zN ?_ | refine zO ?_ | refine zP ?_ | refine zQ ?_ | refine zR ?_) | refine zS ?_)
  refine OpsW.call rfl rfl rfl (mak_new H 3 (by decide) (by decide)) ?_
  rintro _ w ⟨bm, rfl, H⟩
  repeat' (first | (refine zA ?_; first | refine zB ?_ | refine zC H ?_ | refine zD H ?_ | refine zE H fun _ _ H => ?_ | refine zF H fun _ _ H => ?_ | refine zG H fun _ H => ?_ | refine zH H fun _ H => ?_) | (refine zI ?_; first | refine zJ ?_ | refine zK ?_ | refine zL ?_ | refine CW.seqDc ?_ | refine CW.seqDb ?_ | refine CW.seqDl ?_ | refine CW.seqDs ?_ | refine CW.seqDk ?_ | refine zN ?_ | refine zO ?_ | refine zP ?_ | refine zQ ?_ | refine zR ?_) | refine zS ?_)
  have hmk := mak_make H (by decide) hM.tail 0 (by decide) rfl (fun j hj => absurd hj (Nat.not_lt_zero j))
  rw [stS_0 ks] at hmk
  refine OpsW.call rfl rfl rfl hmk ?_
  rintro _ w ⟨rfl, H⟩
  clear hmk
  repeat' (first | (refine zA ?_; first | refine zB ?_ | refine zC H ?_ | refine zD H ?_ | refine zE H fun _ _ H => ?_ | refine zF H fun _ _ H => ?_ | refine zG H fun _ H => ?_ | refine zH H fun _ H => ?_) | (refine zI ?_; first | refine zJ ?_ | refine zK ?_ | refine zL ?_ | refine CW.seqDc ?_ | refine CW.seqDb ?_ | refine CW.seqDl ?_ | refine CW.seqDs ?_ | refine CW.seqDk ?_ | refine zN ?_ | refine zO ?_ | refine zP ?_ | refine zQ ?_ | refine zR ?_) | refine zS ?_)
  refine OpsW.mks (n := 6) H rfl rfl rfl rfl rfl (by decide) rfl rfl rfl rfl rfl fun bw w H => ?_
  replace H : Sat W w (blk bw 41 (repl 6 (cf.T.zero.getD 41 [])) :: makP bm (stS ks 0) :: blk bo 41 more.l :: [snap W]) := H
  have e0 : (fun _ => K.void) = ptS ks 0 := by funext c; with_unfolding_all exact (by unfold ptS; rw [if_neg (by omega)] : K.void = ptS ks 0 c)
  rw [pks_repl, e0] at H
  repeat' (first | (refine zA ?_; first | refine zB ?_ | refine zC H ?_ | refine zD H ?_ | refine zE H fun _ _ H => ?_ | refine zF H fun _ _ H => ?_ | refine zG H fun _ H => ?_ | refine zH H fun _ H => ?_) | (refine zI ?_; first | refine zJ ?_ | refine zK ?_ | refine zL ?_ | refine CW.seqDc ?_ | refine CW.seqDb ?_ | refine CW.seqDl ?_ | refine CW.seqDs ?_ | refine CW.seqDk ?_ | refine zN ?_ | refine zO ?_ | refine zP ?_ | refine zQ ?_ | refine zR ?_) | refine zS ?_)
  refine CW.loopF (X := Nat) (fun j => Nat.ble 14 j) (fun i => [(14, .int .i64 (i : Int))]) (fun i w => i ≤ ks.length ∧ Sat W w (blk bw 41 (pks (ptS ks i)) :: makP bm (stS ks i) :: blk bo 41 more.l :: [snap W])) (fun i => ks.length - i) 0 ⟨rfl, trivial⟩ ⟨Nat.zero_le _, H⟩ ?_
  clear H
  rintro i τ w ⟨hi, H⟩
  repeat' (first | (refine zA ?_; first | refine zB ?_ | refine zC H ?_ | refine zD H ?_ | refine zE H fun _ _ H => ?_ | refine zF H fun _ _ H => ?_ | refine zG H fun _ H => ?_ | refine zH H fun _ H => ?_) | (refine zI ?_; first | refine zJ ?_ | refine zK ?_ | refine zL ?_ | refine CW.seqDc ?_ | refine CW.seqDb ?_ | refine CW.seqDl ?_ | refine CW.seqDs ?_ | refine CW.seqDk ?_ | refine zN ?_ | refine zO ?_ | refine zP ?_ | refine zQ ?_ | refine zR ?_) | refine zS ?_)
  refine CW.cond rfl (fun h => ?_) (fun h => ?_)
  · have hi' : i < ks.length := by simpa using h
    have hvs := fl_take K.l 5 K.l_len ks [] i hi'
    rw [List.append_nil] at hvs
    repeat' (first | (refine zA ?_; first | refine zB ?_ | refine zC H ?_ | refine zD H ?_ | refine zE H fun _ _ H => ?_ | refine zF H fun _ _ H => ?_ | refine zG H fun _ H => ?_ | refine zH H fun _ H => ?_) | (refine zI ?_; first | refine zJ ?_ | refine zK ?_ | refine zL ?_ | refine CW.seqDc ?_ | refine CW.seqDb ?_ | refine CW.seqDl ?_ | refine CW.seqDs ?_ | refine CW.seqDk ?_ | refine zN ?_ | refine zO ?_ | refine zP ?_ | refine zQ ?_ | refine zR ?_) | refine zS ?_)
    refine OpsW.ixldA H hv.tail.tail.tail rfl (fun _ => rfl) rfl rfl rfl rfl rfl rfl rfl rfl hi' hvs rfl rfl fun pp => ?_
    refine OpsW.call rfl rfl rfl (validR H ks[i]) ?_
    rintro _ w ⟨rfl, H⟩
    repeat' (first | (refine zA ?_; first | refine zB ?_ | refine zC H ?_ | refine zD H ?_ | refine zE H fun _ _ H => ?_ | refine zF H fun _ _ H => ?_ | refine zG H fun _ H => ?_ | refine zH H fun _ H => ?_) | (refine zI ?_; first | refine zJ ?_ | refine zK ?_ | refine zL ?_ | refine CW.seqDc ?_ | refine CW.seqDb ?_ | refine CW.seqDl ?_ | refine CW.seqDs ?_ | refine CW.seqDk ?_ | refine zN ?_ | refine zO ?_ | refine zP ?_ | refine zQ ?_ | refine zR ?_) | refine zS ?_)
    refine CW.cond rfl (fun h => ?_) (fun h => ?_)
    · repeat' (first | (refine zA ?_; first | refine zB ?_ | refine zC H ?_ | refine zD H ?_ | refine zE H fun _ _ H => ?_ | refine zF H fun _ _ H => ?_ | refine zG H fun _ H => ?_ | refine zH H fun _ H => ?_) | (refine zI ?_; first | refine zJ ?_ | refine zK ?_ | refine zL ?_ | refine CW.seqDc ?_ | refine CW.seqDb ?_ | refine CW.seqDl ?_ | refine CW.seqDs ?_ | refine CW.seqDk ?_ | refine zN ?_ | refine zO ?_ | refine zP ?_ | refine zQ ?_ | refine zR ?_) | refine zS ?_)
      exact ret1 rfl ⟨rfl, H.d3⟩
    have hec : ks[i].ec = 0 := by
      have h1 : rc ks[i].ec = 0 := by simpa using h
      exact rc_inj (b := 0) h1
    repeat' (first | (refine zA ?_; first | refine zB ?_ | refine zC H ?_ | refine zD H ?_ | refine zE H fun _ _ H => ?_ | refine zF H fun _ _ H => ?_ | refine zG H fun _ H => ?_ | refine zH H fun _ H => ?_) | (refine zI ?_; first | refine zJ ?_ | refine zK ?_ | refine zL ?_ | refine CW.seqDc ?_ | refine CW.seqDb ?_ | refine CW.seqDl ?_ | refine CW.seqDs ?_ | refine CW.seqDk ?_ | refine zN ?_ | refine zO ?_ | refine zP ?_ | refine zQ ?_ | refine zR ?_) | refine zS ?_)
    refine OpsW.ixldA H hv.tail.tail.tail rfl (fun _ => rfl) rfl rfl rfl rfl rfl rfl rfl rfl hi' hvs rfl rfl fun pp => ?_
    have hin := mak_install (H.perm p1) (by rw [stS_N]; decide) hM.tail.tail 0 i ks[i]
    rw [stS_instE ks i (by omega) _ hec, stS_inst ks i (by omega) hi' hec, eA_0] at hin
    refine OpsW.call rfl rfl rfl hin ?_
    rintro _ w ⟨rfl, H⟩
    clear hin
    repeat' (first | (refine zA ?_; first | refine zB ?_ | refine zC H ?_ | refine zD H ?_ | refine zE H fun _ _ H => ?_ | refine zF H fun _ _ H => ?_ | refine zG H fun _ H => ?_ | refine zH H fun _ H => ?_) | (refine zI ?_; first | refine zJ ?_ | refine zK ?_ | refine zL ?_ | refine CW.seqDc ?_ | refine CW.seqDb ?_ | refine CW.seqDl ?_ | refine CW.seqDs ?_ | refine CW.seqDk ?_ | refine zN ?_ | refine zO ?_ | refine zP ?_ | refine zQ ?_ | refine zR ?_) | refine zS ?_)
    refine OpsW.ixldA H hv.tail.tail.tail rfl (fun _ => rfl) rfl rfl rfl rfl rfl rfl rfl rfl hi' hvs rfl rfl fun pp => ?_
    refine OpsW.ix (n := i) rfl rfl rfl rfl rfl rfl rfl (by omega) rfl ?_
    refine OpsW.strA (vs := ks[i].l) H p1 rfl rfl (forceL_eq _ _) rfl rfl rfl (by rw [pks_len]; show 0 + i * 5 + 5 ≤ 30; omega) fun w H => ?_
    rw [pks_put _ _ (by omega), ptS_put ks i hi'] at H
    repeat' (first | (refine zA ?_; first | refine zB ?_ | refine zC H ?_ | refine zD H ?_ | refine zE H fun _ _ H => ?_ | refine zF H fun _ _ H => ?_ | refine zG H fun _ H => ?_ | refine zH H fun _ H => ?_) | (refine zI ?_; first | refine zJ ?_ | refine zK ?_ | refine zL ?_ | refine CW.seqDc ?_ | refine CW.seqDb ?_ | refine CW.seqDl ?_ | refine CW.seqDs ?_ | refine CW.seqDk ?_ | refine zN ?_ | refine zO ?_ | refine zP ?_ | refine zQ ?_ | refine zR ?_) | refine zS ?_)
    exact ⟨i + 1, (by (repeat (first | (with_reducible exact Agree.refl _ _) | (with_reducible refine Agree.trim (by assumption) ?_) | refine Agree.upd ?_ rfl | exact Agree.mix' | refine Agree.mixL ?_ (fun j h => by simp only [Bool.or_eq_true, Bool.and_eq_true, Nat.beq_eq, Nat.ble_eq] at h ⊢; omega) rfl))), ⟨nat_succ hi' (by omega), trivial⟩, ⟨hi', H⟩, by omega⟩
  have hil : i = ks.length := by simp at h; omega
  clear h hi
  repeat' (first | (refine zA ?_; first | refine zB ?_ | refine zC H ?_ | refine zD H ?_ | refine zE H fun _ _ H => ?_ | refine zF H fun _ _ H => ?_ | refine zG H fun _ H => ?_ | refine zH H fun _ H => ?_) | (refine zI ?_; first | refine zJ ?_ | refine zK ?_ | refine zL ?_ | refine CW.seqDc ?_ | refine CW.seqDb ?_ | refine CW.seqDl ?_ | refine CW.seqDs ?_ | refine CW.seqDk ?_ | refine zN ?_ | refine zO ?_ | refine zP ?_ | refine zQ ?_ | refine zR ?_) | refine zS ?_)
  refine OpsW.call rfl rfl rfl (mak_sealed (H.perm p1) (by rw [stS_N]; decide) 0) ?_
  rintro _ w ⟨rfl, H⟩
  rw [stS_isS]
  repeat' (first | (refine zA ?_; first | refine zB ?_ | refine zC H ?_ | refine zD H ?_ | refine zE H fun _ _ H => ?_ | refine zF H fun _ _ H => ?_ | refine zG H fun _ H => ?_ | refine zH H fun _ H => ?_) | (refine zI ?_; first | refine zJ ?_ | refine zK ?_ | refine zL ?_ | refine CW.seqDc ?_ | refine CW.seqDb ?_ | refine CW.seqDl ?_ | refine CW.seqDs ?_ | refine CW.seqDk ?_ | refine zN ?_ | refine zO ?_ | refine zP ?_ | refine zQ ?_ | refine zR ?_) | refine zS ?_)
  refine OpsW.call rfl rfl rfl (mak_seal H (by rw [stS_N]; decide) hM.tail.tail 0) ?_
  rintro _ w ⟨rfl, H⟩
  rw [stS_sealE, stS_sealS, eA_0] at *
  repeat' (first | (refine zA ?_; first | refine zB ?_ | refine zC H ?_ | refine zD H ?_ | refine zE H fun _ _ H => ?_ | refine zF H fun _ _ H => ?_ | refine zG H fun _ H => ?_ | refine zH H fun _ H => ?_) | (refine zI ?_; first | refine zJ ?_ | refine zK ?_ | refine zL ?_ | refine CW.seqDc ?_ | refine CW.seqDb ?_ | refine CW.seqDl ?_ | refine CW.seqDs ?_ | refine CW.seqDk ?_ | refine zN ?_ | refine zO ?_ | refine zP ?_ | refine zQ ?_ | refine zR ?_) | refine zS ?_)
  refine OpsW.call rfl rfl rfl (mak_seal H (by rw [stE_N]; decide) hM.tail.tail 0) ?_
  rintro _ w ⟨rfl, H⟩
  rw [stE_sealS] at H
  rw [stE_sealE]
  repeat' (first | (refine zA ?_; first | refine zB ?_ | refine zC H ?_ | refine zD H ?_ | refine zE H fun _ _ H => ?_ | refine zF H fun _ _ H => ?_ | refine zG H fun _ H => ?_ | refine zH H fun _ H => ?_ | refine OpsW.mvF rfl rfl rfl ?_ | refine OpsW.asF rfl rfl rfl ?_ | refine OpsW.exF rfl rfl rfl rfl ?_ | refine OpsW.enE rfl rfl rfl rfl ?_ | refine OpsW.enN rfl rfl rfl rfl ?_) | (refine zI ?_; first | refine zJ ?_ | refine zK ?_ | refine zL ?_ | refine zM ?_ | refine zN ?_ | refine zO ?_ | refine zP ?_ | refine zQ ?_ | refine zR ?_) | refine zS ?_)
  refine OpsW.call rfl (forceL_eq _ _) rfl (see_isA H hE.tail.tail.tail 9 (by decide) 109) ?_
  rintro _ w ⟨rfl, H⟩
  rw [show (rc 9 == 109) = true by decide]
  repeat' (first | (refine zA ?_; first | refine zB ?_ | refine zC H ?_ | refine zD H ?_ | refine zE H fun _ _ H => ?_ | refine zF H fun _ _ H => ?_ | refine zG H fun _ H => ?_ | refine zH H fun _ H => ?_) | (refine zI ?_; first | refine zJ ?_ | refine zK ?_ | refine zL ?_ | refine CW.seqDc ?_ | refine CW.seqDb ?_ | refine CW.seqDl ?_ | refine CW.seqDs ?_ | refine CW.seqDk ?_ | refine zN ?_ | refine zO ?_ | refine zP ?_ | refine zQ ?_ | refine zR ?_) | refine zS ?_)
  (first | refine CW.seqDraw mo H [0, 0, 0, 4, 0, 31, 63] fun w H => ?_ | refine CW.draw mo H [0, 0, 0, 4, 0, 31, 63] fun w H => ?_); refine AnyW.seg (m := 5) (by kernel_rfl) (by kernel_rfl) H rfl ?_
  repeat' (first | (refine DrawP.nil ?_; intro w H) | (refine DrawP.go ?_; first | refine DrawP.cons rfl (fun τ w H => OpsW.st rfl (OpsW.nil ⟨rfl, H⟩)) ?_ | refine DrawP.cons rfl (fun τ w H => OpsW.ld H (by (first | exact p0 | exact p1 | exact p2 | exact p3 | exact p4 | exact p5 | exact p6 | exact p7)) rfl rfl rfl rfl (by rfl) rfl (OpsW.nil ⟨rfl, H⟩)) ?_ | refine DrawP.cons rfl (fun τ w H => OpsW.ldA H (by (first | exact p0 | exact p1 | exact p2 | exact p3 | exact p4 | exact p5 | exact p6 | exact p7)) rfl rfl rfl (by rfl) rfl (OpsW.nil ⟨rfl, H⟩)) ?_ | (refine DrawP.goCall ?_; first | refine DrawP.cons rfl (fun τ w H => OpsW.call rfl rfl rfl (number_ _ _ _ H at_ 6 (by decide) (by decide)) fun _ w h => by obtain ⟨rfl, H⟩ := h; exact OpsW.nil ⟨rfl, H⟩) ?_)) | refine DrawP.split (fun h => ?_) (fun h => ?_))
  refine AnyW.one (by kernel_rfl) (by kernel_rfl) rfl ?_
  have hin := mak_install H (by rw [stE_N]; decide) hM.tail.tail 0 (at_ % 6) more
  rw [stE_instE, stE_inst] at hin
  refine OpsW.call rfl rfl rfl hin ?_
  rintro _ w ⟨rfl, H⟩
  clear hin
  refine OpsW.nil ?_
  refine AnyW.one (by kernel_rfl) (by kernel_rfl) rfl ?_
  refine OpsW.asF rfl rfl rfl ?_
  refine OpsW.nil ?_
  refine AnyW.done ?_
  repeat' (first | (refine zA ?_; first | refine zB ?_ | refine zC H ?_ | refine zD H ?_ | refine zE H fun _ _ H => ?_ | refine zF H fun _ _ H => ?_ | refine zG H fun _ H => ?_ | refine zH H fun _ H => ?_) | (refine zI ?_; first | refine zJ ?_ | refine zK ?_ | refine zL ?_ | refine CW.seqDc ?_ | refine CW.seqDb ?_ | refine CW.seqDl ?_ | refine CW.seqDs ?_ | refine CW.seqDk ?_ | refine zN ?_ | refine zO ?_ | refine zP ?_ | refine zQ ?_ | refine zR ?_) | refine zS ?_)
  refine OpsW.call rfl rfl rfl (mak_parts H (by rw [stE_N]; decide) 0) ?_
  rintro _ w ⟨pa, pc, rfl, H⟩
  rw [stE_parts] at H ⊢
  rw [mk_length]
  have H2 := kvec_open H
  rw [mk_length] at H2
  rcases H2.vcases with ⟨bp, rest, ⟨rfl, hc, hr, hcap⟩, H3⟩ | ⟨⟨rfl, h0, -, -⟩, -⟩
  case inr => exact absurd h0 (by decide)
  clear H H2
  have H := H3
  clear H3
  rw [← pks_flat] at H
  have hsp : ∀ {A : HP}, SlR (blk bp 41 (pks (ptS ks i) ++ rest) :: A :: blk bw 41 (pks (ptS ks i)) :: blk bo 41 more.l :: [snap W]) (.slice (some ⟨bp, 0, none⟩) 6 pc) 5 (mk 6 (ptS ks i)).length ((mk 6 (ptS ks i)).flatMap K.l) := fun {A} => by
    rw [mk_length, ← pks_flat]; exact SlR.of_blk (pks_len _) (by omega)
  have hsw : ∀ {A B : HP}, SlR (A :: B :: blk bw 41 (pks (ptS ks i)) :: blk bo 41 more.l :: [snap W]) (.slice (some ⟨bw, 0, none⟩) 6 6) 5 (mk 6 (ptS ks i)).length ((mk 6 (ptS ks i)).flatMap K.l) := fun {A B} => by
    rw [mk_length, ← pks_flat]; exact (slr_pks _).tail.tail
  repeat' (first | (refine zA ?_; first | refine zB ?_ | refine zC H ?_ | refine zD H ?_ | refine zE H fun _ _ H => ?_ | refine zF H fun _ _ H => ?_ | refine zG H fun _ H => ?_ | refine zH H fun _ H => ?_ | refine OpsW.mvF rfl rfl rfl ?_ | refine OpsW.asF rfl rfl rfl ?_ | refine OpsW.exF rfl rfl rfl rfl ?_ | refine OpsW.enE rfl rfl rfl rfl ?_ | refine OpsW.enN rfl rfl rfl rfl ?_) | (refine zI ?_; first | refine zJ ?_ | refine zK ?_ | refine zL ?_ | refine zM ?_ | refine zN ?_ | refine zO ?_ | refine zP ?_ | refine zQ ?_ | refine zR ?_) | refine zS ?_)
  refine OpsW.call rfl (forceL_eq _ _) rfl (see_isA H hE.tail.tail.tail.tail 9 (by decide) 109) ?_
  rintro _ w ⟨rfl, H⟩
  rw [show (rc 9 == 109) = true by decide]
  repeat' (first | (refine zA ?_; first | refine zB ?_ | refine zC H ?_ | refine zD H ?_ | refine zE H fun _ _ H => ?_ | refine zF H fun _ _ H => ?_ | refine zG H fun _ H => ?_ | refine zH H fun _ H => ?_) | (refine zI ?_; first | refine zJ ?_ | refine zK ?_ | refine zL ?_ | refine CW.seqDc ?_ | refine CW.seqDb ?_ | refine CW.seqDl ?_ | refine CW.seqDs ?_ | refine CW.seqDk ?_ | refine zN ?_ | refine zO ?_ | refine zP ?_ | refine zQ ?_ | refine zR ?_) | refine zS ?_)
  refine OpsW.call rfl rfl rfl (sameKeysR_ H (mk 6 (ptS ks i)) (by rw [mk_length]; decide) hsp hsw) ?_
  rintro _ w ⟨rfl, H⟩
  repeat' (first | (refine zA ?_; first | refine zB ?_ | refine zC H ?_ | refine zD H ?_ | refine zE H fun _ _ H => ?_ | refine zF H fun _ _ H => ?_ | refine zG H fun _ H => ?_ | refine zH H fun _ H => ?_) | (refine zI ?_; first | refine zJ ?_ | refine zK ?_ | refine zL ?_ | refine CW.seqDc ?_ | refine CW.seqDb ?_ | refine CW.seqDl ?_ | refine CW.seqDs ?_ | refine CW.seqDk ?_ | refine zN ?_ | refine zO ?_ | refine zP ?_ | refine zQ ?_ | refine zR ?_) | refine zS ?_)
  refine OpsW.ix (n := 0) rfl rfl rfl rfl rfl rfl rfl (by decide) rfl ?_
  refine OpsW.strA (vs := K.l ⟨14, 0, 0, 0, 0⟩) H p0 rfl rfl rfl rfl rfl rfl (by rw [List.length_append, pks_len]; show 0 + 0 * 5 + 5 ≤ 30 + _; omega) fun w H => ?_
  replace H := H.drop
  repeat' (first | (refine zA ?_; first | refine zB ?_ | refine zC H ?_ | refine zD H ?_ | refine zE H fun _ _ H => ?_ | refine zF H fun _ _ H => ?_ | refine zG H fun _ H => ?_ | refine zH H fun _ H => ?_) | (refine zI ?_; first | refine zJ ?_ | refine zK ?_ | refine zL ?_ | refine CW.seqDc ?_ | refine CW.seqDb ?_ | refine CW.seqDl ?_ | refine CW.seqDs ?_ | refine CW.seqDk ?_ | refine zN ?_ | refine zO ?_ | refine zP ?_ | refine zQ ?_ | refine zR ?_) | refine zS ?_)
  refine OpsW.call rfl rfl rfl (mak_parts H (by rw [stE_N]; decide) 0) ?_
  rintro _ w ⟨pb, pd, rfl, H⟩
  rw [stE_parts] at H ⊢
  rw [mk_length]
  obtain ⟨T2, -, s2, H⟩ := Sat.vopen (kvec_open H)
  repeat' (first | (refine zA ?_; first | refine zB ?_ | refine zC H ?_ | refine zD H ?_ | refine zE H fun _ _ H => ?_ | refine zF H fun _ _ H => ?_ | refine zG H fun _ H => ?_ | refine zH H fun _ H => ?_) | (refine zI ?_; first | refine zJ ?_ | refine zK ?_ | refine zL ?_ | refine CW.seqDc ?_ | refine CW.seqDb ?_ | refine CW.seqDl ?_ | refine CW.seqDs ?_ | refine CW.seqDk ?_ | refine zN ?_ | refine zO ?_ | refine zP ?_ | refine zQ ?_ | refine zR ?_) | refine zS ?_)
  refine OpsW.call rfl rfl rfl (sameKeysR_ H (mk 6 (ptS ks i)) (by rw [mk_length]; decide) (by have := s2 (makP bm (stE ks i) :: blk bw 41 (pks (ptS ks i)) :: blk bo 41 more.l :: [snap W]); rw [mk_length] at this ⊢; exact this) hsw) ?_
  rintro _ w ⟨rfl, H⟩
  repeat' (first | (refine zA ?_; first | refine zB ?_ | refine zC H ?_ | refine zD H ?_ | refine zE H fun _ _ H => ?_ | refine zF H fun _ _ H => ?_ | refine zG H fun _ H => ?_ | refine zH H fun _ H => ?_) | (refine zI ?_; first | refine zJ ?_ | refine zK ?_ | refine zL ?_ | refine CW.seqDc ?_ | refine CW.seqDb ?_ | refine CW.seqDl ?_ | refine CW.seqDs ?_ | refine CW.seqDk ?_ | refine zN ?_ | refine zO ?_ | refine zP ?_ | refine zQ ?_ | refine zR ?_) | refine zS ?_)
  exact ret1 rfl ⟨rfl, H.d4⟩
end Go.Proofs.YtbmfpkpcljihgaaDoor.X
