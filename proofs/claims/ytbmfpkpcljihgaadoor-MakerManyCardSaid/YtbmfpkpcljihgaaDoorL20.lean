/- The law MakerMany of chapter 20, walked; conditions: none. -/
import Derived.Test.YtbmfpkpcljihgaaDoorA20h
import Derived.Test.YtbmfpkpcljihgaaDoorAN
import Derived.Test.YtbmfpkpcljihgaaDoorR0
import Derived.Test.YtbmfpkpcljihgaaDoorGC
namespace Go.Proofs.YtbmfpkpcljihgaaDoor.X
open Go Go.Proofs
set_option linter.unusedSimpArgs false
set_option linter.unusedVariables false
/-- The chapter's example. -/
def mA20 : Mk := (Mk.new 2).make 0
theorem mA20_seal : mA20.sealE 0 = 0 := by decide +kernel
theorem mA20_isS : (mA20.sealS 0).isS 0 = true := by decide +kernel
theorem mA20_holes : (((mA20.sealS 0).parts 0).filter (isHole (mA20.sealS 0).fcs)).length = 0 := by decide +kernel
/-- So many factories that are made, one part each. -/
def nK (w : Int) (j : Nat) : K := ⟨1, 0, 0, 0, (w + j) % 4294967296⟩
def ptM (part : Nat) (w : Int) (i j : Nat) : Nat → K := if j < i ∧ part < 6 then (fun c => if c = part then nK w j else K.void) else fun _ => K.void
def stM (N part : Nat) (w : Int) (i : Nat) : Mk := ⟨N, mF i, fun _ => false, ptM part w i⟩
def stN (N part : Nat) (w : Int) (i : Nat) : Mk := ⟨N, mF (i + 1), fun _ => false, ptM part w i⟩
theorem nK_ec (w : Int) (j : Nat) : (nK w j).ec = 0 := by
  rw [K.ec_0]
  unfold K.err nK
  simp [kmost, kdata, K.has]
  omega
section
variable {N part i : Nat} {w : Int}
theorem stM_0 : Mk.new N = stM N part w 0 := by
  unfold Mk.new stM
  have h1 : (fun _ : Nat => Pl.z) = mF 0 := by funext j; exact (mF_ge (Nat.zero_le j)).symm
  have h2 : (fun _ _ : Nat => K.void) = ptM part w 0 := by funext j; unfold ptM; rw [if_neg (by omega)]
  rw [h1, h2]
theorem stM_make : (stM N part w i).make i = stN N part w i := by
  unfold Mk.make stM stN
  dsimp only
  have h1 : (fun j => if j = i then (mF i i).take else mF i j) = mF (i + 1) := mF_up
  have h2 : (fun j : Nat => if j = i then false else false) = fun _ => false := by funext j; split <;> rfl
  have h3 : (fun j => if j = i then (fun _ => K.void) else ptM part w i j) = ptM part w i := by
    funext j
    by_cases e : j = i
    · subst e; rw [if_pos rfl]; unfold ptM; rw [if_neg (by omega)]
    · rw [if_neg e]
  rw [h1, h2, h3]
theorem stN_on (hi : i < N) : (stN N part w i).on i = true := by
  show onN N (mF (i + 1)) i = true
  rw [onN_nat hi, mF_lt (by omega)]
theorem stN_instE (hi : i < N) : (stN N part w i).instE i part (nK w i) = if part < 6 then 0 else 3 := by
  unfold Mk.instE
  rw [stN_on hi, if_neg (by decide), if_neg (by show ¬ (false = true); decide)]
  by_cases h : part < 6
  · rw [if_pos h, if_neg (by omega), nK_ec]
  · rw [if_neg h, if_pos (by omega)]
theorem stN_inst (hi : i < N) : (stN N part w i).inst i part (nK w i) = stM N part w (i + 1) := by
  unfold Mk.inst
  rw [stN_instE hi]
  by_cases h : part < 6
  · rw [if_pos h, if_pos rfl]
    unfold Mk.putP stN stM
    dsimp only
    congr 1
    funext j
    by_cases e : j = i
    · subst e
      have h1 : ((j : Int)).toNat = j := rfl
      have h2 : ((part : Int)).toNat = part := rfl
      rw [h1, h2, if_pos rfl]
      unfold ptM
      rw [if_neg (by omega), if_pos ⟨by omega, h⟩]
    · have h1 : ((i : Int)).toNat = i := rfl
      rw [h1, if_neg e]
      unfold ptM
      by_cases hj : j < i
      · rw [if_pos ⟨hj, h⟩, if_pos ⟨by omega, h⟩]
      · rw [if_neg (by omega), if_neg (by omega)]
  · rw [if_neg h, if_neg (by decide)]
    unfold stN stM
    congr 1
    funext j
    unfold ptM
    rw [if_neg (by omega), if_neg (by omega)]
theorem stM_parts (hi : i < N) (hp : part < 6) : (stM N part w N).parts i = mk 6 fun c => if c = part then nK w i else K.void := by
  have : (stM N part w N).on i = true := by show onN N (mF N) i = true; rw [onN_nat hi, mF_lt hi]
  unfold Mk.parts
  rw [if_pos this]
  show mk 6 (ptM part w N i) = _
  unfold ptM
  rw [if_pos ⟨hi, hp⟩]
theorem stM_N : (stM N part w i).N = N := rfl
theorem stN_N : (stN N part w i).N = N := rfl
theorem stM_free : ((stM N part w i).f i).free = true := by
  show (mF i i).free = true
  rw [mF_ge (Nat.le_refl i)]; rfl
theorem stM_taken {j : Nat} (hj : j < i) : ((stM N part w i).f j).free = false := by
  show (mF i j).free = false
  rw [mF_lt hj]; rfl
theorem stM_ver : ((stM N part w i).f i).ver = 0 := by
  show (mF i i).ver = 0
  rw [mF_ge (Nat.le_refl i)]
theorem stM_off : (stM N part w N).on N = false := by
  show onN N (mF N) N = false
  exact onN_out (Int.le_refl _)
theorem stM_facs : ((stM N part w N).facs N).length = N := by
  unfold Mk.facs
  rw [List.length_map]
  have : (List.range N).filter (fun j => ((stM N part w N).f j).there) = List.range N := by
    rw [List.filter_eq_self]
    intro j hj
    show (mF N j).there = true
    rw [mF_lt (List.mem_range.1 hj)]
  rw [this, List.length_range]
end
attribute [local irreducible] CW OpsW RetW Spec blk snap DrawP AnyW AnyM AnyN bits IntKind.wrap vec arena eA onc pks mks K.sensory namedF reach isHole K.weaken K.same facsM makP mA20 stM stN
section
variable {z w : World} {Rs As : List HP} {bm : Nat} {m : Mk} {ads : List Addr}
theorem first20_ (H : Sat z w As) (hE : EM As ads) : Spec cf 37 #[] w fun e w' => e = .bool true ∧ Sat z w' As := by
  refine enter (l := []) Tryd.func37 rfl rfl rfl rfl rfl ?_
  repeat' (first | (refine zA ?_; first | refine zB ?_ | refine zC H ?_ | refine zD H ?_ | refine zE H fun _ _ H => ?_ | refine zF H fun _ _ H => ?_ | refine zG H fun _ H => ?_ | refine zH H fun _ H => ?_) | (refine zI ?_; first | refine zJ ?_ | refine zK ?_ | refine zL ?_ | refine CW.seqDc ?_ | refine CW.seqDb ?_ | refine CW.seqDl ?_ | refine CW.seqDs ?_ | refine CW.seqDk ?_ | refine zN ?_ | refine zO ?_ | refine zP ?_ | refine zQ ?_ | refine zR ?_) | refine zS ?_)
  refine OpsW.call rfl rfl rfl (mak_new H 2 (by decide) (by decide)) ?_
  rintro _ w ⟨bm, rfl, H⟩
  repeat' (first | (refine zA ?_; first | refine zB ?_ | refine zC H ?_ | refine zD H ?_ | refine zE H fun _ _ H => ?_ | refine zF H fun _ _ H => ?_ | refine zG H fun _ H => ?_ | refine zH H fun _ H => ?_) | (refine zI ?_; first | refine zJ ?_ | refine zK ?_ | refine zL ?_ | refine CW.seqDc ?_ | refine CW.seqDb ?_ | refine CW.seqDl ?_ | refine CW.seqDs ?_ | refine CW.seqDk ?_ | refine zN ?_ | refine zO ?_ | refine zP ?_ | refine zQ ?_ | refine zR ?_) | refine zS ?_)
  have hmk := mak_make H (by decide) hE 0 (by decide) rfl (fun j hj => absurd hj (Nat.not_lt_zero j))
  rw [show (Mk.new 2).make 0 = mA20 by with_unfolding_all rfl] at hmk
  refine OpsW.call rfl rfl rfl hmk ?_
  rintro _ w ⟨rfl, H⟩
  repeat' (first | (refine zA ?_; first | refine zB ?_ | refine zC H ?_ | refine zD H ?_ | refine zE H fun _ _ H => ?_ | refine zF H fun _ _ H => ?_ | refine zG H fun _ H => ?_ | refine zH H fun _ H => ?_) | (refine zI ?_; first | refine zJ ?_ | refine zK ?_ | refine zL ?_ | refine CW.seqDc ?_ | refine CW.seqDb ?_ | refine CW.seqDl ?_ | refine CW.seqDs ?_ | refine CW.seqDk ?_ | refine zN ?_ | refine zO ?_ | refine zP ?_ | refine zQ ?_ | refine zR ?_) | refine zS ?_)
  have hN : mA20.N ≤ 256 := by with_unfolding_all decide
  have hN2 : (mA20.sealS 0).N ≤ 256 := by with_unfolding_all decide +kernel
  refine OpsW.call rfl rfl rfl (mak_seal H hN hE 0) ?_
  rintro _ w ⟨rfl, H⟩
  rw [mA20_seal, eA_0]
  repeat' (first | (refine zA ?_; first | refine zB ?_ | refine zC H ?_ | refine zD H ?_ | refine zE H fun _ _ H => ?_ | refine zF H fun _ _ H => ?_ | refine zG H fun _ H => ?_ | refine zH H fun _ H => ?_) | (refine zI ?_; first | refine zJ ?_ | refine zK ?_ | refine zL ?_ | refine CW.seqDc ?_ | refine CW.seqDb ?_ | refine CW.seqDl ?_ | refine CW.seqDs ?_ | refine CW.seqDk ?_ | refine zN ?_ | refine zO ?_ | refine zP ?_ | refine zQ ?_ | refine zR ?_) | refine zS ?_)
  refine OpsW.call rfl rfl rfl (mak_sealed H hN2 0) ?_
  rintro _ w ⟨rfl, H⟩
  rw [mA20_isS]
  repeat' (first | (refine zA ?_; first | refine zB ?_ | refine zC H ?_ | refine zD H ?_ | refine zE H fun _ _ H => ?_ | refine zF H fun _ _ H => ?_ | refine zG H fun _ H => ?_ | refine zH H fun _ H => ?_) | (refine zI ?_; first | refine zJ ?_ | refine zK ?_ | refine zL ?_ | refine CW.seqDc ?_ | refine CW.seqDb ?_ | refine CW.seqDl ?_ | refine CW.seqDs ?_ | refine CW.seqDk ?_ | refine zN ?_ | refine zO ?_ | refine zP ?_ | refine zQ ?_ | refine zR ?_) | refine zS ?_)
  refine OpsW.call rfl rfl rfl (mak_holes H hN2 0) ?_
  rintro _ w ⟨ha, hc, rfl, H⟩
  rw [mA20_holes]
  repeat' (first | (refine zA ?_; first | refine zB ?_ | refine zC H ?_ | refine zD H ?_ | refine zE H fun _ _ H => ?_ | refine zF H fun _ _ H => ?_ | refine zG H fun _ H => ?_ | refine zH H fun _ H => ?_) | (refine zI ?_; first | refine zJ ?_ | refine zK ?_ | refine zL ?_ | refine CW.seqDc ?_ | refine CW.seqDb ?_ | refine CW.seqDl ?_ | refine CW.seqDs ?_ | refine CW.seqDk ?_ | refine zN ?_ | refine zO ?_ | refine zP ?_ | refine zQ ?_ | refine zR ?_) | refine zS ?_)
  exact ret1 rfl ⟨rfl, H.d2⟩
end
set_option maxHeartbeats 4000000 in
theorem makerMany_ (W : World) (hEs : Errs W 187 errGs) (ni : Int) (hnw : (Lit.int .i64 ni).wf = true) (pi : Int) (hpw : (Lit.int .i64 pi).wf = true) (x : Int) (hxw : (Lit.int .u32 x).wf = true) :
    Spec cf 8 #[.int .i64 ni, .int .i64 pi, .int .u32 x] W fun v w' => v = .bool true ∧ Sat W w' [snap W] := by
  have H := Sat.start W
  obtain ⟨ads, hE⟩ := hEs
  have hM := hE.em
  refine enter (l := [.int .i64 ni, .int .i64 pi, .int .u32 x]) Tryd.func8 rfl rfl rfl rfl rfl ?_
  repeat' (first | (refine zA ?_; first | refine zB ?_ | refine zC H ?_ | refine zD H ?_ | refine zE H fun _ _ H => ?_ | refine zF H fun _ _ H => ?_ | refine zG H fun _ H => ?_ | refine zH H fun _ H => ?_) | (refine zI ?_; first | refine zJ ?_ | refine zK ?_ | refine zL ?_ | refine CW.seqDc ?_ | refine CW.seqDb ?_ | refine CW.seqDl ?_ | refine CW.seqDs ?_ | refine CW.seqDk ?_ | refine zN ?_ | refine zO ?_ | refine zP ?_ | refine zQ ?_ | refine zR ?_) | refine zS ?_)
  refine OpsW.call rfl rfl rfl (first20_ H hM) ?_
  rintro _ w ⟨rfl, H⟩
  repeat' (first | (refine zA ?_; first | refine zB ?_ | refine zC H ?_ | refine zD H ?_ | refine zE H fun _ _ H => ?_ | refine zF H fun _ _ H => ?_ | refine zG H fun _ H => ?_ | refine zH H fun _ H => ?_) | (refine zI ?_; first | refine zJ ?_ | refine zK ?_ | refine zL ?_ | refine CW.seqDc ?_ | refine CW.seqDb ?_ | refine CW.seqDl ?_ | refine CW.seqDs ?_ | refine CW.seqDk ?_ | refine zN ?_ | refine zO ?_ | refine zP ?_ | refine zQ ?_ | refine zR ?_) | refine zS ?_)
  refine OpsW.call rfl rfl rfl (number_ _ _ _ H ni 10 (by decide) (by decide)) ?_
  rintro _ w ⟨rfl, H⟩
  obtain ⟨n, hn⟩ := Int.eq_ofNat_of_zero_le (Int.emod_nonneg ni (show (10 : Int) ≠ 0 by decide))
  have hn10 : n < 10 := by have := Int.emod_lt_of_pos ni (show (0 : Int) < 10 by decide); omega
  obtain ⟨N, hN⟩ : ∃ N, N = n + 1 := ⟨_, rfl⟩
  rw [hn]
  refine OpsW.st rfl ?_
  rw [show IntKind.wrap .i64 ((n : Int) + 1) = (N : Int) by rw [wrap64_id (by omega) (by omega)]; omega]
  repeat' (first | (refine zA ?_; first | refine zB ?_ | refine zC H ?_ | refine zD H ?_ | refine zE H fun _ _ H => ?_ | refine zF H fun _ _ H => ?_ | refine zG H fun _ H => ?_ | refine zH H fun _ H => ?_) | (refine zI ?_; first | refine zJ ?_ | refine zK ?_ | refine zL ?_ | refine CW.seqDc ?_ | refine CW.seqDb ?_ | refine CW.seqDl ?_ | refine CW.seqDs ?_ | refine CW.seqDk ?_ | refine zN ?_ | refine zO ?_ | refine zP ?_ | refine zQ ?_ | refine zR ?_) | refine zS ?_)
  refine OpsW.call rfl rfl rfl (number_ _ _ _ H pi 8 (by decide) (by decide)) ?_
  rintro _ w ⟨rfl, H⟩
  obtain ⟨part, hp⟩ := Int.eq_ofNat_of_zero_le (Int.emod_nonneg pi (show (8 : Int) ≠ 0 by decide))
  rw [hp]
  repeat' (first | (refine zA ?_; first | refine zB ?_ | refine zC H ?_ | refine zD H ?_ | refine zE H fun _ _ H => ?_ | refine zF H fun _ _ H => ?_ | refine zG H fun _ H => ?_ | refine zH H fun _ H => ?_) | (refine zI ?_; first | refine zJ ?_ | refine zK ?_ | refine zL ?_ | refine CW.seqDc ?_ | refine CW.seqDb ?_ | refine CW.seqDl ?_ | refine CW.seqDs ?_ | refine CW.seqDk ?_ | refine zN ?_ | refine zO ?_ | refine zP ?_ | refine zQ ?_ | refine zR ?_) | refine zS ?_)
  refine OpsW.call rfl rfl rfl (mak_new H N (by omega) (by omega)) ?_
  rintro _ w ⟨bm, rfl, H⟩
  rw [stM_0 (part := part) (w := x)] at H
  repeat' (first | (refine zA ?_; first | refine zB ?_ | refine zC H ?_ | refine zD H ?_ | refine zE H fun _ _ H => ?_ | refine zF H fun _ _ H => ?_ | refine zG H fun _ H => ?_ | refine zH H fun _ H => ?_) | (refine zI ?_; first | refine zJ ?_ | refine zK ?_ | refine zL ?_ | refine CW.seqDc ?_ | refine CW.seqDb ?_ | refine CW.seqDl ?_ | refine CW.seqDs ?_ | refine CW.seqDk ?_ | refine zN ?_ | refine zO ?_ | refine zP ?_ | refine zQ ?_ | refine zR ?_) | refine zS ?_)
  refine CW.loopF (X := Nat) (fun j => Nat.ble 10 j) (fun i => [(10, .int .i64 (i : Int))]) (fun i w => i ≤ N ∧ Sat W w (makP bm (stM N part x i) :: [snap W])) (fun i => N - i) 0 ⟨rfl, trivial⟩ ⟨Nat.zero_le _, H⟩ ?_
  clear H
  rintro i τ w ⟨hi, H⟩
  repeat' (first | (refine zA ?_; first | refine zB ?_ | refine zC H ?_ | refine zD H ?_ | refine zE H fun _ _ H => ?_ | refine zF H fun _ _ H => ?_ | refine zG H fun _ H => ?_ | refine zH H fun _ H => ?_) | (refine zI ?_; first | refine zJ ?_ | refine zK ?_ | refine zL ?_ | refine CW.seqDc ?_ | refine CW.seqDb ?_ | refine CW.seqDl ?_ | refine CW.seqDs ?_ | refine CW.seqDk ?_ | refine zN ?_ | refine zO ?_ | refine zP ?_ | refine zQ ?_ | refine zR ?_) | refine zS ?_)
  refine CW.cond rfl (fun h => ?_) (fun h => ?_)
  · have hi' : i < N := by have := of_decide_eq_true h; omega
    repeat' (first | (refine zA ?_; first | refine zB ?_ | refine zC H ?_ | refine zD H ?_ | refine zE H fun _ _ H => ?_ | refine zF H fun _ _ H => ?_ | refine zG H fun _ H => ?_ | refine zH H fun _ H => ?_) | (refine zI ?_; first | refine zJ ?_ | refine zK ?_ | refine zL ?_ | refine CW.seqDc ?_ | refine CW.seqDb ?_ | refine CW.seqDl ?_ | refine CW.seqDs ?_ | refine CW.seqDk ?_ | refine zN ?_ | refine zO ?_ | refine zP ?_ | refine zQ ?_ | refine zR ?_) | refine zS ?_)
    have hmk := mak_make H (by rw [stM_N]; omega) hM i (by rw [stM_N]; exact hi') stM_free (fun j hj => stM_taken hj)
    rw [stM_ver, stM_make] at hmk
    refine OpsW.call rfl rfl rfl hmk ?_
    rintro _ w ⟨rfl, H⟩
    clear hmk
    repeat' (first | (refine zA ?_; first | refine zB ?_ | refine zC H ?_ | refine zD H ?_ | refine zE H fun _ _ H => ?_ | refine zF H fun _ _ H => ?_ | refine zG H fun _ H => ?_ | refine zH H fun _ H => ?_) | (refine zI ?_; first | refine zJ ?_ | refine zK ?_ | refine zL ?_ | refine CW.seqDc ?_ | refine CW.seqDb ?_ | refine CW.seqDl ?_ | refine CW.seqDs ?_ | refine CW.seqDk ?_ | refine zN ?_ | refine zO ?_ | refine zP ?_ | refine zQ ?_ | refine zR ?_) | refine zS ?_)
    rw [bne_self_eq_false]
    repeat' (first | (refine zA ?_; first | refine zB ?_ | refine zC H ?_ | refine zD H ?_ | refine zE H fun _ _ H => ?_ | refine zF H fun _ _ H => ?_ | refine zG H fun _ H => ?_ | refine zH H fun _ H => ?_) | (refine zI ?_; first | refine zJ ?_ | refine zK ?_ | refine zL ?_ | refine CW.seqDc ?_ | refine CW.seqDb ?_ | refine CW.seqDl ?_ | refine CW.seqDs ?_ | refine CW.seqDk ?_ | refine zN ?_ | refine zO ?_ | refine zP ?_ | refine zQ ?_ | refine zR ?_) | refine zS ?_)
    rw [wrapu32, wrapu32, show (x + (i : Int) % 4294967296) % 4294967296 = (x + (i : Int)) % 4294967296 by omega]
    have hin := mak_install H (by rw [stN_N]; omega) hM i part (nK x i)
    rw [stN_instE hi', stN_inst hi'] at hin
    refine OpsW.call rfl rfl rfl hin ?_
    rintro _ w ⟨rfl, H⟩
    clear hin
    by_cases hp6 : part < 6
    · rw [if_pos hp6, eA_0]
      repeat' (first | (refine zA ?_; first | refine zB ?_ | refine zC H ?_ | refine zD H ?_ | refine zE H fun _ _ H => ?_ | refine zF H fun _ _ H => ?_ | refine zG H fun _ H => ?_ | refine zH H fun _ H => ?_) | (refine zI ?_; first | refine zJ ?_ | refine zK ?_ | refine zL ?_ | refine CW.seqDc ?_ | refine CW.seqDb ?_ | refine CW.seqDl ?_ | refine CW.seqDs ?_ | refine CW.seqDk ?_ | refine zN ?_ | refine zO ?_ | refine zP ?_ | refine zQ ?_ | refine zR ?_) | refine zS ?_)
      rw [decide_eq_true (show (part : Int) < 6 by omega)]
      repeat' (first | (refine zA ?_; first | refine zB ?_ | refine zC H ?_ | refine zD H ?_ | refine zE H fun _ _ H => ?_ | refine zF H fun _ _ H => ?_ | refine zG H fun _ H => ?_ | refine zH H fun _ H => ?_) | (refine zI ?_; first | refine zJ ?_ | refine zK ?_ | refine zL ?_ | refine CW.seqDc ?_ | refine CW.seqDb ?_ | refine CW.seqDl ?_ | refine CW.seqDs ?_ | refine CW.seqDk ?_ | refine zN ?_ | refine zO ?_ | refine zP ?_ | refine zQ ?_ | refine zR ?_) | refine zS ?_)
      exact ⟨i + 1, (by (repeat (first | (with_reducible exact Agree.refl _ _) | (with_reducible refine Agree.trim (by assumption) ?_) | refine Agree.upd ?_ rfl | exact Agree.mix' | refine Agree.mixL ?_ (fun j h => by simp only [Bool.or_eq_true, Bool.and_eq_true, Nat.beq_eq, Nat.ble_eq] at h ⊢; omega) rfl))), ⟨nat_succ hi' (by omega), trivial⟩, ⟨hi', H⟩, by omega⟩
    · rw [if_neg hp6]
      repeat' (first | (refine zA ?_; first | refine zB ?_ | refine zC H ?_ | refine zD H ?_ | refine zE H fun _ _ H => ?_ | refine zF H fun _ _ H => ?_ | refine zG H fun _ H => ?_ | refine zH H fun _ H => ?_ | refine OpsW.mvF rfl rfl rfl ?_ | refine OpsW.asF rfl rfl rfl ?_ | refine OpsW.exF rfl rfl rfl rfl ?_ | refine OpsW.enE rfl rfl rfl rfl ?_ | refine OpsW.enN rfl rfl rfl rfl ?_) | (refine zI ?_; first | refine zJ ?_ | refine zK ?_ | refine zL ?_ | refine zM ?_ | refine zN ?_ | refine zO ?_ | refine zP ?_ | refine zQ ?_ | refine zR ?_) | refine zS ?_)
      rw [decide_eq_false (show ¬ (part : Int) < 6 by omega)]
      repeat' (first | (refine zA ?_; first | refine zB ?_ | refine zC H ?_ | refine zD H ?_ | refine zE H fun _ _ H => ?_ | refine zF H fun _ _ H => ?_ | refine zG H fun _ H => ?_ | refine zH H fun _ H => ?_ | refine OpsW.mvF rfl rfl rfl ?_ | refine OpsW.asF rfl rfl rfl ?_ | refine OpsW.exF rfl rfl rfl rfl ?_ | refine OpsW.enE rfl rfl rfl rfl ?_ | refine OpsW.enN rfl rfl rfl rfl ?_) | (refine zI ?_; first | refine zJ ?_ | refine zK ?_ | refine zL ?_ | refine zM ?_ | refine zN ?_ | refine zO ?_ | refine zP ?_ | refine zQ ?_ | refine zR ?_) | refine zS ?_)
      refine OpsW.call rfl (forceL_eq _ _) rfl (see_isA H hE.tail 3 (by decide) 103) ?_
      rintro _ w ⟨rfl, H⟩
      rw [show (rc 3 == 103) = true by decide]
      repeat' (first | (refine zA ?_; first | refine zB ?_ | refine zC H ?_ | refine zD H ?_ | refine zE H fun _ _ H => ?_ | refine zF H fun _ _ H => ?_ | refine zG H fun _ H => ?_ | refine zH H fun _ H => ?_) | (refine zI ?_; first | refine zJ ?_ | refine zK ?_ | refine zL ?_ | refine CW.seqDc ?_ | refine CW.seqDb ?_ | refine CW.seqDl ?_ | refine CW.seqDs ?_ | refine CW.seqDk ?_ | refine zN ?_ | refine zO ?_ | refine zP ?_ | refine zQ ?_ | refine zR ?_) | refine zS ?_)
      exact ⟨i + 1, (by (repeat (first | (with_reducible exact Agree.refl _ _) | (with_reducible refine Agree.trim (by assumption) ?_) | refine Agree.upd ?_ rfl | exact Agree.mix' | refine Agree.mixL ?_ (fun j h => by simp only [Bool.or_eq_true, Bool.and_eq_true, Nat.beq_eq, Nat.ble_eq] at h ⊢; omega) rfl))), ⟨nat_succ hi' (by omega), trivial⟩, ⟨hi', H⟩, by omega⟩
  have hiN : i = N := by have := of_decide_eq_false h; omega
  rw [hiN] at H
  clear hiN hi h
  repeat' (first | (refine zA ?_; first | refine zB ?_ | refine zC H ?_ | refine zD H ?_ | refine zE H fun _ _ H => ?_ | refine zF H fun _ _ H => ?_ | refine zG H fun _ H => ?_ | refine zH H fun _ H => ?_) | (refine zI ?_; first | refine zJ ?_ | refine zK ?_ | refine zL ?_ | refine CW.seqDc ?_ | refine CW.seqDb ?_ | refine CW.seqDl ?_ | refine CW.seqDs ?_ | refine CW.seqDk ?_ | refine zN ?_ | refine zO ?_ | refine zP ?_ | refine zQ ?_ | refine zR ?_) | refine zS ?_)
  refine OpsW.call rfl rfl rfl (mak_full H (by rw [stM_N]; omega) hM (fun j hj => stM_taken (by rw [stM_N] at hj; exact hj))) ?_
  rintro _ w ⟨rfl, H⟩
  repeat' (first | (refine zA ?_; first | refine zB ?_ | refine zC H ?_ | refine zD H ?_ | refine zE H fun _ _ H => ?_ | refine zF H fun _ _ H => ?_ | refine zG H fun _ H => ?_ | refine zH H fun _ H => ?_ | refine OpsW.mvF rfl rfl rfl ?_ | refine OpsW.asF rfl rfl rfl ?_ | refine OpsW.exF rfl rfl rfl rfl ?_ | refine OpsW.enE rfl rfl rfl rfl ?_ | refine OpsW.enN rfl rfl rfl rfl ?_) | (refine zI ?_; first | refine zJ ?_ | refine zK ?_ | refine zL ?_ | refine zM ?_ | refine zN ?_ | refine zO ?_ | refine zP ?_ | refine zQ ?_ | refine zR ?_) | refine zS ?_)
  refine OpsW.call rfl (forceL_eq _ _) rfl (see_isA H hE.tail 6 (by decide) 106) ?_
  rintro _ w ⟨rfl, H⟩
  rw [show (rc 6 == 106) = true by decide]
  repeat' (first | (refine zA ?_; first | refine zB ?_ | refine zC H ?_ | refine zD H ?_ | refine zE H fun _ _ H => ?_ | refine zF H fun _ _ H => ?_ | refine zG H fun _ H => ?_ | refine zH H fun _ H => ?_) | (refine zI ?_; first | refine zJ ?_ | refine zK ?_ | refine zL ?_ | refine CW.seqDc ?_ | refine CW.seqDb ?_ | refine CW.seqDl ?_ | refine CW.seqDs ?_ | refine CW.seqDk ?_ | refine zN ?_ | refine zO ?_ | refine zP ?_ | refine zQ ?_ | refine zR ?_) | refine zS ?_)
  refine OpsW.call rfl rfl rfl (mak_all H (by rw [stM_N]; omega)) ?_
  rintro _ w ⟨oa, oc, out, rfl, ho, H⟩
  have hol : out.length = N := by
    have h1 := congrArg List.length ho
    rw [List.length_map, stM_N, stM_facs] at h1
    exact h1
  rw [hol]
  replace H := H.d2
  repeat' (first | (refine zA ?_; first | refine zB ?_ | refine zC H ?_ | refine zD H ?_ | refine zE H fun _ _ H => ?_ | refine zF H fun _ _ H => ?_ | refine zG H fun _ H => ?_ | refine zH H fun _ H => ?_) | (refine zI ?_; first | refine zJ ?_ | refine zK ?_ | refine zL ?_ | refine CW.seqDc ?_ | refine CW.seqDb ?_ | refine CW.seqDl ?_ | refine CW.seqDs ?_ | refine CW.seqDk ?_ | refine zN ?_ | refine zO ?_ | refine zP ?_ | refine zQ ?_ | refine zR ?_) | refine zS ?_)
  rw [bne_self_eq_false]
  repeat' (first | (refine zA ?_; first | refine zB ?_ | refine zC H ?_ | refine zD H ?_ | refine zE H fun _ _ H => ?_ | refine zF H fun _ _ H => ?_ | refine zG H fun _ H => ?_ | refine zH H fun _ H => ?_) | (refine zI ?_; first | refine zJ ?_ | refine zK ?_ | refine zL ?_ | refine CW.seqDc ?_ | refine CW.seqDb ?_ | refine CW.seqDl ?_ | refine CW.seqDs ?_ | refine CW.seqDk ?_ | refine zN ?_ | refine zO ?_ | refine zP ?_ | refine zQ ?_ | refine zR ?_) | refine zS ?_)
  refine CW.loopF (X := Nat) (fun j => Nat.ble 18 j) (fun i => [(18, .int .i64 (i : Int))]) (fun i w => i ≤ N ∧ Sat W w (makP bm (stM N part x N) :: [snap W])) (fun i => N - i) 0 ⟨rfl, trivial⟩ ⟨Nat.zero_le _, H⟩ ?_
  clear H hol ho
  rintro i τ w ⟨hi, H⟩
  repeat' (first | (refine zA ?_; first | refine zB ?_ | refine zC H ?_ | refine zD H ?_ | refine zE H fun _ _ H => ?_ | refine zF H fun _ _ H => ?_ | refine zG H fun _ H => ?_ | refine zH H fun _ H => ?_) | (refine zI ?_; first | refine zJ ?_ | refine zK ?_ | refine zL ?_ | refine CW.seqDc ?_ | refine CW.seqDb ?_ | refine CW.seqDl ?_ | refine CW.seqDs ?_ | refine CW.seqDk ?_ | refine zN ?_ | refine zO ?_ | refine zP ?_ | refine zQ ?_ | refine zR ?_) | refine zS ?_)
  by_cases hi' : i < N
  case neg =>
      rw [decide_eq_false (show ¬ (i : Int) < N by omega)]
      repeat' (first | (refine zA ?_; first | refine zB ?_ | refine zC H ?_ | refine zD H ?_ | refine zE H fun _ _ H => ?_ | refine zF H fun _ _ H => ?_ | refine zG H fun _ H => ?_ | refine zH H fun _ H => ?_) | (refine zI ?_; first | refine zJ ?_ | refine zK ?_ | refine zL ?_ | refine CW.seqDc ?_ | refine CW.seqDb ?_ | refine CW.seqDl ?_ | refine CW.seqDs ?_ | refine CW.seqDk ?_ | refine zN ?_ | refine zO ?_ | refine zP ?_ | refine zQ ?_ | refine zR ?_) | refine zS ?_)
      refine OpsW.call rfl rfl rfl (mak_parts H (by rw [stM_N]; omega) N) ?_
      rintro _ w ⟨pa, pc, rfl, H⟩
      rw [show (stM N part x N).parts N = [] from if_neg (by rw [stM_off]; decide)] at H ⊢
      repeat' (first | (refine zA ?_; first | refine zB ?_ | refine zC H ?_ | refine zD H ?_ | refine zE H fun _ _ H => ?_ | refine zF H fun _ _ H => ?_ | refine zG H fun _ H => ?_ | refine zH H fun _ H => ?_) | (refine zI ?_; first | refine zJ ?_ | refine zK ?_ | refine zL ?_ | refine CW.seqDc ?_ | refine CW.seqDb ?_ | refine CW.seqDl ?_ | refine CW.seqDs ?_ | refine CW.seqDk ?_ | refine zN ?_ | refine zO ?_ | refine zP ?_ | refine zQ ?_ | refine zR ?_) | refine zS ?_)
      refine OpsW.call rfl rfl rfl (mak_seal (H.drop) (by rw [stM_N]; omega) hM N) ?_
      rintro _ w ⟨rfl, H⟩
      rw [show (stM N part x N).sealE N = 5 from if_pos stM_off]
      repeat' (first | (refine zA ?_; first | refine zB ?_ | refine zC H ?_ | refine zD H ?_ | refine zE H fun _ _ H => ?_ | refine zF H fun _ _ H => ?_ | refine zG H fun _ H => ?_ | refine zH H fun _ H => ?_ | refine OpsW.mvF rfl rfl rfl ?_ | refine OpsW.asF rfl rfl rfl ?_ | refine OpsW.exF rfl rfl rfl rfl ?_ | refine OpsW.enE rfl rfl rfl rfl ?_ | refine OpsW.enN rfl rfl rfl rfl ?_) | (refine zI ?_; first | refine zJ ?_ | refine zK ?_ | refine zL ?_ | refine zM ?_ | refine zN ?_ | refine zO ?_ | refine zP ?_ | refine zQ ?_ | refine zR ?_) | refine zS ?_)
      refine OpsW.call rfl (forceL_eq _ _) rfl (see_isA H hE.tail 5 (by decide) 105) ?_
      rintro _ w ⟨rfl, H⟩
      rw [show (rc 5 == 105) = true by decide]
      repeat' (first | (refine zA ?_; first | refine zB ?_ | refine zC H ?_ | refine zD H ?_ | refine zE H fun _ _ H => ?_ | refine zF H fun _ _ H => ?_ | refine zG H fun _ H => ?_ | refine zH H fun _ H => ?_) | (refine zI ?_; first | refine zJ ?_ | refine zK ?_ | refine zL ?_ | refine CW.seqDc ?_ | refine CW.seqDb ?_ | refine CW.seqDl ?_ | refine CW.seqDs ?_ | refine CW.seqDk ?_ | refine zN ?_ | refine zO ?_ | refine zP ?_ | refine zQ ?_ | refine zR ?_) | refine zS ?_)
      exact ret1 rfl ⟨rfl, H.drop⟩
  rw [decide_eq_true (show (i : Int) < N by omega)]
  repeat' (first | (refine zA ?_; first | refine zB ?_ | refine zC H ?_ | refine zD H ?_ | refine zE H fun _ _ H => ?_ | refine zF H fun _ _ H => ?_ | refine zG H fun _ H => ?_ | refine zH H fun _ H => ?_) | (refine zI ?_; first | refine zJ ?_ | refine zK ?_ | refine zL ?_ | refine CW.seqDc ?_ | refine CW.seqDb ?_ | refine CW.seqDl ?_ | refine CW.seqDs ?_ | refine CW.seqDk ?_ | refine zN ?_ | refine zO ?_ | refine zP ?_ | refine zQ ?_ | refine zR ?_) | refine zS ?_)
  by_cases hp6 : part < 6
  case neg =>
      rw [decide_eq_false (show ¬ (part : Int) < 6 by omega)]
      repeat' (first | (refine zA ?_; first | refine zB ?_ | refine zC H ?_ | refine zD H ?_ | refine zE H fun _ _ H => ?_ | refine zF H fun _ _ H => ?_ | refine zG H fun _ H => ?_ | refine zH H fun _ H => ?_) | (refine zI ?_; first | refine zJ ?_ | refine zK ?_ | refine zL ?_ | refine CW.seqDc ?_ | refine CW.seqDb ?_ | refine CW.seqDl ?_ | refine CW.seqDs ?_ | refine CW.seqDk ?_ | refine zN ?_ | refine zO ?_ | refine zP ?_ | refine zQ ?_ | refine zR ?_) | refine zS ?_)
      refine OpsW.call rfl rfl rfl (mak_parts H (by rw [stM_N]; omega) N) ?_
      rintro _ w ⟨pa, pc, rfl, H⟩
      rw [show (stM N part x N).parts N = [] from if_neg (by rw [stM_off]; decide)] at H ⊢
      repeat' (first | (refine zA ?_; first | refine zB ?_ | refine zC H ?_ | refine zD H ?_ | refine zE H fun _ _ H => ?_ | refine zF H fun _ _ H => ?_ | refine zG H fun _ H => ?_ | refine zH H fun _ H => ?_) | (refine zI ?_; first | refine zJ ?_ | refine zK ?_ | refine zL ?_ | refine CW.seqDc ?_ | refine CW.seqDb ?_ | refine CW.seqDl ?_ | refine CW.seqDs ?_ | refine CW.seqDk ?_ | refine zN ?_ | refine zO ?_ | refine zP ?_ | refine zQ ?_ | refine zR ?_) | refine zS ?_)
      refine OpsW.call rfl rfl rfl (mak_seal (H.drop) (by rw [stM_N]; omega) hM N) ?_
      rintro _ w ⟨rfl, H⟩
      rw [show (stM N part x N).sealE N = 5 from if_pos stM_off]
      repeat' (first | (refine zA ?_; first | refine zB ?_ | refine zC H ?_ | refine zD H ?_ | refine zE H fun _ _ H => ?_ | refine zF H fun _ _ H => ?_ | refine zG H fun _ H => ?_ | refine zH H fun _ H => ?_ | refine OpsW.mvF rfl rfl rfl ?_ | refine OpsW.asF rfl rfl rfl ?_ | refine OpsW.exF rfl rfl rfl rfl ?_ | refine OpsW.enE rfl rfl rfl rfl ?_ | refine OpsW.enN rfl rfl rfl rfl ?_) | (refine zI ?_; first | refine zJ ?_ | refine zK ?_ | refine zL ?_ | refine zM ?_ | refine zN ?_ | refine zO ?_ | refine zP ?_ | refine zQ ?_ | refine zR ?_) | refine zS ?_)
      refine OpsW.call rfl (forceL_eq _ _) rfl (see_isA H hE.tail 5 (by decide) 105) ?_
      rintro _ w ⟨rfl, H⟩
      rw [show (rc 5 == 105) = true by decide]
      repeat' (first | (refine zA ?_; first | refine zB ?_ | refine zC H ?_ | refine zD H ?_ | refine zE H fun _ _ H => ?_ | refine zF H fun _ _ H => ?_ | refine zG H fun _ H => ?_ | refine zH H fun _ H => ?_) | (refine zI ?_; first | refine zJ ?_ | refine zK ?_ | refine zL ?_ | refine CW.seqDc ?_ | refine CW.seqDb ?_ | refine CW.seqDl ?_ | refine CW.seqDs ?_ | refine CW.seqDk ?_ | refine zN ?_ | refine zO ?_ | refine zP ?_ | refine zQ ?_ | refine zR ?_) | refine zS ?_)
      exact ret1 rfl ⟨rfl, H.drop⟩
  rw [decide_eq_true (show (part : Int) < 6 by omega)]
  repeat' (first | (refine zA ?_; first | refine zB ?_ | refine zC H ?_ | refine zD H ?_ | refine zE H fun _ _ H => ?_ | refine zF H fun _ _ H => ?_ | refine zG H fun _ H => ?_ | refine zH H fun _ H => ?_) | (refine zI ?_; first | refine zJ ?_ | refine zK ?_ | refine zL ?_ | refine CW.seqDc ?_ | refine CW.seqDb ?_ | refine CW.seqDl ?_ | refine CW.seqDs ?_ | refine CW.seqDk ?_ | refine zN ?_ | refine zO ?_ | refine zP ?_ | refine zQ ?_ | refine zR ?_) | refine zS ?_)
  refine OpsW.call rfl rfl rfl (mak_parts H (by rw [stM_N]; omega) i) ?_
  rintro _ w ⟨pa, pc, rfl, H⟩
  rw [stM_parts hi' hp6] at H ⊢
  obtain ⟨T1, -, s1, H2⟩ := Sat.vopen (kvec_open H)
  rw [mk_length] at s1 ⊢
  obtain ⟨b1, o1, m1, E1, f1, rfl, -, -⟩ := (s1 []).at_ (by decide)
  replace H := H2
  clear H2
  repeat' (first | (refine zA ?_; first | refine zB ?_ | refine zC H ?_ | refine zD H ?_ | refine zE H fun _ _ H => ?_ | refine zF H fun _ _ H => ?_ | refine zG H fun _ H => ?_ | refine zH H fun _ H => ?_) | (refine zI ?_; first | refine zJ ?_ | refine zK ?_ | refine zL ?_ | refine CW.seqDc ?_ | refine CW.seqDb ?_ | refine CW.seqDl ?_ | refine CW.seqDs ?_ | refine CW.seqDk ?_ | refine zN ?_ | refine zO ?_ | refine zP ?_ | refine zQ ?_ | refine zR ?_) | refine zS ?_)
  refine CW.loopF (X := Nat) (fun j => Nat.ble 20 j) (fun c => [(20, .int .i64 (c : Int))]) (fun c w => c ≤ 6 ∧ Sat W w [T1, makP bm (stM N part x N), snap W]) (fun c => 6 - c) 0 ⟨rfl, trivial⟩ ⟨Nat.zero_le _, H⟩ ?_
  clear H
  rintro c τ w ⟨hc, H⟩
  repeat' (first | (refine zA ?_; first | refine zB ?_ | refine zC H ?_ | refine zD H ?_ | refine zE H fun _ _ H => ?_ | refine zF H fun _ _ H => ?_ | refine zG H fun _ H => ?_ | refine zH H fun _ H => ?_) | (refine zI ?_; first | refine zJ ?_ | refine zK ?_ | refine zL ?_ | refine CW.seqDc ?_ | refine CW.seqDb ?_ | refine CW.seqDl ?_ | refine CW.seqDs ?_ | refine CW.seqDk ?_ | refine zN ?_ | refine zO ?_ | refine zP ?_ | refine zQ ?_ | refine zR ?_) | refine zS ?_)
  refine CW.cond rfl (fun h => ?_) (fun h => ?_)
  case refine_2 =>
    repeat' (first | (refine zA ?_; first | refine zB ?_ | refine zC H ?_ | refine zD H ?_ | refine zE H fun _ _ H => ?_ | refine zF H fun _ _ H => ?_ | refine zG H fun _ H => ?_ | refine zH H fun _ H => ?_) | (refine zI ?_; first | refine zJ ?_ | refine zK ?_ | refine zL ?_ | refine CW.seqDc ?_ | refine CW.seqDb ?_ | refine CW.seqDl ?_ | refine CW.seqDs ?_ | refine CW.seqDk ?_ | refine zN ?_ | refine zO ?_ | refine zP ?_ | refine zQ ?_ | refine zR ?_) | refine zS ?_)
    exact ⟨i + 1, (by (repeat (first | (with_reducible exact Agree.refl _ _) | (with_reducible refine Agree.trim (by assumption) ?_) | refine Agree.upd ?_ rfl | exact Agree.mix' | refine Agree.mixL ?_ (fun j h => by simp only [Bool.or_eq_true, Bool.and_eq_true, Nat.beq_eq, Nat.ble_eq] at h ⊢; omega) rfl))), ⟨nat_succ hi' (by omega), trivial⟩, ⟨hi', H.drop⟩, by omega⟩
  have hc6 : c < 6 := by have := of_decide_eq_true h; omega
  repeat' (first | (refine zA ?_; first | refine zB ?_ | refine zC H ?_ | refine zD H ?_ | refine zE H fun _ _ H => ?_ | refine zF H fun _ _ H => ?_ | refine zG H fun _ H => ?_ | refine zH H fun _ H => ?_) | (refine zI ?_; first | refine zJ ?_ | refine zK ?_ | refine zL ?_ | refine CW.seqDb ?_ | refine CW.seqDl ?_ | refine CW.seqDk ?_ | refine zN ?_ | refine zO ?_ | refine zP ?_ | refine zQ ?_ | refine zR ?_) | refine zS ?_)
  rename_i b21 _ _ _
  replace H : Sat W _ (blk b21 41 K.void.l :: T1 :: makP bm (stM N part x N) :: [snap W]) := H
  refine CW.join (X := Unit) (fun j => Nat.ble 119 j) (fun _ => []) (fun _ w => Sat W w (blk b21 41 (if c = part then nK x i else K.void).l :: T1 :: makP bm (stM N part x N) :: [snap W])) ?_ ?_
  · repeat' (first | (refine zA ?_; first | refine zB ?_ | refine zC H ?_ | refine zD H ?_ | refine zE H fun _ _ H => ?_ | refine zF H fun _ _ H => ?_ | refine zG H fun _ H => ?_ | refine zH H fun _ H => ?_) | (refine zI ?_; first | refine zJ ?_ | refine zK ?_ | refine zL ?_ | refine CW.seqDc ?_ | refine CW.seqDb ?_ | refine CW.seqDl ?_ | refine CW.seqDs ?_ | refine CW.seqDk ?_ | refine zN ?_ | refine zO ?_ | refine zP ?_ | refine zQ ?_ | refine zR ?_) | refine zS ?_)
    by_cases hcp : c = part
    · subst hcp
      rw [beq_self_eq_true]
      repeat' (first | (refine zA ?_; first | refine zB ?_ | refine zC H ?_ | refine zD H ?_ | refine zE H fun _ _ H => ?_ | refine zF H fun _ _ H => ?_ | refine zG H fun _ H => ?_ | refine zH H fun _ H => ?_) | (refine zI ?_; first | refine zJ ?_ | refine zK ?_ | refine zL ?_ | refine CW.seqDc ?_ | refine CW.seqDb ?_ | refine CW.seqDl ?_ | refine CW.seqDs ?_ | refine CW.seqDk ?_ | refine zN ?_ | refine zO ?_ | refine zP ?_ | refine zQ ?_ | refine zR ?_) | refine zS ?_)
      rw [wrapu32, wrapu32, show (x + (i : Int) % 4294967296) % 4294967296 = (x + (i : Int)) % 4294967296 by omega] at H
      exact ⟨(), (by (repeat (first | (with_reducible exact Agree.refl _ _) | (with_reducible refine Agree.trim (by assumption) ?_) | refine Agree.upd ?_ rfl | exact Agree.mix' | refine Agree.mixL ?_ (fun j h => by simp only [Bool.or_eq_true, Bool.and_eq_true, Nat.beq_eq, Nat.ble_eq] at h ⊢; omega) rfl))), trivial, by rw [if_pos rfl]; exact H⟩
    · refine CW.cond rfl (fun h => absurd (eq_of_beq h) (by omega)) (fun _ => ?_)
      repeat' (first | (refine zA ?_; first | refine zB ?_ | refine zC H ?_ | refine zD H ?_ | refine zE H fun _ _ H => ?_ | refine zF H fun _ _ H => ?_ | refine zG H fun _ H => ?_ | refine zH H fun _ H => ?_) | (refine zI ?_; first | refine zJ ?_ | refine zK ?_ | refine zL ?_ | refine CW.seqDc ?_ | refine CW.seqDb ?_ | refine CW.seqDl ?_ | refine CW.seqDs ?_ | refine CW.seqDk ?_ | refine zN ?_ | refine zO ?_ | refine zP ?_ | refine zQ ?_ | refine zR ?_) | refine zS ?_)
      exact ⟨(), (by (repeat (first | (with_reducible exact Agree.refl _ _) | (with_reducible refine Agree.trim (by assumption) ?_) | refine Agree.upd ?_ rfl | exact Agree.mix' | refine Agree.mixL ?_ (fun j h => by simp only [Bool.or_eq_true, Bool.and_eq_true, Nat.beq_eq, Nat.ble_eq] at h ⊢; omega) rfl))), trivial, by rw [if_neg hcp]; exact H⟩
  clear H
  rintro _ τ w H
  obtain ⟨k, hk⟩ : ∃ k, k = if c = part then nK x i else K.void := ⟨_, rfl⟩
  rw [← hk] at H
  have hvs : (((mk 6 fun c => if c = part then nK x i else K.void).flatMap K.l).drop (c * 5)).take 5 = k.l := by
    have := fl_take K.l 5 K.l_len (mk 6 fun c => if c = part then nK x i else K.void) [] c (by rw [mk_length]; exact hc6)
    rw [List.append_nil, mk_get] at this
    rw [hk]; exact this
  repeat' (first | (refine zA ?_; first | refine zB ?_ | refine zC H ?_ | refine zD H ?_ | refine zE H fun _ _ H => ?_ | refine zF H fun _ _ H => ?_ | refine zG H fun _ H => ?_ | refine zH H fun _ H => ?_) | (refine zI ?_; first | refine zJ ?_ | refine zK ?_ | refine zL ?_ | refine CW.seqDc ?_ | refine CW.seqDb ?_ | refine CW.seqDl ?_ | refine CW.seqDs ?_ | refine CW.seqDk ?_ | refine zN ?_ | refine zO ?_ | refine zP ?_ | refine zQ ?_ | refine zR ?_) | refine zS ?_)
  (first | refine CW.seqDraw mo H [0, 0, 3, 7, 0, 31, 63] fun w H => ?_ | refine CW.draw mo H [0, 0, 3, 7, 0, 31, 63] fun w H => ?_); refine AnyW.seg (m := 7) (by kernel_rfl) (by kernel_rfl) H rfl ?_
  repeat' (first | (refine DrawP.nil ?_; intro w H) | (refine DrawP.go ?_; first | refine DrawP.cons rfl (fun τ w H => OpsW.st rfl (OpsW.nil ⟨rfl, H⟩)) ?_ | refine DrawP.cons rfl (fun τ w H => OpsW.ld H (by (first | exact p0 | exact p1 | exact p2 | exact p3 | exact p4 | exact p5 | exact p6 | exact p7)) rfl rfl rfl rfl (by rfl) rfl (OpsW.nil ⟨rfl, H⟩)) ?_ | refine DrawP.cons rfl (fun τ w H => OpsW.ldA H (by (first | exact p0 | exact p1 | exact p2 | exact p3 | exact p4 | exact p5 | exact p6 | exact p7)) rfl rfl rfl (by rfl) rfl (OpsW.nil ⟨rfl, H⟩)) ?_ | (refine DrawP.goCall ?_; first | refine DrawP.cons rfl (fun τ w H => OpsW.call rfl rfl rfl (sameKey _ _ _ H k k) fun _ w h => by obtain ⟨rfl, H⟩ := h; exact OpsW.nil ⟨rfl, H⟩) ?_) | refine DrawP.cons rfl (fun τ w H => OpsW.ix (n := c) rfl rfl rfl rfl rfl rfl rfl hc6 rfl (OpsW.nil ⟨rfl, H⟩)) ?_ | refine DrawP.cons rfl (fun τ w H => OpsW.ldSA (k := c) (sz := 5) (vs := k.l) H (s1 _).tail rfl rfl rfl rfl hc6 hvs rfl (OpsW.nil ⟨rfl, H⟩)) ?_) | refine DrawP.split (fun h => ?_) (fun h => ?_))
  refine AnyW.done ?_
  rw [K.same_refl]
  repeat' (first | (refine zA ?_; first | refine zB ?_ | refine zC H ?_ | refine zD H ?_ | refine zE H fun _ _ H => ?_ | refine zF H fun _ _ H => ?_ | refine zG H fun _ H => ?_ | refine zH H fun _ H => ?_) | (refine zI ?_; first | refine zJ ?_ | refine zK ?_ | refine zL ?_ | refine CW.seqDc ?_ | refine CW.seqDb ?_ | refine CW.seqDl ?_ | refine CW.seqDs ?_ | refine CW.seqDk ?_ | refine zN ?_ | refine zO ?_ | refine zP ?_ | refine zQ ?_ | refine zR ?_) | refine zS ?_)
  exact ⟨c + 1, (by (repeat (first | (with_reducible exact Agree.refl _ _) | (with_reducible refine Agree.trim (by assumption) ?_) | refine Agree.upd ?_ rfl | exact Agree.mix' | refine Agree.mixL ?_ (fun j h => by simp only [Bool.or_eq_true, Bool.and_eq_true, Nat.beq_eq, Nat.ble_eq] at h ⊢; omega) rfl))), ⟨nat_succ (n := 6) hc6 (by decide), trivial⟩, ⟨hc6, H.drop⟩, by omega⟩
end Go.Proofs.YtbmfpkpcljihgaaDoor.X
