/- The law MakerTrust of chapter 20, walked; conditions: none. -/
import Derived.Test.YtbmfpkpcljihgaaDoorL20
namespace Go.Proofs.YtbmfpkpcljihgaaDoor.X
open Go Go.Proofs
set_option linter.unusedSimpArgs false
set_option linter.unusedVariables false
def mkT (c : Nat) : Mk := ⟨8, mF c, fun _ => false, fun _ _ => K.void⟩
def kM (c : Nat) : K := ⟨9, c, 0, 0, 0⟩
def kP (c : Nat) : K := ⟨3, c, 0, 5, 0⟩
def kQ : K := ⟨7, 0, 0, 0, 0⟩
def ptT (n a b j : Nat) : Nat → K := if j = n then (fun c => if c < a then kM c else K.void) else if j < b then (fun c => if c = 0 then kP j else K.void) else fun _ => K.void
/-- A factory of so many, some of them sealed. -/
def stT (n op a b s : Nat) : Mk := ⟨8, mF (n + 1), fun j => decide (j < s) && !decide (j = op), ptT n a b⟩
theorem mkT_0 : Mk.new 8 = mkT 0 := by
  unfold Mk.new mkT
  have h1 : (fun _ : Nat => Pl.z) = mF 0 := by funext j; exact (mF_ge (Nat.zero_le j)).symm
  rw [h1]
theorem mkT_make (c : Nat) : (mkT c).make c = mkT (c + 1) := by
  unfold Mk.make mkT
  dsimp only
  have h1 : (fun j => if j = c then (mF c c).take else mF c j) = mF (c + 1) := mF_up
  have h2 : (fun j : Nat => if j = c then false else false) = fun _ => false := by funext j; split <;> rfl
  have h3 : (fun j : Nat => if j = c then (fun _ : Nat => K.void) else fun _ => K.void) = fun _ _ => K.void := by funext j; split <;> rfl
  rw [h1, h2, h3]
theorem mkT_N (c : Nat) : (mkT c).N = 8 := rfl
theorem mkT_free (c : Nat) : ((mkT c).f c).free = true := by
  show (mF c c).free = true
  rw [mF_ge (Nat.le_refl c)]; rfl
theorem mkT_taken {c j : Nat} (hj : j < c) : ((mkT c).f j).free = false := by
  show (mF c j).free = false
  rw [mF_lt hj]; rfl
theorem mkT_ver (c : Nat) : ((mkT c).f c).ver = 0 := by
  show (mF c c).ver = 0
  rw [mF_ge (Nat.le_refl c)]
theorem stT_0 (n op : Nat) : mkT (n + 1) = stT n op 0 0 0 := by
  unfold mkT stT
  have h2 : (fun _ : Nat => false) = fun j => decide (j < 0) && !decide (j = op) := by funext j; simp
  have h3 : (fun _ _ : Nat => K.void) = ptT n 0 0 := by
    funext j c
    unfold ptT
    split <;> simp
  rw [h2, h3]
theorem stT_N (n op a b s : Nat) : (stT n op a b s).N = 8 := rfl
theorem kM_ec : ∀ c, c < 8 → (kM c).ec = 0 := by decide +kernel
theorem kP_ec : ∀ c, c < 8 → (kP c).ec = 0 := by decide +kernel
theorem stT_on {n op a b s i : Nat} (hn : n < 6) (hi : i ≤ n) : (stT n op a b s).on i = true := by
  show onN 8 (mF (n + 1)) i = true
  rw [onN_nat (by omega), mF_lt (by omega)]
theorem stT_instE {n op a b s i c : Nat} {k : K} (hn : n < 6) (hi : i ≤ n) (hs : s ≤ i ∨ i = op) (hc : c < 6) (hk : k.ec = 0) : (stT n op a b s).instE i c k = 0 := by
  unfold Mk.instE
  rw [stT_on hn hi, if_neg (by decide), if_neg (by
    show ¬ ((decide (i < s) && !decide (i = op)) = true)
    rcases hs with h | h
    · simp; omega
    · simp [h]), if_neg (by omega), hk]
theorem stT_a {n op i : Nat} (hn : n < 6) (hi : i < n) : (stT n op i i i).inst n i (kM i) = stT n op (i + 1) i i := by
  unfold Mk.inst
  rw [stT_instE hn (Nat.le_refl n) (.inl (by omega)) (by omega) (kM_ec i (by omega)), if_pos rfl]
  unfold Mk.putP stT
  dsimp only
  congr 1
  have h1 : ((n : Int)).toNat = n := rfl
  have h2 : ((i : Int)).toNat = i := rfl
  rw [h1, h2]
  funext j
  by_cases e : j = n
  · subst e
    rw [if_pos rfl]
    funext c
    unfold ptT
    rw [if_pos rfl, if_pos rfl]
    by_cases hc : c = i
    · subst hc; rw [if_pos rfl, if_pos (by omega)]
    · rw [if_neg hc]
      by_cases h3 : c < i
      · rw [if_pos h3, if_pos (by omega)]
      · rw [if_neg h3, if_neg (by omega)]
  · rw [if_neg e]
    unfold ptT
    rw [if_neg e, if_neg e]
theorem stT_b {n op i : Nat} (hn : n < 6) (hi : i < n) : (stT n op (i + 1) i i).inst i 0 (kP i) = stT n op (i + 1) (i + 1) i := by
  unfold Mk.inst
  have h0 : (stT n op (i + 1) i i).instE i 0 (kP i) = 0 := stT_instE (c := 0) hn (by omega) (.inl (Nat.le_refl i)) (by decide) (kP_ec i (by omega))
  rw [h0, if_pos rfl]
  unfold Mk.putP stT
  dsimp only
  congr 1
  have h2 : ((i : Int)).toNat = i := rfl
  have h3 : (0 : Int).toNat = 0 := rfl
  rw [h2, h3]
  funext j
  by_cases e : j = i
  · subst e
    rw [if_pos rfl]
    have e1 : ptT n (j + 1) j j = fun _ => K.void := by unfold ptT; rw [if_neg (show ¬ j = n by omega), if_neg (show ¬ j < j by omega)]
    have e2 : ptT n (j + 1) (j + 1) j = fun c => if c = 0 then kP j else K.void := by unfold ptT; rw [if_neg (show ¬ j = n by omega), if_pos (show j < j + 1 by omega)]
    rw [e1, e2]
  · rw [if_neg e]
    unfold ptT
    by_cases e2 : j = n
    · rw [if_pos e2, if_pos e2]
    · rw [if_neg e2, if_neg e2]
      by_cases h4 : j < i
      · rw [if_pos h4, if_pos (by omega)]
      · rw [if_neg h4, if_neg (by omega)]
theorem stT_sealE {n op i : Nat} (hn : n < 6) (hi : i < n) : (stT n op (i + 1) (i + 1) i).sealE i = 0 := by
  unfold Mk.sealE
  rw [stT_on hn (by omega), if_neg (by decide), if_neg (by show ¬ ((decide (i < i) && !decide (i = op)) = true); simp)]
theorem stT_c {n op i : Nat} (hn : n < 6) (hi : i < n) (ho : i ≠ op) : (stT n op (i + 1) (i + 1) i).sealS i = stT n op (i + 1) (i + 1) (i + 1) := by
  unfold Mk.sealS
  rw [stT_sealE hn hi, if_pos rfl]
  unfold Mk.setS stT
  dsimp only
  congr 1
  have h2 : ((i : Int)).toNat = i := rfl
  rw [h2]
  funext j
  by_cases e : j = i
  · subst e; simp [ho]
  · rw [if_neg e]
    by_cases h4 : j < i
    · simp [h4, show j < i + 1 by omega]
    · simp [h4, show ¬ j < i + 1 by omega]
theorem stT_d {n op i : Nat} (ho : i = op) : stT n op (i + 1) (i + 1) i = stT n op (i + 1) (i + 1) (i + 1) := by
  unfold stT
  congr 1
  funext j
  by_cases e : j = i
  · subst e; simp [ho]
  · by_cases h4 : j < i
    · simp [h4, show j < i + 1 by omega]
    · simp [h4, show ¬ j < i + 1 by omega]
def tF (n op : Nat) (r : Bool) : Mk := if r = true then (stT n op n n n).inst op 1 kQ else stT n op n n n
def tG (n op : Nat) (r : Bool) : Mk := (tF n op r).sealS op
def hlT (m : Mk) (i : Nat) : Nat := ((m.parts i).filter (isHole m.fcs)).length
theorem tF_h : ∀ n, n < 6 → ∀ op, op < n → ∀ r : Bool, hlT (tF n op r) n = 1 := by decide +kernel
theorem tF_e : ∀ n, n < 6 → ∀ op, op < n → ∀ r : Bool, (tF n op r).sealE op = 0 := by decide +kernel
theorem tG_h : ∀ n, n < 6 → ∀ op, op < n → ∀ r : Bool, ((hlT (tG n op r) n : Int) == 1) = r := by decide +kernel
theorem tG_o : ∀ n, n < 6 → ∀ op, op < n → ∀ r : Bool, ((hlT (tG n op r) op : Int) == 1) = r := by decide +kernel
theorem tF_N : ∀ n, n < 6 → ∀ op, op < n → ∀ r : Bool, (tF n op r).N ≤ 256 := by decide +kernel
theorem tG_N : ∀ n, n < 6 → ∀ op, op < n → ∀ r : Bool, (tG n op r).N ≤ 256 := by decide +kernel
attribute [local irreducible] CW OpsW RetW Spec blk snap DrawP AnyW AnyM AnyN bits IntKind.wrap vec arena eA onc pks mks K.sensory namedF reach isHole K.weaken K.same facsM makP stT mkT tF tG
set_option maxHeartbeats 4000000 in
set_option maxRecDepth 20000 in
theorem makerTrust_ (W : World) (hEs : Errs W 187 [4, 1, 0, 3, 2]) (ni : Int) (hnw : (Lit.int .i64 ni).wf = true) (oi : Int) (how : (Lit.int .i64 oi).wf = true) (r : Bool) :
    Spec cf 7 #[.int .i64 ni, .int .i64 oi, .bool r] W fun v w' => v = .bool true ∧ Sat W w' [snap W] := by
  have H := Sat.start W
  obtain ⟨ads, hM⟩ := errsM hEs
  refine enter (l := [.int .i64 ni, .int .i64 oi, .bool r]) Tryd.func7 rfl rfl rfl rfl rfl ?_
  repeat' (first | (refine zA ?_; first | refine zB ?_ | refine zC H ?_ | refine zD H ?_ | refine zE H fun _ _ H => ?_ | refine zF H fun _ _ H => ?_ | refine zG H fun _ H => ?_ | refine zH H fun _ H => ?_) | (refine zI ?_; first | refine zJ ?_ | refine zK ?_ | refine zL ?_ | refine CW.seqDc ?_ | refine CW.seqDb ?_ | refine CW.seqDl ?_ | refine CW.seqDs ?_ | refine CW.seqDk ?_ | refine zN ?_ | refine zO ?_ | refine zP ?_ | refine zQ ?_ | refine zR ?_) | refine zS ?_)
  refine OpsW.call rfl rfl rfl (first20_ H hM) ?_
  rintro _ w ⟨rfl, H⟩
  repeat' (first | (refine zA ?_; first | refine zB ?_ | refine zC H ?_ | refine zD H ?_ | refine zE H fun _ _ H => ?_ | refine zF H fun _ _ H => ?_ | refine zG H fun _ H => ?_ | refine zH H fun _ H => ?_) | (refine zI ?_; first | refine zJ ?_ | refine zK ?_ | refine zL ?_ | refine CW.seqDc ?_ | refine CW.seqDb ?_ | refine CW.seqDl ?_ | refine CW.seqDs ?_ | refine CW.seqDk ?_ | refine zN ?_ | refine zO ?_ | refine zP ?_ | refine zQ ?_ | refine zR ?_) | refine zS ?_)
  refine OpsW.call rfl rfl rfl (number_ _ _ _ H ni 5 (by decide) (by decide)) ?_
  rintro _ w ⟨rfl, H⟩
  obtain ⟨n0, hn0⟩ := Int.eq_ofNat_of_zero_le (Int.emod_nonneg ni (show (5 : Int) ≠ 0 by decide))
  have hn5 : n0 < 5 := by have := Int.emod_lt_of_pos ni (show (0 : Int) < 5 by decide); omega
  obtain ⟨n, hn⟩ : ∃ n, n = n0 + 1 := ⟨_, rfl⟩
  rw [hn0]
  refine OpsW.st rfl ?_
  rw [show IntKind.wrap .i64 ((n0 : Int) + 1) = (n : Int) by rw [wrap64_id (by omega) (by omega)]; omega]
  have hn6 : n < 6 := by omega
  clear hn0
  repeat' (first | (refine zA ?_; first | refine zB ?_ | refine zC H ?_ | refine zD H ?_ | refine zE H fun _ _ H => ?_ | refine zF H fun _ _ H => ?_ | refine zG H fun _ H => ?_ | refine zH H fun _ H => ?_) | (refine zI ?_; first | refine zJ ?_ | refine zK ?_ | refine zL ?_ | refine CW.seqDc ?_ | refine CW.seqDb ?_ | refine CW.seqDl ?_ | refine CW.seqDs ?_ | refine CW.seqDk ?_ | refine zN ?_ | refine zO ?_ | refine zP ?_ | refine zQ ?_ | refine zR ?_) | refine zS ?_)
  refine OpsW.call rfl rfl rfl (number_ _ _ _ H oi n (by omega) (by omega)) ?_
  rintro _ w ⟨rfl, H⟩
  obtain ⟨op, hop⟩ := Int.eq_ofNat_of_zero_le (Int.emod_nonneg oi (show (n : Int) ≠ 0 by omega))
  have hop5 : op < n := by have := Int.emod_lt_of_pos oi (show (0 : Int) < n by omega); omega
  rw [hop]
  repeat' (first | (refine zA ?_; first | refine zB ?_ | refine zC H ?_ | refine zD H ?_ | refine zE H fun _ _ H => ?_ | refine zF H fun _ _ H => ?_ | refine zG H fun _ H => ?_ | refine zH H fun _ H => ?_) | (refine zI ?_; first | refine zJ ?_ | refine zK ?_ | refine zL ?_ | refine CW.seqDc ?_ | refine CW.seqDb ?_ | refine CW.seqDl ?_ | refine CW.seqDs ?_ | refine CW.seqDk ?_ | refine zN ?_ | refine zO ?_ | refine zP ?_ | refine zQ ?_ | refine zR ?_) | refine zS ?_)
  refine OpsW.call rfl rfl rfl (mak_new H 8 (by decide) (by decide)) ?_
  rintro _ w ⟨bm, rfl, H⟩
  rw [mkT_0] at H
  repeat' (first | (refine zA ?_; first | refine zB ?_ | refine zC H ?_ | refine zD H ?_ | refine zE H fun _ _ H => ?_ | refine zF H fun _ _ H => ?_ | refine zG H fun _ H => ?_ | refine zH H fun _ H => ?_) | (refine zI ?_; first | refine zJ ?_ | refine zK ?_ | refine zL ?_ | refine CW.seqDc ?_ | refine CW.seqDb ?_ | refine CW.seqDl ?_ | refine CW.seqDs ?_ | refine CW.seqDk ?_ | refine zN ?_ | refine zO ?_ | refine zP ?_ | refine zQ ?_ | refine zR ?_) | refine zS ?_)
  refine CW.loopF (X := Nat) (fun j => Nat.ble 10 j) (fun i => [(10, .int .i64 (i : Int))]) (fun i w => i ≤ n + 1 ∧ Sat W w (makP bm (mkT i) :: [snap W])) (fun i => n + 1 - i) 0 ⟨rfl, trivial⟩ ⟨Nat.zero_le _, H⟩ ?_
  clear H
  rintro i τ w ⟨hi, H⟩
  repeat' (first | (refine zA ?_; first | refine zB ?_ | refine zC H ?_ | refine zD H ?_ | refine zE H fun _ _ H => ?_ | refine zF H fun _ _ H => ?_ | refine zG H fun _ H => ?_ | refine zH H fun _ H => ?_) | (refine zI ?_; first | refine zJ ?_ | refine zK ?_ | refine zL ?_ | refine CW.seqDc ?_ | refine CW.seqDb ?_ | refine CW.seqDl ?_ | refine CW.seqDs ?_ | refine CW.seqDk ?_ | refine zN ?_ | refine zO ?_ | refine zP ?_ | refine zQ ?_ | refine zR ?_) | refine zS ?_)
  refine CW.cond rfl (fun h => ?_) (fun h => ?_)
  · have hi' : i < n + 1 := by have := of_decide_eq_true h; omega
    repeat' (first | (refine zA ?_; first | refine zB ?_ | refine zC H ?_ | refine zD H ?_ | refine zE H fun _ _ H => ?_ | refine zF H fun _ _ H => ?_ | refine zG H fun _ H => ?_ | refine zH H fun _ H => ?_) | (refine zI ?_; first | refine zJ ?_ | refine zK ?_ | refine zL ?_ | refine CW.seqDc ?_ | refine CW.seqDb ?_ | refine CW.seqDl ?_ | refine CW.seqDs ?_ | refine CW.seqDk ?_ | refine zN ?_ | refine zO ?_ | refine zP ?_ | refine zQ ?_ | refine zR ?_) | refine zS ?_)
    have hmk := mak_make H (by rw [mkT_N]; decide) hM i (by rw [mkT_N]; omega) (mkT_free i) (fun j hj => mkT_taken hj)
    rw [mkT_ver, mkT_make] at hmk
    refine OpsW.call rfl rfl rfl hmk ?_
    rintro _ w ⟨rfl, H⟩
    repeat' (first | (refine zA ?_; first | refine zB ?_ | refine zC H ?_ | refine zD H ?_ | refine zE H fun _ _ H => ?_ | refine zF H fun _ _ H => ?_ | refine zG H fun _ H => ?_ | refine zH H fun _ H => ?_) | (refine zI ?_; first | refine zJ ?_ | refine zK ?_ | refine zL ?_ | refine CW.seqDc ?_ | refine CW.seqDb ?_ | refine CW.seqDl ?_ | refine CW.seqDs ?_ | refine CW.seqDk ?_ | refine zN ?_ | refine zO ?_ | refine zP ?_ | refine zQ ?_ | refine zR ?_) | refine zS ?_)
    exact ⟨i + 1, (by (repeat (first | (with_reducible exact Agree.refl _ _) | (with_reducible refine Agree.trim (by assumption) ?_) | refine Agree.upd ?_ rfl | exact Agree.mix' | refine Agree.mixL ?_ (fun j h => by simp only [Bool.or_eq_true, Bool.and_eq_true, Nat.beq_eq, Nat.ble_eq] at h ⊢; omega) rfl))), ⟨nat_succ (n := n + 1) hi' (by omega), trivial⟩, ⟨hi', H⟩, by omega⟩
  have hiN : i = n + 1 := by have := of_decide_eq_false h; omega
  rw [hiN, stT_0 n op] at H
  clear hiN hi h
  repeat' (first | (refine zA ?_; first | refine zB ?_ | refine zC H ?_ | refine zD H ?_ | refine zE H fun _ _ H => ?_ | refine zF H fun _ _ H => ?_ | refine zG H fun _ H => ?_ | refine zH H fun _ H => ?_) | (refine zI ?_; first | refine zJ ?_ | refine zK ?_ | refine zL ?_ | refine CW.seqDc ?_ | refine CW.seqDb ?_ | refine CW.seqDl ?_ | refine CW.seqDs ?_ | refine CW.seqDk ?_ | refine zN ?_ | refine zO ?_ | refine zP ?_ | refine zQ ?_ | refine zR ?_) | refine zS ?_)
  refine CW.loopF (X := Nat) (fun j => Nat.ble 11 j) (fun i => [(11, .int .i64 (i : Int))]) (fun i w => i ≤ n ∧ Sat W w (makP bm (stT n op i i i) :: [snap W])) (fun i => n - i) 0 ⟨rfl, trivial⟩ ⟨Nat.zero_le _, H⟩ ?_
  clear H
  rintro i τ w ⟨hi, H⟩
  repeat' (first | (refine zA ?_; first | refine zB ?_ | refine zC H ?_ | refine zD H ?_ | refine zE H fun _ _ H => ?_ | refine zF H fun _ _ H => ?_ | refine zG H fun _ H => ?_ | refine zH H fun _ H => ?_) | (refine zI ?_; first | refine zJ ?_ | refine zK ?_ | refine zL ?_ | refine CW.seqDc ?_ | refine CW.seqDb ?_ | refine CW.seqDl ?_ | refine CW.seqDs ?_ | refine CW.seqDk ?_ | refine zN ?_ | refine zO ?_ | refine zP ?_ | refine zQ ?_ | refine zR ?_) | refine zS ?_)
  refine CW.cond rfl (fun h => ?_) (fun h => ?_)
  · have hi' : i < n := by have := of_decide_eq_true h; omega
    repeat' (first | (refine zA ?_; first | refine zB ?_ | refine zC H ?_ | refine zD H ?_ | refine zE H fun _ _ H => ?_ | refine zF H fun _ _ H => ?_ | refine zG H fun _ H => ?_ | refine zH H fun _ H => ?_) | (refine zI ?_; first | refine zJ ?_ | refine zK ?_ | refine zL ?_ | refine CW.seqDc ?_ | refine CW.seqDb ?_ | refine CW.seqDl ?_ | refine CW.seqDs ?_ | refine CW.seqDk ?_ | refine zN ?_ | refine zO ?_ | refine zP ?_ | refine zQ ?_ | refine zR ?_) | refine zS ?_)
    have hin := mak_install H (by rw [stT_N]; decide) hM n i (kM i)
    rw [stT_a hn6 hi'] at hin
    refine OpsW.call rfl rfl rfl hin ?_
    rintro _ w ⟨rfl, H⟩
    clear hin
    repeat' (first | (refine zA ?_; first | refine zB ?_ | refine zC H ?_ | refine zD H ?_ | refine zE H fun _ _ H => ?_ | refine zF H fun _ _ H => ?_ | refine zG H fun _ H => ?_ | refine zH H fun _ H => ?_) | (refine zI ?_; first | refine zJ ?_ | refine zK ?_ | refine zL ?_ | refine CW.seqDc ?_ | refine CW.seqDb ?_ | refine CW.seqDl ?_ | refine CW.seqDs ?_ | refine CW.seqDk ?_ | refine zN ?_ | refine zO ?_ | refine zP ?_ | refine zQ ?_ | refine zR ?_) | refine zS ?_)
    have hin := mak_install H (by rw [stT_N]; decide) hM i 0 (kP i)
    rw [stT_b hn6 hi'] at hin
    refine OpsW.call rfl rfl rfl hin ?_
    rintro _ w ⟨rfl, H⟩
    clear hin
    repeat' (first | (refine zA ?_; first | refine zB ?_ | refine zC H ?_ | refine zD H ?_ | refine zE H fun _ _ H => ?_ | refine zF H fun _ _ H => ?_ | refine zG H fun _ H => ?_ | refine zH H fun _ H => ?_) | (refine zI ?_; first | refine zJ ?_ | refine zK ?_ | refine zL ?_ | refine CW.seqDc ?_ | refine CW.seqDb ?_ | refine CW.seqDl ?_ | refine CW.seqDs ?_ | refine CW.seqDk ?_ | refine zN ?_ | refine zO ?_ | refine zP ?_ | refine zQ ?_ | refine zR ?_) | refine zS ?_)
    by_cases ho : i = op
    · have hz : ((i : Int) != (op : Int)) = false := by rw [ho]; exact bne_self_eq_false _
      rw [hz]
      repeat' (first | (refine zA ?_; first | refine zB ?_ | refine zC H ?_ | refine zD H ?_ | refine zE H fun _ _ H => ?_ | refine zF H fun _ _ H => ?_ | refine zG H fun _ H => ?_ | refine zH H fun _ H => ?_) | (refine zI ?_; first | refine zJ ?_ | refine zK ?_ | refine zL ?_ | refine CW.seqDc ?_ | refine CW.seqDb ?_ | refine CW.seqDl ?_ | refine CW.seqDs ?_ | refine CW.seqDk ?_ | refine zN ?_ | refine zO ?_ | refine zP ?_ | refine zQ ?_ | refine zR ?_) | refine zS ?_)
      rw [stT_d ho] at H
      exact ⟨i + 1, (by (repeat (first | (with_reducible exact Agree.refl _ _) | (with_reducible refine Agree.trim (by assumption) ?_) | refine Agree.upd ?_ rfl | exact Agree.mix' | refine Agree.mixL ?_ (fun j h => by simp only [Bool.or_eq_true, Bool.and_eq_true, Nat.beq_eq, Nat.ble_eq] at h ⊢; omega) rfl))), ⟨nat_succ (n := n) hi' (by omega), trivial⟩, ⟨hi', H⟩, by omega⟩
    · refine CW.cond rfl (fun _ => ?_) (fun h => absurd h (by simp; omega))
      repeat' (first | (refine zA ?_; first | refine zB ?_ | refine zC H ?_ | refine zD H ?_ | refine zE H fun _ _ H => ?_ | refine zF H fun _ _ H => ?_ | refine zG H fun _ H => ?_ | refine zH H fun _ H => ?_) | (refine zI ?_; first | refine zJ ?_ | refine zK ?_ | refine zL ?_ | refine CW.seqDc ?_ | refine CW.seqDb ?_ | refine CW.seqDl ?_ | refine CW.seqDs ?_ | refine CW.seqDk ?_ | refine zN ?_ | refine zO ?_ | refine zP ?_ | refine zQ ?_ | refine zR ?_) | refine zS ?_)
      have hse := mak_seal H (by rw [stT_N]; decide) hM i
      rw [stT_c hn6 hi' ho] at hse
      refine OpsW.call rfl rfl rfl hse ?_
      rintro _ w ⟨rfl, H⟩
      repeat' (first | (refine zA ?_; first | refine zB ?_ | refine zC H ?_ | refine zD H ?_ | refine zE H fun _ _ H => ?_ | refine zF H fun _ _ H => ?_ | refine zG H fun _ H => ?_ | refine zH H fun _ H => ?_) | (refine zI ?_; first | refine zJ ?_ | refine zK ?_ | refine zL ?_ | refine CW.seqDc ?_ | refine CW.seqDb ?_ | refine CW.seqDl ?_ | refine CW.seqDs ?_ | refine CW.seqDk ?_ | refine zN ?_ | refine zO ?_ | refine zP ?_ | refine zQ ?_ | refine zR ?_) | refine zS ?_)
      exact ⟨i + 1, (by (repeat (first | (with_reducible exact Agree.refl _ _) | (with_reducible refine Agree.trim (by assumption) ?_) | refine Agree.upd ?_ rfl | exact Agree.mix' | refine Agree.mixL ?_ (fun j h => by simp only [Bool.or_eq_true, Bool.and_eq_true, Nat.beq_eq, Nat.ble_eq] at h ⊢; omega) rfl))), ⟨nat_succ (n := n) hi' (by omega), trivial⟩, ⟨hi', H⟩, by omega⟩
  have hiN : i = n := by have := of_decide_eq_false h; omega
  rw [hiN] at H
  clear hiN hi h
  repeat' (first | (refine zA ?_; first | refine zB ?_ | refine zC H ?_ | refine zD H ?_ | refine zE H fun _ _ H => ?_ | refine zF H fun _ _ H => ?_ | refine zG H fun _ H => ?_ | refine zH H fun _ H => ?_) | (refine zI ?_; first | refine zJ ?_ | refine zK ?_ | refine zL ?_ | refine CW.seqDb ?_ | refine CW.seqDl ?_ | refine CW.seqDk ?_ | refine zN ?_ | refine zO ?_ | refine zP ?_ | refine zQ ?_ | refine zR ?_) | refine zS ?_)
  refine CW.join (X := Unit) (fun j => Nat.ble 60 j) (fun _ => []) (fun _ w => Sat W w (makP bm (tF n op r) :: [snap W])) ?_ ?_
  · repeat' (first | (refine zA ?_; first | refine zB ?_ | refine zC H ?_ | refine zD H ?_ | refine zE H fun _ _ H => ?_ | refine zF H fun _ _ H => ?_ | refine zG H fun _ H => ?_ | refine zH H fun _ H => ?_) | (refine zI ?_; first | refine zJ ?_ | refine zK ?_ | refine zL ?_ | refine CW.seqDc ?_ | refine CW.seqDb ?_ | refine CW.seqDl ?_ | refine CW.seqDs ?_ | refine CW.seqDk ?_ | refine zN ?_ | refine zO ?_ | refine zP ?_ | refine zQ ?_ | refine zR ?_) | refine zS ?_)
    cases r
    · repeat' (first | (refine zA ?_; first | refine zB ?_ | refine zC H ?_ | refine zD H ?_ | refine zE H fun _ _ H => ?_ | refine zF H fun _ _ H => ?_ | refine zG H fun _ H => ?_ | refine zH H fun _ H => ?_) | (refine zI ?_; first | refine zJ ?_ | refine zK ?_ | refine zL ?_ | refine CW.seqDc ?_ | refine CW.seqDb ?_ | refine CW.seqDl ?_ | refine CW.seqDs ?_ | refine CW.seqDk ?_ | refine zN ?_ | refine zO ?_ | refine zP ?_ | refine zQ ?_ | refine zR ?_) | refine zS ?_)
      exact ⟨(), (by (repeat (first | (with_reducible exact Agree.refl _ _) | (with_reducible refine Agree.trim (by assumption) ?_) | refine Agree.upd ?_ rfl | exact Agree.mix' | refine Agree.mixL ?_ (fun j h => by simp only [Bool.or_eq_true, Bool.and_eq_true, Nat.beq_eq, Nat.ble_eq] at h ⊢; omega) rfl))), trivial, by with_unfolding_all exact H⟩
    · repeat' (first | (refine zA ?_; first | refine zB ?_ | refine zC H ?_ | refine zD H ?_ | refine zE H fun _ _ H => ?_ | refine zF H fun _ _ H => ?_ | refine zG H fun _ H => ?_ | refine zH H fun _ H => ?_) | (refine zI ?_; first | refine zJ ?_ | refine zK ?_ | refine zL ?_ | refine CW.seqDc ?_ | refine CW.seqDb ?_ | refine CW.seqDl ?_ | refine CW.seqDs ?_ | refine CW.seqDk ?_ | refine zN ?_ | refine zO ?_ | refine zP ?_ | refine zQ ?_ | refine zR ?_) | refine zS ?_)
      have hin := mak_install H (by rw [stT_N]; decide) hM op 1 kQ
      rw [show (stT n op n n n).inst op 1 kQ = tF n op true by with_unfolding_all rfl] at hin
      refine OpsW.call rfl rfl rfl hin ?_
      rintro _ w ⟨rfl, H⟩
      repeat' (first | (refine zA ?_; first | refine zB ?_ | refine zC H ?_ | refine zD H ?_ | refine zE H fun _ _ H => ?_ | refine zF H fun _ _ H => ?_ | refine zG H fun _ H => ?_ | refine zH H fun _ H => ?_) | (refine zI ?_; first | refine zJ ?_ | refine zK ?_ | refine zL ?_ | refine CW.seqDc ?_ | refine CW.seqDb ?_ | refine CW.seqDl ?_ | refine CW.seqDs ?_ | refine CW.seqDk ?_ | refine zN ?_ | refine zO ?_ | refine zP ?_ | refine zQ ?_ | refine zR ?_) | refine zS ?_)
      exact ⟨(), (by (repeat (first | (with_reducible exact Agree.refl _ _) | (with_reducible refine Agree.trim (by assumption) ?_) | refine Agree.upd ?_ rfl | exact Agree.mix' | refine Agree.mixL ?_ (fun j h => by simp only [Bool.or_eq_true, Bool.and_eq_true, Nat.beq_eq, Nat.ble_eq] at h ⊢; omega) rfl))), trivial, H⟩
  clear H
  rintro _ τ w H
  repeat' (first | (refine zA ?_; first | refine zB ?_ | refine zC H ?_ | refine zD H ?_ | refine zE H fun _ _ H => ?_ | refine zF H fun _ _ H => ?_ | refine zG H fun _ H => ?_ | refine zH H fun _ H => ?_) | (refine zI ?_; first | refine zJ ?_ | refine zK ?_ | refine zL ?_ | refine CW.seqDc ?_ | refine CW.seqDb ?_ | refine CW.seqDl ?_ | refine CW.seqDs ?_ | refine CW.seqDk ?_ | refine zN ?_ | refine zO ?_ | refine zP ?_ | refine zQ ?_ | refine zR ?_) | refine zS ?_)
  refine OpsW.call rfl rfl rfl (mak_holes H (tF_N n hn6 op hop5 r) n) ?_
  rintro _ w ⟨ha, hc, rfl, H⟩
  replace H := H.drop
  have hL := tF_h n hn6 op hop5 r
  unfold hlT at hL
  rw [hL]
  repeat' (first | (refine zA ?_; first | refine zB ?_ | refine zC H ?_ | refine zD H ?_ | refine zE H fun _ _ H => ?_ | refine zF H fun _ _ H => ?_ | refine zG H fun _ H => ?_ | refine zH H fun _ H => ?_) | (refine zI ?_; first | refine zJ ?_ | refine zK ?_ | refine zL ?_ | refine CW.seqDc ?_ | refine CW.seqDb ?_ | refine CW.seqDl ?_ | refine CW.seqDs ?_ | refine CW.seqDk ?_ | refine zN ?_ | refine zO ?_ | refine zP ?_ | refine zQ ?_ | refine zR ?_) | refine zS ?_)
  have hse := mak_seal H (tF_N n hn6 op hop5 r) hM op
  rw [tF_e n hn6 op hop5 r, eA_0, show (tF n op r).sealS op = tG n op r by with_unfolding_all rfl] at hse
  refine OpsW.call rfl rfl rfl hse ?_
  rintro _ w ⟨rfl, H⟩
  clear hse
  repeat' (first | (refine zA ?_; first | refine zB ?_ | refine zC H ?_ | refine zD H ?_ | refine zE H fun _ _ H => ?_ | refine zF H fun _ _ H => ?_ | refine zG H fun _ H => ?_ | refine zH H fun _ H => ?_) | (refine zI ?_; first | refine zJ ?_ | refine zK ?_ | refine zL ?_ | refine CW.seqDc ?_ | refine CW.seqDb ?_ | refine CW.seqDl ?_ | refine CW.seqDs ?_ | refine CW.seqDk ?_ | refine zN ?_ | refine zO ?_ | refine zP ?_ | refine zQ ?_ | refine zR ?_) | refine zS ?_)
  refine OpsW.call rfl rfl rfl (mak_holes H (tG_N n hn6 op hop5 r) n) ?_
  rintro _ w ⟨ha2, hc2, rfl, H⟩
  replace H := H.drop
  repeat' (first | (refine zA ?_; first | refine zB ?_ | refine zC H ?_ | refine zD H ?_ | refine zE H fun _ _ H => ?_ | refine zF H fun _ _ H => ?_ | refine zG H fun _ H => ?_ | refine zH H fun _ H => ?_) | (refine zI ?_; first | refine zJ ?_ | refine zK ?_ | refine zL ?_ | refine CW.seqDc ?_ | refine CW.seqDb ?_ | refine CW.seqDl ?_ | refine CW.seqDs ?_ | refine CW.seqDk ?_ | refine zN ?_ | refine zO ?_ | refine zP ?_ | refine zQ ?_ | refine zR ?_) | refine zS ?_)
  have h1 := tG_h n hn6 op hop5 r
  unfold hlT at h1
  rw [h1, beq_self_eq_true]
  repeat' (first | (refine zA ?_; first | refine zB ?_ | refine zC H ?_ | refine zD H ?_ | refine zE H fun _ _ H => ?_ | refine zF H fun _ _ H => ?_ | refine zG H fun _ H => ?_ | refine zH H fun _ H => ?_) | (refine zI ?_; first | refine zJ ?_ | refine zK ?_ | refine zL ?_ | refine CW.seqDc ?_ | refine CW.seqDb ?_ | refine CW.seqDl ?_ | refine CW.seqDs ?_ | refine CW.seqDk ?_ | refine zN ?_ | refine zO ?_ | refine zP ?_ | refine zQ ?_ | refine zR ?_) | refine zS ?_)
  refine OpsW.call rfl rfl rfl (mak_holes H (tG_N n hn6 op hop5 r) op) ?_
  rintro _ w ⟨ha3, hc3, rfl, H⟩
  replace H := H.drop
  repeat' (first | (refine zA ?_; first | refine zB ?_ | refine zC H ?_ | refine zD H ?_ | refine zE H fun _ _ H => ?_ | refine zF H fun _ _ H => ?_ | refine zG H fun _ H => ?_ | refine zH H fun _ H => ?_) | (refine zI ?_; first | refine zJ ?_ | refine zK ?_ | refine zL ?_ | refine CW.seqDc ?_ | refine CW.seqDb ?_ | refine CW.seqDl ?_ | refine CW.seqDs ?_ | refine CW.seqDk ?_ | refine zN ?_ | refine zO ?_ | refine zP ?_ | refine zQ ?_ | refine zR ?_) | refine zS ?_)
  have h2 := tG_o n hn6 op hop5 r
  unfold hlT at h2
  rw [h2, beq_self_eq_true]
  repeat' (first | (refine zA ?_; first | refine zB ?_ | refine zC H ?_ | refine zD H ?_ | refine zE H fun _ _ H => ?_ | refine zF H fun _ _ H => ?_ | refine zG H fun _ H => ?_ | refine zH H fun _ H => ?_) | (refine zI ?_; first | refine zJ ?_ | refine zK ?_ | refine zL ?_ | refine CW.seqDc ?_ | refine CW.seqDb ?_ | refine CW.seqDl ?_ | refine CW.seqDs ?_ | refine CW.seqDk ?_ | refine zN ?_ | refine zO ?_ | refine zP ?_ | refine zQ ?_ | refine zR ?_) | refine zS ?_)
  exact ret1 rfl ⟨rfl, H.drop⟩
end Go.Proofs.YtbmfpkpcljihgaaDoor.X
