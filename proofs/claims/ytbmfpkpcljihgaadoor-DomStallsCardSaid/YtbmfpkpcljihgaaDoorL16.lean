/- The law DomStalls of chapter 16, walked; conditions: none. -/
import Derived.Test.YtbmfpkpcljihgaaDoorAD
import Derived.Test.YtbmfpkpcljihgaaDoorAN
import Derived.Test.YtbmfpkpcljihgaaDoorSM
namespace Go.Proofs.YtbmfpkpcljihgaaDoor.X
open Go Go.Proofs
set_option linter.unusedSimpArgs false
set_option linter.unusedVariables false
/-- Domains that are there, some of those who wait. -/
def dsM (N c : Nat) (d : Nat → Dm) (q : Nat → List Int) : Ds := ⟨N, mF c, d, q⟩
def qO (o : List Int) (f : Nat → Int) (a : Nat) : List Int := o.filter fun x => f x.toNat == (a : Int)
section
variable {N c : Nat} {d : Nat → Dm} {q : Nat → List Int} {o : List Int} {f : Nat → Int}
theorem dsM_0 (N : Nat) : Ds.new N = dsM N 0 (fun _ => Dm.z) (fun _ => []) := by
  unfold Ds.new dsM
  congr 1
theorem dsM_make (N c : Nat) (d : Nat → Dm) (q : Nat → List Int) : (dsM N c d q).make c = dsM N (c + 1) (fun j => if j = c then Dm.n else d j) q := by
  unfold Ds.make dsM
  dsimp only
  rw [mF_up]
theorem dsM_N : (dsM N c d q).N = N := rfl
theorem dsM_d {i : Nat} : (dsM N c d q).d i = d i := rfl
theorem dsM_q : (dsM N c d q).q = q := rfl
theorem dsM_free : ((dsM N c d q).f c).free = true := by
  show (mF c c).free = true
  rw [mF_ge (Nat.le_refl c)]; rfl
theorem dsM_taken {j : Nat} (hj : j < c) : ((dsM N c d q).f j).free = false := by
  show (mF c j).free = false
  rw [mF_lt hj]; rfl
theorem dsM_ver : ((dsM N c d q).f c).ver = 0 := by
  show (mF c c).ver = 0
  rw [mF_ge (Nat.le_refl c)]
theorem dsM_on {i : Nat} (hi : i < N) (hc : i < c) : (dsM N c d q).on i = true := by
  show onN N (mF c) i = true
  rw [onN_nat hi, mF_lt hc]
theorem dsM_quit {x : Int} : (dsM N c d q).quit x = dsM N c d fun j => (q j).erase x := rfl
theorem dsM_setQ {i : Nat} {l : List Int} : (dsM N c d q).setQ i l = dsM N c d fun j => if j = i then l else q j := rfl
theorem dsM_callers {i : Nat} (hi : i < N) (hc : i < c) : (dsM N c d q).callers i = q i := if_pos (dsM_on hi hc)
theorem dsM_wake {i : Nat} (hi : i < N) (hc : i < c) : (dsM N c d q).wake i = dsM N c d fun j => if j = i then [] else q j := if_pos (dsM_on hi hc)
/-- What holds of the order and of whom each waits for. -/
structure SO (o : List Int) (f : Nat → Int) : Prop where
  rng : ∀ x ∈ o, ∃ k : Nat, k < 6 ∧ x = k
  nd : o.Nodup
  mem : ∀ j : Nat, j < 6 → 0 ≤ f j → (j : Int) ∈ o
theorem so_0 : SO [] fun _ => -1 := ⟨fun x h => absurd h (by simp), List.nodup_nil, fun j hj h => absurd h (by decide)⟩
def oN (o : List Int) (b : Nat) : List Int := o.filter fun x => x != (b : Int)
def fN (f : Nat → Int) (a b j : Nat) : Int := if j = b then (a : Int) else f j
theorem so_next {a b : Nat} (ha : a < 6) (hb : b < 6) (h : SO o f) : SO (oN o b ++ [(b : Int)]) (fN f a b) := by
  refine ⟨fun x hx => ?_, ?_, fun j hj h0 => ?_⟩
  · rcases List.mem_append.1 hx with h1 | h1
    · exact h.rng x (List.mem_filter.1 h1).1
    · rw [List.mem_singleton.1 h1]; exact ⟨b, hb, rfl⟩
  · rw [List.nodup_append]
    refine ⟨h.nd.filter _, by simp, fun x hx y hy => ?_⟩
    rw [List.mem_singleton.1 hy]
    have := (List.mem_filter.1 hx).2
    simpa using this
  · by_cases e : j = b
    · subst e; simp
    · have h1 : 0 ≤ f j := by have := h0; unfold fN at this; rw [if_neg e] at this; exact this
      refine List.mem_append.2 (.inl (List.mem_filter.2 ⟨h.mem j hj h1, ?_⟩))
      simp; omega
theorem qO_has {a b : Nat} (hb : b < 6) (h : SO o f) : (qO o f a).contains (b : Int) = (f b == (a : Int)) := by
  cases e : (f b == (a : Int)) with
  | true =>
    have e2 : f b = a := eq_of_beq e
    rw [List.contains_iff_mem.2]
    exact List.mem_filter.2 ⟨h.mem b hb (by omega), e⟩
  | false =>
    have : ¬ (b : Int) ∈ qO o f a := fun hm => by
      have := (List.mem_filter.1 hm).2
      rw [show ((b : Int)).toNat = b from rfl, e] at this
      cases this
    simpa using this
theorem so_stallB {a b : Nat} (ha : a < 6) (hb : b < 6) (h : SO o f) : (dsM 6 6 d (qO o f)).stallB a b = (f b != (a : Int)) := by
  unfold Ds.stallB
  rw [dsM_on ha ha, dsM_on hb hb, show ((dsM 6 6 d (qO o f)).q (a : Int).toNat) = qO o f a from rfl, qO_has hb h]
  rfl
theorem qO_next {a b : Nat} (hb : b < 6) (h : SO o f) (hne : f b ≠ a) (j : Nat) : (if j = a then (qO o f a).erase (b : Int) ++ [(b : Int)] else (qO o f j).erase (b : Int)) = qO (oN o b ++ [(b : Int)]) (fN f a b) j := by
  have he : ∀ j, (qO o f j).erase (b : Int) = (oN o b).filter fun x => fN f a b x.toNat == (j : Int) := fun j => by
    unfold qO oN
    rw [List.Nodup.erase_eq_filter (h.nd.filter _), List.filter_filter, List.filter_filter]
    refine List.filter_congr fun x hx => ?_
    obtain ⟨k, hk, rfl⟩ := h.rng x hx
    rw [show ((k : Int)).toNat = k from rfl]
    unfold fN
    by_cases e : k = b
    · subst e; simp
    · rw [if_neg e, Bool.and_comm]
  unfold qO at *
  rw [List.filter_append, ← he j]
  by_cases e : j = a
  · subst e
    rw [if_pos rfl]
    congr 1
    simp [fN]
  · rw [if_neg e]
    have : ([(b : Int)].filter fun x => fN f a b x.toNat == (j : Int)) = [] := by
      simp [fN]; omega
    rw [this, List.append_nil]
theorem so_stall {a b : Nat} (ha : a < 6) (hb : b < 6) (h : SO o f) (hne : f b ≠ a) : (dsM 6 6 d (qO o f)).stall a b = dsM 6 6 d (qO (oN o b ++ [(b : Int)]) (fN f a b)) := by
  unfold Ds.stall
  rw [so_stallB ha hb h, if_pos (by simpa using hne), dsM_quit, dsM_setQ]
  unfold dsM
  congr 1
  funext j
  exact qO_next hb h hne j
theorem so_uniq {b : Nat} : ∀ i j, i < 6 → j < 6 → (b : Int) ∈ qO o f i → (b : Int) ∈ qO o f j → i = j := fun i j _ _ h1 h2 => by
  have e1 := eq_of_beq (List.mem_filter.1 h1).2
  have e2 := eq_of_beq (List.mem_filter.1 h2).2
  omega
theorem qO_len (j : Nat) : (qO o f j).length ≤ o.length := List.length_filter_le _ _
theorem fl_up (p : Int → Bool) {k : Nat} (hk : k < o.length) : (o.take (k + 1)).filter p = if p o[k] = true then (o.take k).filter p ++ [o[k]] else (o.take k).filter p := by
  rw [List.take_succ_eq_append_getElem hk, List.filter_append]
  cases h : p o[k] <;> simp [h]
end
theorem qO_0 {f : Nat → Int} : (fun _ => []) = qO [] f := by funext j; rfl
def ofc (f : Nat → Int) : List Value := mk 6 fun j => .int .i64 (f j)
theorem ofc_get {f : Nat → Int} {i : Nat} (hi : i < 6) : (ofc f)[i]? = some (.int .i64 (f i)) := mk_get? hi
theorem ofc_len (f : Nat → Int) : (ofc f).length = 6 := mk_length
theorem ofc_set {f : Nat → Int} {a b : Nat} : (ofc f).set (0 + b * 1) (.int .i64 (a : Int)) = ofc (fN f a b) := by
  unfold ofc
  rw [Nat.zero_add, Nat.mul_one, mk_set]
  refine mk_congr fun j hj => ?_
  unfold fN
  by_cases e : j = b
  · rw [if_pos e, if_pos e]
  · rw [if_neg e, if_neg e]
theorem ofc_0 : ofc (fun _ => -1) = [.int .i64 (-1), .int .i64 (-1), .int .i64 (-1), .int .i64 (-1), .int .i64 (-1), .int .i64 (-1)] := rfl
theorem slr_ofc {As : List HP} {b : Nat} {E : TypeId} (f : Nat → Int) : SlR (blk b E (ofc f) :: As) (.slice (some ⟨b, 0, none⟩) 6 6) 1 6 (ofc f) := by
  have := SlR.of_blk (As := As) (b := b) (E := E) (r := []) (n := 6) (cap := 6) (sz := 1) (c := ofc f) (ofc_len _) (Nat.le_refl _)
  rwa [List.append_nil] at this
attribute [local irreducible] CW OpsW RetW Spec blk snap DrawP AnyW AnyM AnyN bits IntKind.wrap vec arena eA queue Dm.c dms qps domP dsM ofc qO
section
variable {z w : World} {Rs As : List HP} {bd : Nat} {s : Ds} {ads : List Addr}
theorem first16_ (H : Sat z w As) {te : TypeId} {ve : Value} (hE : GlobV As 3 (.iface te ve)) : Spec cf 10 #[] w fun e w' => e = .bool true ∧ Sat z w' As := by
  refine enter (l := []) Tryd.func10 rfl rfl rfl rfl rfl ?_
  repeat' (first | (refine zA ?_; first | refine zB ?_ | refine zC H ?_ | refine zD H ?_ | refine zE H fun _ _ H => ?_ | refine zF H fun _ _ H => ?_ | refine zG H fun _ H => ?_ | refine zH H fun _ H => ?_) | (refine zI ?_; first | refine zJ ?_ | refine zK ?_ | refine zL ?_ | refine CW.seqDc ?_ | refine CW.seqDb ?_ | refine CW.seqDl ?_ | refine CW.seqDs ?_ | refine CW.seqDk ?_ | refine zN ?_ | refine zO ?_ | refine zP ?_ | refine zQ ?_ | refine zR ?_) | refine zS ?_)
  refine OpsW.call rfl rfl rfl (dom_new H 3 (by decide) (by decide)) ?_
  rintro _ w ⟨bd, rfl, H⟩
  rw [dsM_0] at H
  repeat' (first | (refine zA ?_; first | refine zB ?_ | refine zC H ?_ | refine zD H ?_ | refine zE H fun _ _ H => ?_ | refine zF H fun _ _ H => ?_ | refine zG H fun _ H => ?_ | refine zH H fun _ H => ?_) | (refine zI ?_; first | refine zJ ?_ | refine zK ?_ | refine zL ?_ | refine CW.seqDc ?_ | refine CW.seqDb ?_ | refine CW.seqDl ?_ | refine CW.seqDs ?_ | refine CW.seqDk ?_ | refine zN ?_ | refine zO ?_ | refine zP ?_ | refine zQ ?_ | refine zR ?_) | refine zS ?_)
  have hmk := dom_make H (by rw [dsM_N]; decide) hE 0 (by rw [dsM_N]; decide) dsM_free (fun j hj => dsM_taken hj)
  rw [dsM_ver, dsM_make] at hmk
  refine OpsW.call rfl rfl rfl hmk ?_
  rintro _ w ⟨rfl, H⟩
  clear hmk
  repeat' (first | (refine zA ?_; first | refine zB ?_ | refine zC H ?_ | refine zD H ?_ | refine zE H fun _ _ H => ?_ | refine zF H fun _ _ H => ?_ | refine zG H fun _ H => ?_ | refine zH H fun _ H => ?_) | (refine zI ?_; first | refine zJ ?_ | refine zK ?_ | refine zL ?_ | refine CW.seqDc ?_ | refine CW.seqDb ?_ | refine CW.seqDl ?_ | refine CW.seqDs ?_ | refine CW.seqDk ?_ | refine zN ?_ | refine zO ?_ | refine zP ?_ | refine zQ ?_ | refine zR ?_) | refine zS ?_)
  refine OpsW.call rfl rfl rfl (dom_get H (by rw [dsM_N]; decide) 0 (by rw [dsM_N]; decide) (by with_unfolding_all decide)) ?_
  rintro _ w ⟨rfl, H⟩
  rw [dsM_d, if_pos rfl]
  repeat' (first | (refine zA ?_; first | refine zB ?_ | refine zC H ?_ | refine zD H ?_ | refine zE H fun _ _ H => ?_ | refine zG H fun _ H => ?_ | refine zH H fun _ H => ?_) | (refine zI ?_; first | refine zJ ?_ | refine zK ?_ | refine zL ?_ | refine zM ?_ | refine zN ?_ | refine zO ?_ | refine zP ?_ | refine zQ ?_ | refine zR ?_) | refine zS ?_)
  refine OpsW.alloc (l := Dm.z.c) H rfl rfl ((forceL_eq _ _).trans (congrArg some zero107V)) rfl fun bl w H => ?_
  repeat' (first | (refine zA ?_; first | refine zB ?_ | refine zC H ?_ | refine zD H ?_ | refine zE H fun _ _ H => ?_ | refine zG H fun _ H => ?_ | refine zH H fun _ H => ?_) | (refine zI ?_; first | refine zJ ?_ | refine zK ?_ | refine zL ?_ | refine zM ?_ | refine zN ?_ | refine zO ?_ | refine zP ?_ | refine zQ ?_ | refine zR ?_) | refine zS ?_)
  refine OpsW.strA (vs := Dm.n.c) H p0 rfl rfl (forceL_eq _ _) (Dm.scl _) rfl (Dm.len _) (by rw [Dm.len, Dm.len]; decide) fun w H => ?_
  rw [dm_over] at H
  repeat' (first | (refine zA ?_; first | refine zB ?_ | refine zC H ?_ | refine zD H ?_ | refine zE H fun _ _ H => ?_ | refine zG H fun _ H => ?_ | refine zH H fun _ H => ?_) | (refine zI ?_; first | refine zJ ?_ | refine zK ?_ | refine zL ?_ | refine zM ?_ | refine zN ?_ | refine zO ?_ | refine zP ?_ | refine zQ ?_ | refine zR ?_) | refine zS ?_)
  refine OpsW.ld H p0 rfl rfl rfl rfl (Dm.ldS _) rfl ?_
  repeat' (first | (refine zA ?_; first | refine zB ?_ | refine zC H ?_ | refine zD H ?_ | refine zE H fun _ _ H => ?_ | refine zG H fun _ H => ?_ | refine zH H fun _ H => ?_) | (refine zI ?_; first | refine zJ ?_ | refine zK ?_ | refine zL ?_ | refine zM ?_ | refine zN ?_ | refine zO ?_ | refine zP ?_ | refine zQ ?_ | refine zR ?_) | refine zS ?_)
  exact ret1 rfl ⟨rfl, H.d2⟩
end
set_option maxHeartbeats 4000000 in
set_option maxRecDepth 20000 in
theorem domStalls_ (W : World) (hEs : Errs W 187 [1, 3]) (v : Value) (l : List Int) (hl : l.length ≤ maxLen) (hw : ∀ n ∈ l, (Lit.int .i64 n).wf = true) (hv : SlR [snap W] v 1 l.length (l.map (.int .i64))) (wake : Int) (hww : (Lit.int .i64 wake).wf = true) :
    Spec cf 3 #[v, .int .i64 wake] W fun v w' => v = .bool true ∧ Sat W w' [snap W] := by
  have H := Sat.start W
  obtain ⟨eF, hF⟩ := hEs.get 1 rfl
  obtain ⟨a0, cap0, rfl⟩ := lenW hv
  refine enter (l := [.slice a0 l.length cap0, .int .i64 wake]) Tryd.func3 rfl rfl rfl rfl rfl ?_
  repeat' (first | (refine zA ?_; first | refine zB ?_ | refine zC H ?_ | refine zD H ?_ | refine zE H fun _ _ H => ?_ | refine zF H fun _ _ H => ?_ | refine zG H fun _ H => ?_ | refine zH H fun _ H => ?_) | (refine zI ?_; first | refine zJ ?_ | refine zK ?_ | refine zL ?_ | refine CW.seqDc ?_ | refine CW.seqDb ?_ | refine CW.seqDl ?_ | refine CW.seqDs ?_ | refine CW.seqDk ?_ | refine zN ?_ | refine zO ?_ | refine zP ?_ | refine zQ ?_ | refine zR ?_) | refine zS ?_)
  refine OpsW.call rfl rfl rfl (first16_ H hF) ?_
  rintro _ w ⟨rfl, H⟩
  repeat' (first | (refine zA ?_; first | refine zB ?_ | refine zC H ?_ | refine zD H ?_ | refine zE H fun _ _ H => ?_ | refine zF H fun _ _ H => ?_ | refine zG H fun _ H => ?_ | refine zH H fun _ H => ?_) | (refine zI ?_; first | refine zJ ?_ | refine zK ?_ | refine zL ?_ | refine CW.seqDc ?_ | refine CW.seqDb ?_ | refine CW.seqDl ?_ | refine CW.seqDs ?_ | refine CW.seqDk ?_ | refine zN ?_ | refine zO ?_ | refine zP ?_ | refine zQ ?_ | refine zR ?_) | refine zS ?_)
  by_cases hlen : l.length > 30
  · rw [show decide ((l.length : Int) > 30) = true from decide_eq_true (by omega)]
    repeat' (first | (refine zA ?_; first | refine zB ?_ | refine zC H ?_ | refine zD H ?_ | refine zE H fun _ _ H => ?_ | refine zF H fun _ _ H => ?_ | refine zG H fun _ H => ?_ | refine zH H fun _ H => ?_) | (refine zI ?_; first | refine zJ ?_ | refine zK ?_ | refine zL ?_ | refine CW.seqDc ?_ | refine CW.seqDb ?_ | refine CW.seqDl ?_ | refine CW.seqDs ?_ | refine CW.seqDk ?_ | refine zN ?_ | refine zO ?_ | refine zP ?_ | refine zQ ?_ | refine zR ?_) | refine zS ?_)
    exact ret1 rfl ⟨rfl, H⟩
  rw [show decide ((l.length : Int) > 30) = false from decide_eq_false (by omega)]
  repeat' (first | (refine zA ?_; first | refine zB ?_ | refine zC H ?_ | refine zD H ?_ | refine zE H fun _ _ H => ?_ | refine zF H fun _ _ H => ?_ | refine zG H fun _ H => ?_ | refine zH H fun _ H => ?_) | (refine zI ?_; first | refine zJ ?_ | refine zK ?_ | refine zL ?_ | refine CW.seqDc ?_ | refine CW.seqDb ?_ | refine CW.seqDl ?_ | refine CW.seqDs ?_ | refine CW.seqDk ?_ | refine zN ?_ | refine zO ?_ | refine zP ?_ | refine zQ ?_ | refine zR ?_) | refine zS ?_)
  refine OpsW.call rfl rfl rfl (dom_new H 6 (by decide) (by decide)) ?_
  rintro _ w ⟨bd, rfl, H⟩
  rw [dsM_0] at H
  repeat' (first | (refine zA ?_; first | refine zB ?_ | refine zC H ?_ | refine zD H ?_ | refine zE H fun _ _ H => ?_ | refine zF H fun _ _ H => ?_ | refine zG H fun _ H => ?_ | refine zH H fun _ H => ?_) | (refine zI ?_; first | refine zJ ?_ | refine zK ?_ | refine zL ?_ | refine CW.seqDc ?_ | refine CW.seqDb ?_ | refine CW.seqDl ?_ | refine CW.seqDs ?_ | refine CW.seqDk ?_ | refine zN ?_ | refine zO ?_ | refine zP ?_ | refine zQ ?_ | refine zR ?_) | refine zS ?_)
  refine CW.loopF (X := Nat) (fun j => Nat.beq j 8 || Nat.ble 39 j) (fun i => [(8, .int .i64 (i : Int))]) (fun i w => i ≤ 6 ∧ ∃ d, Sat W w (domP bd (dsM 6 i d fun _ => []) :: [snap W])) (fun i => 6 - i) 0 ⟨rfl, trivial⟩ ⟨Nat.zero_le _, _, H⟩ ?_
  clear H
  rintro i τ w ⟨hi, d, H⟩
  repeat' (first | (refine zA ?_; first | refine zB ?_ | refine zC H ?_ | refine zD H ?_ | refine zE H fun _ _ H => ?_ | refine zF H fun _ _ H => ?_ | refine zG H fun _ H => ?_ | refine zH H fun _ H => ?_) | (refine zI ?_; first | refine zJ ?_ | refine zK ?_ | refine zL ?_ | refine CW.seqDc ?_ | refine CW.seqDb ?_ | refine CW.seqDl ?_ | refine CW.seqDs ?_ | refine CW.seqDk ?_ | refine zN ?_ | refine zO ?_ | refine zP ?_ | refine zQ ?_ | refine zR ?_) | refine zS ?_)
  refine CW.cond rfl (fun h => ?_) (fun h => ?_)
  · have hi' : i < 6 := by have := of_decide_eq_true h; omega
    repeat' (first | (refine zA ?_; first | refine zB ?_ | refine zC H ?_ | refine zD H ?_ | refine zE H fun _ _ H => ?_ | refine zF H fun _ _ H => ?_ | refine zG H fun _ H => ?_ | refine zH H fun _ H => ?_) | (refine zI ?_; first | refine zJ ?_ | refine zK ?_ | refine zL ?_ | refine CW.seqDc ?_ | refine CW.seqDb ?_ | refine CW.seqDl ?_ | refine CW.seqDs ?_ | refine CW.seqDk ?_ | refine zN ?_ | refine zO ?_ | refine zP ?_ | refine zQ ?_ | refine zR ?_) | refine zS ?_)
    have hmk := dom_make H (by rw [dsM_N]; decide) hF i (by rw [dsM_N]; omega) dsM_free (fun j hj => dsM_taken hj)
    rw [dsM_ver, dsM_make] at hmk
    refine OpsW.call rfl rfl rfl hmk ?_
    rintro _ w ⟨rfl, H⟩
    repeat' (first | (refine zA ?_; first | refine zB ?_ | refine zC H ?_ | refine zD H ?_ | refine zE H fun _ _ H => ?_ | refine zF H fun _ _ H => ?_ | refine zG H fun _ H => ?_ | refine zH H fun _ H => ?_) | (refine zI ?_; first | refine zJ ?_ | refine zK ?_ | refine zL ?_ | refine CW.seqDc ?_ | refine CW.seqDb ?_ | refine CW.seqDl ?_ | refine CW.seqDs ?_ | refine CW.seqDk ?_ | refine zN ?_ | refine zO ?_ | refine zP ?_ | refine zQ ?_ | refine zR ?_) | refine zS ?_)
    exact ⟨i + 1, (by (repeat (first | (with_reducible exact Agree.refl _ _) | (with_reducible refine Agree.trim (by assumption) ?_) | refine Agree.upd ?_ rfl | exact Agree.mix' | refine Agree.mixL ?_ (fun j h => by simp only [Bool.or_eq_true, Bool.and_eq_true, Nat.beq_eq, Nat.ble_eq] at h ⊢; omega) rfl))), ⟨nat_succ (n := 6) hi' (by omega), trivial⟩, ⟨hi', _, H⟩, by omega⟩
  have hiN : i = 6 := by have := of_decide_eq_false h; omega
  subst hiN
  clear h hi
  rw [qO_0 (f := fun _ => -1)] at H
  repeat' (first | (refine zA ?_; first | refine zB ?_ | refine zC H ?_ | refine zD H ?_ | refine zE H fun _ _ H => ?_ | refine zF H fun _ _ H => ?_ | refine zG H fun _ H => ?_ | refine zH H fun _ H => ?_) | (refine zI ?_; first | refine zJ ?_ | refine zK ?_ | refine zL ?_ | refine CW.seqDc ?_ | refine CW.seqDb ?_ | refine CW.seqDl ?_ | refine CW.seqDs ?_ | refine CW.seqDk ?_ | refine zN ?_ | refine zO ?_ | refine zP ?_ | refine zQ ?_ | refine zR ?_) | refine zS ?_)
  refine OpsW.bsl H rfl rfl rfl rfl rfl rfl rfl rfl fun bo w H => ?_
  repeat' (first | (refine zA ?_; first | refine zB ?_ | refine zC H ?_ | refine zD H ?_ | refine zE H fun _ _ H => ?_ | refine zF H fun _ _ H => ?_ | refine zG H fun _ H => ?_ | refine zH H fun _ H => ?_) | (refine zI ?_; first | refine zJ ?_ | refine zK ?_ | refine zL ?_ | refine CW.seqDc ?_ | refine CW.seqDb ?_ | refine CW.seqDl ?_ | refine CW.seqDs ?_ | refine CW.seqDk ?_ | refine zN ?_ | refine zO ?_ | refine zP ?_ | refine zQ ?_ | refine zR ?_) | refine zS ?_)
  have H0 : Sat W w (domP bd (dsM 6 6 d (qO [] fun _ => -1)) :: blk bo 3 (ofc fun _ => -1) :: vec 3 none 0 0 1 [] :: [snap W]) := by
    rw [ofc_0]
    exact (Sat.vnil H).perm (by repeat' (first | (with_reducible exact List.Perm.refl _) | (with_reducible refine List.Perm.trans p0 (List.Perm.cons _ ?_)) | (with_reducible refine List.Perm.trans p1 (List.Perm.cons _ ?_)) | (with_reducible refine List.Perm.trans p2 (List.Perm.cons _ ?_)) | (with_reducible refine List.Perm.trans p3 (List.Perm.cons _ ?_)) | (with_reducible refine List.Perm.trans p4 (List.Perm.cons _ ?_)) | (with_reducible refine List.Perm.trans p5 (List.Perm.cons _ ?_)) | (with_reducible refine List.Perm.trans p6 (List.Perm.cons _ ?_)) | (with_reducible refine List.Perm.trans p7 (List.Perm.cons _ ?_)) | (with_reducible refine List.Perm.trans p8 (List.Perm.cons _ ?_)) | (with_reducible refine List.Perm.trans p9 (List.Perm.cons _ ?_)) | (with_reducible refine List.Perm.trans p10 (List.Perm.cons _ ?_)) | (with_reducible refine List.Perm.trans p11 (List.Perm.cons _ ?_))))
  clear H
  have H := H0
  clear H0
  refine CW.loopF (X := Nat × List Int × (Nat → Int) × Option Addr × Nat) (fun j => Nat.beq j 9 || (Nat.ble 11 j && Nat.ble j 15) || Nat.ble 46 j) (fun x => [(11, .int .i64 (x.1 : Int)), (9, .slice x.2.2.2.1 x.2.1.length x.2.2.2.2)]) (fun x w => (x.1 ≤ l.length ∧ x.2.1.length ≤ x.1 ∧ SO x.2.1 x.2.2.1) ∧ Sat W w (domP bd (dsM 6 6 d (qO x.2.1 x.2.2.1)) :: blk bo 3 (ofc x.2.2.1) :: vec 3 x.2.2.2.1 x.2.1.length x.2.2.2.2 1 (x.2.1.map (.int .i64)) :: [snap W])) (fun x => l.length - x.1) (0, [], (fun _ => -1), none, 0) ⟨rfl, rfl, trivial⟩ ⟨⟨Nat.zero_le _, Nat.le_refl _, so_0⟩, H⟩ ?_
  clear H
  rintro ⟨i, o, f, a, cap⟩ τ w ⟨⟨hi, hoi, hO⟩, H⟩
  dsimp only at hi hoi hO H
  repeat' (first | (refine zA ?_; first | refine zB ?_ | refine zC H ?_ | refine zD H ?_ | refine zE H fun _ _ H => ?_ | refine zF H fun _ _ H => ?_ | refine zG H fun _ H => ?_ | refine zH H fun _ H => ?_) | (refine zI ?_; first | refine zJ ?_ | refine zK ?_ | refine zL ?_ | refine CW.seqDc ?_ | refine CW.seqDb ?_ | refine CW.seqDl ?_ | refine CW.seqDs ?_ | refine CW.seqDk ?_ | refine zN ?_ | refine zO ?_ | refine zP ?_ | refine zQ ?_ | refine zR ?_) | refine zS ?_)
  refine CW.cond rfl (fun h => ?_) (fun h => ?_)
  · have hi' : i < l.length := by have := of_decide_eq_true h; dsimp only at this; omega
    have hx : (l.map (Value.int .i64))[i]? = some (.int .i64 l[i]) := by simp [hi']
    repeat' (first | (refine zA ?_; first | refine zB ?_ | refine zC H ?_ | refine zD H ?_ | refine zE H fun _ _ H => ?_ | refine zF H fun _ _ H => ?_ | refine zG H fun _ H => ?_ | refine zH H fun _ H => ?_) | (refine zI ?_; first | refine zJ ?_ | refine zK ?_ | refine zL ?_ | refine CW.seqDc ?_ | refine CW.seqDb ?_ | refine CW.seqDl ?_ | refine CW.seqDs ?_ | refine CW.seqDk ?_ | refine zN ?_ | refine zO ?_ | refine zP ?_ | refine zQ ?_ | refine zR ?_) | refine zS ?_)
    refine OpsW.ixld H hv.tail.tail.tail rfl (fun _ => rfl) rfl rfl rfl rfl rfl rfl rfl rfl hi' hx rfl rfl fun p => ?_
    repeat' (first | (refine zA ?_; first | refine zB ?_ | refine zC H ?_ | refine zD H ?_ | refine zE H fun _ _ H => ?_ | refine zF H fun _ _ H => ?_ | refine zG H fun _ H => ?_ | refine zH H fun _ H => ?_) | (refine zI ?_; first | refine zJ ?_ | refine zK ?_ | refine zL ?_ | refine CW.seqDc ?_ | refine CW.seqDb ?_ | refine CW.seqDl ?_ | refine CW.seqDs ?_ | refine CW.seqDk ?_ | refine zN ?_ | refine zO ?_ | refine zP ?_ | refine zQ ?_ | refine zR ?_) | refine zS ?_)
    refine OpsW.call rfl rfl rfl (number_ _ _ _ H l[i] 6 (by decide) (by decide)) ?_
    rintro _ w ⟨rfl, H⟩
    obtain ⟨x, hx0⟩ := Int.eq_ofNat_of_zero_le (Int.emod_nonneg l[i] (show (6 : Int) ≠ 0 by decide))
    have hx6 : x < 6 := by have := Int.emod_lt_of_pos l[i] (show (0 : Int) < 6 by decide); omega
    rw [hx0]
    repeat' (first | (refine zA ?_; first | refine zB ?_ | refine zC H ?_ | refine zD H ?_ | refine zE H fun _ _ H => ?_ | refine zF H fun _ _ H => ?_ | refine zG H fun _ H => ?_ | refine zH H fun _ H => ?_) | (refine zI ?_; first | refine zJ ?_ | refine zK ?_ | refine zL ?_ | refine CW.seqDc ?_ | refine CW.seqDb ?_ | refine CW.seqDl ?_ | refine CW.seqDs ?_ | refine CW.seqDk ?_ | refine zN ?_ | refine zO ?_ | refine zP ?_ | refine zQ ?_ | refine zR ?_) | refine zS ?_)
    refine OpsW.ixld H hv.tail.tail.tail rfl (fun _ => rfl) rfl rfl rfl rfl rfl rfl rfl rfl hi' hx rfl rfl fun p => ?_
    repeat' (first | (refine zA ?_; first | refine zB ?_ | refine zC H ?_ | refine zD H ?_ | refine zE H fun _ _ H => ?_ | refine zF H fun _ _ H => ?_ | refine zG H fun _ H => ?_ | refine zH H fun _ H => ?_) | (refine zI ?_; first | refine zJ ?_ | refine zK ?_ | refine zL ?_ | refine CW.seqDc ?_ | refine CW.seqDb ?_ | refine CW.seqDl ?_ | refine CW.seqDs ?_ | refine CW.seqDk ?_ | refine zN ?_ | refine zO ?_ | refine zP ?_ | refine zQ ?_ | refine zR ?_) | refine zS ?_)
    refine OpsW.call rfl rfl rfl (number_ _ _ _ H _ 6 (by decide) (by decide)) ?_
    rintro _ w ⟨rfl, H⟩
    obtain ⟨y, hy0⟩ := Int.eq_ofNat_of_zero_le (Int.emod_nonneg (IntKind.wrap .i64 (l[i].tdiv 6)) (show (6 : Int) ≠ 0 by decide))
    have hy6 : y < 6 := by have := Int.emod_lt_of_pos (IntKind.wrap .i64 (l[i].tdiv 6)) (show (0 : Int) < 6 by decide); omega
    rw [hy0]
    clear hx0 hy0
    repeat' (first | (refine zA ?_; first | refine zB ?_ | refine zC H ?_ | refine zD H ?_ | refine zE H fun _ _ H => ?_ | refine zF H fun _ _ H => ?_ | refine zG H fun _ H => ?_ | refine zH H fun _ H => ?_) | (refine zI ?_; first | refine zJ ?_ | refine zK ?_ | refine zL ?_ | refine CW.seqDc ?_ | refine CW.seqDb ?_ | refine CW.seqDl ?_ | refine CW.seqDs ?_ | refine CW.seqDk ?_ | refine zN ?_ | refine zO ?_ | refine zP ?_ | refine zQ ?_ | refine zR ?_) | refine zS ?_)
    have hlen2 : ∀ j, j < (dsM 6 6 d (qO o f)).N → ((dsM 6 6 d (qO o f)).q j).length ≤ 1000 := fun j _ => by rw [dsM_q]; have := qO_len (o := o) (f := f) j; omega
    by_cases hne : f y = (x : Int)
    · have hst : ∀ {w : World} {Rs : List HP}, Sat W w (domP bd (dsM 6 6 d (qO o f)) :: Rs) → Spec cf 14 #[.pointer (some ⟨bd, 0, none⟩), .int .i64 x, .int .i64 y] w fun e w' => e = .bool false ∧ Sat W w' (domP bd (dsM 6 6 d (qO o f)) :: Rs) := fun H => dom_stall_no H (by rw [dsM_N]; decide) x y (fun j hj => by have := hlen2 j hj; omega) (by rw [so_stallB hx6 hy6 hO, hne]; exact bne_self_eq_false _)
      (first | refine CW.drawN mo H fun w H => ?_ | refine CW.seqDrawN mo H fun w H => ?_)
      repeat' (first | refine AnyN.take (i := 0) rfl rfl rfl (by decide +kernel) ?_ | refine AnyN.take (i := 1) rfl rfl rfl (by decide +kernel) ?_ | refine AnyN.take (i := 2) rfl rfl rfl (by decide +kernel) ?_ | refine AnyN.take (i := 3) rfl rfl rfl (by decide +kernel) ?_ | refine AnyN.take (i := 4) rfl rfl rfl (by decide +kernel) ?_ | refine AnyN.take (i := 5) rfl rfl rfl (by decide +kernel) ?_ | refine AnyN.take (i := 6) rfl rfl rfl (by decide +kernel) ?_ | refine AnyN.take (i := 7) rfl rfl rfl (by decide +kernel) ?_ | refine AnyN.take (i := 8) rfl rfl rfl (by decide +kernel) ?_ | refine AnyN.take (i := 9) rfl rfl rfl (by decide +kernel) ?_ | refine AnyN.take (i := 10) rfl rfl rfl (by decide +kernel) ?_ | refine AnyN.take (i := 11) rfl rfl rfl (by decide +kernel) ?_ | refine AnyN.take (i := 12) rfl rfl rfl (by decide +kernel) ?_ | refine AnyN.take (i := 13) rfl rfl rfl (by decide +kernel) ?_ | refine AnyN.take (i := 14) rfl rfl rfl (by decide +kernel) ?_ | refine AnyN.take (i := 15) rfl rfl rfl (by decide +kernel) ?_ | refine AnyN.take (i := 16) rfl rfl rfl (by decide +kernel) ?_ | refine AnyN.take (i := 17) rfl rfl rfl (by decide +kernel) ?_ | refine AnyN.take (i := 18) rfl rfl rfl (by decide +kernel) ?_ | refine AnyN.take (i := 19) rfl rfl rfl (by decide +kernel) ?_ | refine AnyN.take (i := 20) rfl rfl rfl (by decide +kernel) ?_ | refine AnyN.take (i := 21) rfl rfl rfl (by decide +kernel) ?_ | refine AnyN.take (i := 22) rfl rfl rfl (by decide +kernel) ?_ | refine AnyN.take (i := 23) rfl rfl rfl (by decide +kernel) ?_ | refine AnyN.take (i := 24) rfl rfl rfl (by decide +kernel) ?_ | refine AnyN.take (i := 25) rfl rfl rfl (by decide +kernel) ?_ | refine AnyN.take (i := 26) rfl rfl rfl (by decide +kernel) ?_ | refine AnyN.take (i := 27) rfl rfl rfl (by decide +kernel) ?_)
      refine AnyN.takeIx (i := 6) (k := y) rfl rfl rfl rfl rfl rfl rfl rfl rfl hy6 rfl (by decide +kernel) ?_
      have hg : (ofc f)[0 + y * 1]? = some (.int .i64 (x : Int)) := by rw [Nat.zero_add, Nat.mul_one, ofc_get hy6, hne]
      repeat' (first | exact AllI.nil' rfl | refine AllI.cons' rfl rfl ?_ ?_ | (first | refine AnyN.take (i := 0) rfl rfl rfl (by decide +kernel) ?_ | refine AnyN.take (i := 1) rfl rfl rfl (by decide +kernel) ?_ | refine AnyN.take (i := 2) rfl rfl rfl (by decide +kernel) ?_ | refine AnyN.take (i := 3) rfl rfl rfl (by decide +kernel) ?_ | refine AnyN.take (i := 4) rfl rfl rfl (by decide +kernel) ?_ | refine AnyN.take (i := 5) rfl rfl rfl (by decide +kernel) ?_ | refine AnyN.take (i := 6) rfl rfl rfl (by decide +kernel) ?_ | refine AnyN.take (i := 7) rfl rfl rfl (by decide +kernel) ?_ | refine AnyN.take (i := 8) rfl rfl rfl (by decide +kernel) ?_ | refine AnyN.take (i := 9) rfl rfl rfl (by decide +kernel) ?_ | refine AnyN.take (i := 10) rfl rfl rfl (by decide +kernel) ?_ | refine AnyN.take (i := 11) rfl rfl rfl (by decide +kernel) ?_ | refine AnyN.take (i := 12) rfl rfl rfl (by decide +kernel) ?_ | refine AnyN.take (i := 13) rfl rfl rfl (by decide +kernel) ?_ | refine AnyN.take (i := 14) rfl rfl rfl (by decide +kernel) ?_ | refine AnyN.take (i := 15) rfl rfl rfl (by decide +kernel) ?_ | refine AnyN.take (i := 16) rfl rfl rfl (by decide +kernel) ?_ | refine AnyN.take (i := 17) rfl rfl rfl (by decide +kernel) ?_ | refine AnyN.take (i := 18) rfl rfl rfl (by decide +kernel) ?_ | refine AnyN.take (i := 19) rfl rfl rfl (by decide +kernel) ?_ | refine AnyN.take (i := 20) rfl rfl rfl (by decide +kernel) ?_ | refine AnyN.take (i := 21) rfl rfl rfl (by decide +kernel) ?_ | refine AnyN.take (i := 22) rfl rfl rfl (by decide +kernel) ?_ | refine AnyN.take (i := 23) rfl rfl rfl (by decide +kernel) ?_ | refine AnyN.take (i := 24) rfl rfl rfl (by decide +kernel) ?_ | refine AnyN.take (i := 25) rfl rfl rfl (by decide +kernel) ?_ | refine AnyN.take (i := 26) rfl rfl rfl (by decide +kernel) ?_ | refine AnyN.take (i := 27) rfl rfl rfl (by decide +kernel) ?_) | refine AnyN.step rfl rfl ?_ | (refine OpsW.call rfl rfl rfl (hst H) ?_; rintro _ w ⟨rfl, H⟩) | refine OpsW.ld H p1 rfl rfl rfl rfl hg rfl ?_ | (first | (refine zA ?_; first | refine zB ?_ | refine zC H ?_ | refine zD H ?_ | refine zE H fun _ _ H => ?_ | refine zF H fun _ _ H => ?_ | refine zG H fun _ H => ?_ | refine zH H fun _ H => ?_) | (refine zI ?_; first | refine zJ ?_ | refine zK ?_ | refine zL ?_ | refine zM ?_ | refine zN ?_ | refine zO ?_ | refine zP ?_ | refine zQ ?_ | refine zR ?_) | refine zS ?_))
      all_goals
        refine AnyN.done rfl ?_
        rw [show ((x : Int) != (x : Int)) = false from bne_self_eq_false _]
        repeat' (first | (refine zA ?_; first | refine zB ?_ | refine zC H ?_ | refine zD H ?_ | refine zE H fun _ _ H => ?_ | refine zF H fun _ _ H => ?_ | refine zG H fun _ H => ?_ | refine zH H fun _ H => ?_) | (refine zI ?_; first | refine zJ ?_ | refine zK ?_ | refine zL ?_ | refine CW.seqDc ?_ | refine CW.seqDb ?_ | refine CW.seqDl ?_ | refine CW.seqDs ?_ | refine CW.seqDk ?_ | refine zN ?_ | refine zO ?_ | refine zP ?_ | refine zQ ?_ | refine zR ?_) | refine zS ?_)
        refine OpsW.ixld (H.perm p1) (slr_ofc _) rfl (fun _ => rfl) rfl rfl rfl rfl rfl rfl rfl rfl hy6 (ofc_get hy6) rfl rfl fun p => ?_
        rw [hne]
        repeat' (first | (refine zA ?_; first | refine zB ?_ | refine zC H ?_ | refine zD H ?_ | refine zE H fun _ _ H => ?_ | refine zF H fun _ _ H => ?_ | refine zG H fun _ H => ?_ | refine zH H fun _ H => ?_) | (refine zI ?_; first | refine zJ ?_ | refine zK ?_ | refine zL ?_ | refine CW.seqDc ?_ | refine CW.seqDb ?_ | refine CW.seqDl ?_ | refine CW.seqDs ?_ | refine CW.seqDk ?_ | refine zN ?_ | refine zO ?_ | refine zP ?_ | refine zQ ?_ | refine zR ?_) | refine zS ?_)
        rw [show ((x : Int) != (x : Int)) = false from bne_self_eq_false _]
        repeat' (first | (refine zA ?_; first | refine zB ?_ | refine zC H ?_ | refine zD H ?_ | refine zE H fun _ _ H => ?_ | refine zF H fun _ _ H => ?_ | refine zG H fun _ H => ?_ | refine zH H fun _ H => ?_) | (refine zI ?_; first | refine zJ ?_ | refine zK ?_ | refine zL ?_ | refine CW.seqDc ?_ | refine CW.seqDb ?_ | refine CW.seqDl ?_ | refine CW.seqDs ?_ | refine CW.seqDk ?_ | refine zN ?_ | refine zO ?_ | refine zP ?_ | refine zQ ?_ | refine zR ?_) | refine zS ?_)
        exact ⟨(i + 1, o, f, a, cap), (by (repeat (first | (with_reducible exact Agree.refl _ _) | (with_reducible refine Agree.trim (by assumption) ?_) | refine Agree.upd ?_ rfl | exact Agree.mix' | refine Agree.mixL ?_ (fun j h => by simp only [Bool.or_eq_true, Bool.and_eq_true, Nat.beq_eq, Nat.ble_eq] at h ⊢; omega) rfl))), ⟨nat_succ hi' (by omega), rfl, trivial⟩, ⟨⟨hi', by show o.length ≤ i + 1; omega, hO⟩, H⟩, by show l.length - (i + 1) < l.length - i; omega⟩
    · have hb : (f y != (x : Int)) = true := by simpa using hne
      have hst : ∀ {w : World} {Rs : List HP}, Sat W w (domP bd (dsM 6 6 d (qO o f)) :: Rs) → Spec cf 14 #[.pointer (some ⟨bd, 0, none⟩), .int .i64 x, .int .i64 y] w fun e w' => e = .bool true ∧ Sat W w' (domP bd (dsM 6 6 d (qO (oN o y ++ [(y : Int)]) (fN f x y))) :: Rs) := fun H => by
        have := dom_stall H (by rw [dsM_N]; decide) x y hlen2 (by rw [dsM_N, dsM_q]; exact so_uniq) (by rw [so_stallB hx6 hy6 hO]; exact hb)
        rw [so_stall hx6 hy6 hO hne] at this
        exact this
      have hg : (ofc f)[0 + y * 1]? = some (.int .i64 (f y)) := by rw [Nat.zero_add, Nat.mul_one, ofc_get hy6]
      (first | refine CW.drawN mo H fun w H => ?_ | refine CW.seqDrawN mo H fun w H => ?_)
      repeat' (first | refine AnyN.take (i := 0) rfl rfl rfl (by decide +kernel) ?_ | refine AnyN.take (i := 1) rfl rfl rfl (by decide +kernel) ?_ | refine AnyN.take (i := 2) rfl rfl rfl (by decide +kernel) ?_ | refine AnyN.take (i := 3) rfl rfl rfl (by decide +kernel) ?_ | refine AnyN.take (i := 4) rfl rfl rfl (by decide +kernel) ?_ | refine AnyN.take (i := 5) rfl rfl rfl (by decide +kernel) ?_ | refine AnyN.take (i := 6) rfl rfl rfl (by decide +kernel) ?_ | refine AnyN.take (i := 7) rfl rfl rfl (by decide +kernel) ?_ | refine AnyN.take (i := 8) rfl rfl rfl (by decide +kernel) ?_ | refine AnyN.take (i := 9) rfl rfl rfl (by decide +kernel) ?_ | refine AnyN.take (i := 10) rfl rfl rfl (by decide +kernel) ?_ | refine AnyN.take (i := 11) rfl rfl rfl (by decide +kernel) ?_ | refine AnyN.take (i := 12) rfl rfl rfl (by decide +kernel) ?_ | refine AnyN.take (i := 13) rfl rfl rfl (by decide +kernel) ?_ | refine AnyN.take (i := 14) rfl rfl rfl (by decide +kernel) ?_ | refine AnyN.take (i := 15) rfl rfl rfl (by decide +kernel) ?_ | refine AnyN.take (i := 16) rfl rfl rfl (by decide +kernel) ?_ | refine AnyN.take (i := 17) rfl rfl rfl (by decide +kernel) ?_ | refine AnyN.take (i := 18) rfl rfl rfl (by decide +kernel) ?_ | refine AnyN.take (i := 19) rfl rfl rfl (by decide +kernel) ?_ | refine AnyN.take (i := 20) rfl rfl rfl (by decide +kernel) ?_ | refine AnyN.take (i := 21) rfl rfl rfl (by decide +kernel) ?_ | refine AnyN.take (i := 22) rfl rfl rfl (by decide +kernel) ?_ | refine AnyN.take (i := 23) rfl rfl rfl (by decide +kernel) ?_ | refine AnyN.take (i := 24) rfl rfl rfl (by decide +kernel) ?_ | refine AnyN.take (i := 25) rfl rfl rfl (by decide +kernel) ?_ | refine AnyN.take (i := 26) rfl rfl rfl (by decide +kernel) ?_ | refine AnyN.take (i := 27) rfl rfl rfl (by decide +kernel) ?_)
      refine AnyN.takeIx (i := 6) (k := y) rfl rfl rfl rfl rfl rfl rfl rfl rfl hy6 rfl (by decide +kernel) ?_
      repeat' (first | exact AllI.nil' rfl | refine AllI.cons' rfl rfl ?_ ?_ | (first | refine AnyN.take (i := 0) rfl rfl rfl (by decide +kernel) ?_ | refine AnyN.take (i := 1) rfl rfl rfl (by decide +kernel) ?_ | refine AnyN.take (i := 2) rfl rfl rfl (by decide +kernel) ?_ | refine AnyN.take (i := 3) rfl rfl rfl (by decide +kernel) ?_ | refine AnyN.take (i := 4) rfl rfl rfl (by decide +kernel) ?_ | refine AnyN.take (i := 5) rfl rfl rfl (by decide +kernel) ?_ | refine AnyN.take (i := 6) rfl rfl rfl (by decide +kernel) ?_ | refine AnyN.take (i := 7) rfl rfl rfl (by decide +kernel) ?_ | refine AnyN.take (i := 8) rfl rfl rfl (by decide +kernel) ?_ | refine AnyN.take (i := 9) rfl rfl rfl (by decide +kernel) ?_ | refine AnyN.take (i := 10) rfl rfl rfl (by decide +kernel) ?_ | refine AnyN.take (i := 11) rfl rfl rfl (by decide +kernel) ?_ | refine AnyN.take (i := 12) rfl rfl rfl (by decide +kernel) ?_ | refine AnyN.take (i := 13) rfl rfl rfl (by decide +kernel) ?_ | refine AnyN.take (i := 14) rfl rfl rfl (by decide +kernel) ?_ | refine AnyN.take (i := 15) rfl rfl rfl (by decide +kernel) ?_ | refine AnyN.take (i := 16) rfl rfl rfl (by decide +kernel) ?_ | refine AnyN.take (i := 17) rfl rfl rfl (by decide +kernel) ?_ | refine AnyN.take (i := 18) rfl rfl rfl (by decide +kernel) ?_ | refine AnyN.take (i := 19) rfl rfl rfl (by decide +kernel) ?_ | refine AnyN.take (i := 20) rfl rfl rfl (by decide +kernel) ?_ | refine AnyN.take (i := 21) rfl rfl rfl (by decide +kernel) ?_ | refine AnyN.take (i := 22) rfl rfl rfl (by decide +kernel) ?_ | refine AnyN.take (i := 23) rfl rfl rfl (by decide +kernel) ?_ | refine AnyN.take (i := 24) rfl rfl rfl (by decide +kernel) ?_ | refine AnyN.take (i := 25) rfl rfl rfl (by decide +kernel) ?_ | refine AnyN.take (i := 26) rfl rfl rfl (by decide +kernel) ?_ | refine AnyN.take (i := 27) rfl rfl rfl (by decide +kernel) ?_) | refine AnyN.step rfl rfl ?_ | (refine OpsW.call rfl rfl rfl (hst H) ?_; rintro _ w ⟨rfl, H⟩) | refine OpsW.ld H p1 rfl rfl rfl rfl hg rfl ?_ | (first | (refine zA ?_; first | refine zB ?_ | refine zC H ?_ | refine zD H ?_ | refine zE H fun _ _ H => ?_ | refine zF H fun _ _ H => ?_ | refine zG H fun _ H => ?_ | refine zH H fun _ H => ?_) | (refine zI ?_; first | refine zJ ?_ | refine zK ?_ | refine zL ?_ | refine zM ?_ | refine zN ?_ | refine zO ?_ | refine zP ?_ | refine zQ ?_ | refine zR ?_) | refine zS ?_))
      all_goals
        refine AnyN.done rfl ?_
        rw [hb]
        repeat' (first | (refine zA ?_; first | refine zB ?_ | refine zC H ?_ | refine zD H ?_ | refine zE H fun _ _ H => ?_ | refine zF H fun _ _ H => ?_ | refine zG H fun _ H => ?_ | refine zH H fun _ H => ?_) | (refine zI ?_; first | refine zJ ?_ | refine zK ?_ | refine zL ?_ | refine CW.seqDc ?_ | refine CW.seqDb ?_ | refine CW.seqDl ?_ | refine CW.seqDs ?_ | refine CW.seqDk ?_ | refine zN ?_ | refine zO ?_ | refine zP ?_ | refine zQ ?_ | refine zR ?_) | refine zS ?_)
        refine OpsW.ixld (H.perm p1) (slr_ofc _) rfl (fun _ => rfl) rfl rfl rfl rfl rfl rfl rfl rfl hy6 (ofc_get hy6) rfl rfl fun p => ?_
        repeat' (first | (refine zA ?_; first | refine zB ?_ | refine zC H ?_ | refine zD H ?_ | refine zE H fun _ _ H => ?_ | refine zF H fun _ _ H => ?_ | refine zG H fun _ H => ?_ | refine zH H fun _ H => ?_) | (refine zI ?_; first | refine zJ ?_ | refine zK ?_ | refine zL ?_ | refine CW.seqDc ?_ | refine CW.seqDb ?_ | refine CW.seqDl ?_ | refine CW.seqDs ?_ | refine CW.seqDk ?_ | refine zN ?_ | refine zO ?_ | refine zP ?_ | refine zQ ?_ | refine zR ?_) | refine zS ?_)
        rw [hb]
        repeat' (first | (refine zA ?_; first | refine zB ?_ | refine zC H ?_ | refine zD H ?_ | refine zE H fun _ _ H => ?_ | refine zF H fun _ _ H => ?_ | refine zG H fun _ H => ?_ | refine zH H fun _ H => ?_) | (refine zI ?_; first | refine zJ ?_ | refine zK ?_ | refine zL ?_ | refine CW.seqDc ?_ | refine CW.seqDb ?_ | refine CW.seqDl ?_ | refine CW.seqDs ?_ | refine CW.seqDk ?_ | refine zN ?_ | refine zO ?_ | refine zP ?_ | refine zQ ?_ | refine zR ?_) | refine zS ?_)
        refine OpsW.ix (n := y) rfl rfl rfl rfl rfl rfl rfl hy6 rfl ?_
        refine OpsW.str H p1 rfl rfl rfl rfl rfl rfl (by rw [ofc_len]; omega) fun w H => ?_
        rw [ofc_set] at H
        repeat' (first | (refine zA ?_; first | refine zB ?_ | refine zC H ?_ | refine zD H ?_ | refine zE H fun _ _ H => ?_ | refine zF H fun _ _ H => ?_ | refine zG H fun _ H => ?_ | refine zH H fun _ H => ?_) | (refine zI ?_; first | refine zJ ?_ | refine zK ?_ | refine zL ?_ | refine CW.seqDc ?_ | refine CW.seqDb ?_ | refine CW.seqDl ?_ | refine CW.seqDs ?_ | refine CW.seqDk ?_ | refine zN ?_ | refine zO ?_ | refine zP ?_ | refine zQ ?_ | refine zR ?_) | refine zS ?_)
        obtain ⟨T, hT, hS, H⟩ := Sat.vopen (H.perm p2)
        refine CW.loopF (X := Nat × Option Addr × Nat) (fun j => Nat.ble 14 j && Nat.ble j 15 || Nat.ble 84 j) (fun s => [(15, .int .i64 (s.1 : Int)), (14, .slice s.2.1 ((o.take s.1).filter fun u => u != (y : Int)).length s.2.2)]) (fun s w => s.1 ≤ o.length ∧ Sat W w (vec 3 s.2.1 ((o.take s.1).filter fun u => u != (y : Int)).length s.2.2 1 (((o.take s.1).filter fun u => u != (y : Int)).map (.int .i64)) :: T :: blk bo 3 (ofc (fN f x y)) :: domP bd (dsM 6 6 d (qO (oN o y ++ [(y : Int)]) (fN f x y))) :: [snap W])) (fun s => o.length - s.1) (0, none, 0) ⟨rfl, rfl, trivial⟩ ⟨Nat.zero_le _, (Sat.vnil H).perm (by repeat' (first | (with_reducible exact List.Perm.refl _) | (with_reducible refine List.Perm.trans p0 (List.Perm.cons _ ?_)) | (with_reducible refine List.Perm.trans p1 (List.Perm.cons _ ?_)) | (with_reducible refine List.Perm.trans p2 (List.Perm.cons _ ?_)) | (with_reducible refine List.Perm.trans p3 (List.Perm.cons _ ?_)) | (with_reducible refine List.Perm.trans p4 (List.Perm.cons _ ?_)) | (with_reducible refine List.Perm.trans p5 (List.Perm.cons _ ?_)) | (with_reducible refine List.Perm.trans p6 (List.Perm.cons _ ?_)) | (with_reducible refine List.Perm.trans p7 (List.Perm.cons _ ?_)) | (with_reducible refine List.Perm.trans p8 (List.Perm.cons _ ?_)) | (with_reducible refine List.Perm.trans p9 (List.Perm.cons _ ?_)) | (with_reducible refine List.Perm.trans p10 (List.Perm.cons _ ?_)) | (with_reducible refine List.Perm.trans p11 (List.Perm.cons _ ?_))))⟩ ?_
        clear H
        rintro ⟨k, a2, cap2⟩ τ w ⟨hk, H⟩
        dsimp only at hk H
        repeat' (first | (refine zA ?_; first | refine zB ?_ | refine zC H ?_ | refine zD H ?_ | refine zE H fun _ _ H => ?_ | refine zF H fun _ _ H => ?_ | refine zG H fun _ H => ?_ | refine zH H fun _ H => ?_) | (refine zI ?_; first | refine zJ ?_ | refine zK ?_ | refine zL ?_ | refine CW.seqDc ?_ | refine CW.seqDb ?_ | refine CW.seqDl ?_ | refine CW.seqDs ?_ | refine CW.seqDk ?_ | refine zN ?_ | refine zO ?_ | refine zP ?_ | refine zQ ?_ | refine zR ?_) | refine zS ?_)
        refine CW.cond rfl (fun h2 => ?_) (fun h2 => ?_)
        · have hk' : k < o.length := by have := of_decide_eq_true h2; dsimp only at this; omega
          have hxk : (o.map (Value.int .i64))[k]? = some (.int .i64 o[k]) := by simp [hk']
          have hup := fl_up (fun u => u != (y : Int)) hk'
          repeat' (first | (refine zA ?_; first | refine zB ?_ | refine zC H ?_ | refine zD H ?_ | refine zE H fun _ _ H => ?_ | refine zF H fun _ _ H => ?_ | refine zG H fun _ H => ?_ | refine zH H fun _ H => ?_) | (refine zI ?_; first | refine zJ ?_ | refine zK ?_ | refine zL ?_ | refine CW.seqDc ?_ | refine CW.seqDb ?_ | refine CW.seqDl ?_ | refine CW.seqDs ?_ | refine CW.seqDk ?_ | refine zN ?_ | refine zO ?_ | refine zP ?_ | refine zQ ?_ | refine zR ?_) | refine zS ?_)
          refine OpsW.ixld (H.perm p1) (hS _) rfl (fun _ => rfl) rfl rfl rfl rfl rfl rfl rfl rfl hk' hxk rfl rfl fun p => ?_
          repeat' (first | (refine zA ?_; first | refine zB ?_ | refine zC H ?_ | refine zD H ?_ | refine zE H fun _ _ H => ?_ | refine zF H fun _ _ H => ?_ | refine zG H fun _ H => ?_ | refine zH H fun _ H => ?_) | (refine zI ?_; first | refine zJ ?_ | refine zK ?_ | refine zL ?_ | refine CW.seqDc ?_ | refine CW.seqDb ?_ | refine CW.seqDl ?_ | refine CW.seqDs ?_ | refine CW.seqDk ?_ | refine zN ?_ | refine zO ?_ | refine zP ?_ | refine zQ ?_ | refine zR ?_) | refine zS ?_)
          refine CW.cond rfl (fun h5 => ?_) (fun h5 => ?_)
          · rw [if_pos h5] at hup
            repeat' (first | (refine zA ?_; first | refine zB ?_ | refine zC H ?_ | refine zD H ?_ | refine zE H fun _ _ H => ?_ | refine zF H fun _ _ H => ?_ | refine zG H fun _ H => ?_ | refine zH H fun _ H => ?_) | (refine zI ?_; first | refine zJ ?_ | refine zK ?_ | refine zL ?_ | refine CW.seqDc ?_ | refine CW.seqDb ?_ | refine CW.seqDl ?_ | refine CW.seqDs ?_ | refine CW.seqDk ?_ | refine zN ?_ | refine zO ?_ | refine zP ?_ | refine zQ ?_ | refine zR ?_) | refine zS ?_)
            refine OpsW.ixld (H.perm p1) (hS _) rfl (fun _ => rfl) rfl rfl rfl rfl rfl rfl rfl rfl hk' hxk rfl rfl fun p => ?_
            repeat' (first | (refine zA ?_; first | refine zB ?_ | refine zC H ?_ | refine zD H ?_ | refine zE H fun _ _ H => ?_ | refine zF H fun _ _ H => ?_ | refine zG H fun _ H => ?_ | refine zH H fun _ H => ?_) | (refine zI ?_; first | refine zJ ?_ | refine zK ?_ | refine zL ?_ | refine CW.seqDc ?_ | refine CW.seqDb ?_ | refine CW.seqDl ?_ | refine CW.seqDs ?_ | refine CW.seqDk ?_ | refine zN ?_ | refine zO ?_ | refine zP ?_ | refine zQ ?_ | refine zR ?_) | refine zS ?_)
            refine OpsW.bsl H rfl rfl rfl rfl rfl rfl rfl rfl fun bb w H => ?_
            repeat' (first | (refine zA ?_; first | refine zB ?_ | refine zC H ?_ | refine zD H ?_ | refine zE H fun _ _ H => ?_ | refine zF H fun _ _ H => ?_ | refine zG H fun _ H => ?_ | refine zH H fun _ H => ?_) | (refine zI ?_; first | refine zJ ?_ | refine zK ?_ | refine zL ?_ | refine CW.seqDc ?_ | refine CW.seqDb ?_ | refine CW.seqDl ?_ | refine CW.seqDs ?_ | refine CW.seqDk ?_ | refine zN ?_ | refine zO ?_ | refine zP ?_ | refine zQ ?_ | refine zR ?_) | refine zS ?_)
            have hfl : ((o.take k).filter fun u => u != (y : Int)).length ≤ k := Nat.le_trans (List.length_filter_le _ _) (by rw [List.length_take]; omega)
            refine OpsW.vapp (n2 := 1) (c2 := [.int .i64 o[k]]) H p1 (SlR.of_blk (r := []) rfl (Nat.le_refl 1)) rfl (by omega) (by omega) rfl rfl rfl rfl rfl rfl rfl rfl rfl fun a3 cap3 w H => ?_
            repeat' (first | (refine zA ?_; first | refine zB ?_ | refine zC H ?_ | refine zD H ?_ | refine zE H fun _ _ H => ?_ | refine zF H fun _ _ H => ?_ | refine zG H fun _ H => ?_ | refine zH H fun _ H => ?_) | (refine zI ?_; first | refine zJ ?_ | refine zK ?_ | refine zL ?_ | refine CW.seqDc ?_ | refine CW.seqDb ?_ | refine CW.seqDl ?_ | refine CW.seqDs ?_ | refine CW.seqDk ?_ | refine zN ?_ | refine zO ?_ | refine zP ?_ | refine zQ ?_ | refine zR ?_) | refine zS ?_)
            refine ⟨(k + 1, a3, cap3), (by (repeat (first | (with_reducible exact Agree.refl _ _) | (with_reducible refine Agree.trim (by assumption) ?_) | refine Agree.upd ?_ rfl | exact Agree.mix' | refine Agree.mixL ?_ (fun j h => by simp only [Bool.or_eq_true, Bool.and_eq_true, Nat.beq_eq, Nat.ble_eq] at h ⊢; omega) rfl))), ⟨nat_succ hk' (by omega), ae rfl (by dsimp only; rw [hup, List.length_append]; rfl), trivial⟩, ⟨hk', ?_⟩, by show o.length - (k + 1) < o.length - k; omega⟩
            dsimp only
            rw [hup, List.length_append, List.map_append]
            exact (H.perm p1).drop
          · rw [if_neg (by rw [h5]; decide)] at hup
            repeat' (first | (refine zA ?_; first | refine zB ?_ | refine zC H ?_ | refine zD H ?_ | refine zE H fun _ _ H => ?_ | refine zF H fun _ _ H => ?_ | refine zG H fun _ H => ?_ | refine zH H fun _ H => ?_) | (refine zI ?_; first | refine zJ ?_ | refine zK ?_ | refine zL ?_ | refine CW.seqDc ?_ | refine CW.seqDb ?_ | refine CW.seqDl ?_ | refine CW.seqDs ?_ | refine CW.seqDk ?_ | refine zN ?_ | refine zO ?_ | refine zP ?_ | refine zQ ?_ | refine zR ?_) | refine zS ?_)
            refine ⟨(k + 1, a2, cap2), (by (repeat (first | (with_reducible exact Agree.refl _ _) | (with_reducible refine Agree.trim (by assumption) ?_) | refine Agree.upd ?_ rfl | exact Agree.mix' | refine Agree.mixL ?_ (fun j h => by simp only [Bool.or_eq_true, Bool.and_eq_true, Nat.beq_eq, Nat.ble_eq] at h ⊢; omega) rfl))), ⟨nat_succ hk' (by omega), ae rfl (by dsimp only; rw [hup]), trivial⟩, ⟨hk', ?_⟩, by show o.length - (k + 1) < o.length - k; omega⟩
            dsimp only
            rw [hup]
            exact H
        · have hkN : k = o.length := by have := of_decide_eq_false h2; dsimp only at this; omega
          have htk : ((o.take k).filter fun u => u != (y : Int)) = oN o y := by rw [hkN, List.take_length]; rfl
          have hfl : ((o.take k).filter fun u => u != (y : Int)).length ≤ k := Nat.le_trans (List.length_filter_le _ _) (by rw [List.length_take]; omega)
          repeat' (first | (refine zA ?_; first | refine zB ?_ | refine zC H ?_ | refine zD H ?_ | refine zE H fun _ _ H => ?_ | refine zF H fun _ _ H => ?_ | refine zG H fun _ H => ?_ | refine zH H fun _ H => ?_) | (refine zI ?_; first | refine zJ ?_ | refine zK ?_ | refine zL ?_ | refine CW.seqDc ?_ | refine CW.seqDb ?_ | refine CW.seqDl ?_ | refine CW.seqDs ?_ | refine CW.seqDk ?_ | refine zN ?_ | refine zO ?_ | refine zP ?_ | refine zQ ?_ | refine zR ?_) | refine zS ?_)
          refine OpsW.bsl H rfl rfl rfl rfl rfl rfl rfl rfl fun bb w H => ?_
          repeat' (first | (refine zA ?_; first | refine zB ?_ | refine zC H ?_ | refine zD H ?_ | refine zE H fun _ _ H => ?_ | refine zF H fun _ _ H => ?_ | refine zG H fun _ H => ?_ | refine zH H fun _ H => ?_) | (refine zI ?_; first | refine zJ ?_ | refine zK ?_ | refine zL ?_ | refine CW.seqDc ?_ | refine CW.seqDb ?_ | refine CW.seqDl ?_ | refine CW.seqDs ?_ | refine CW.seqDk ?_ | refine zN ?_ | refine zO ?_ | refine zP ?_ | refine zQ ?_ | refine zR ?_) | refine zS ?_)
          refine OpsW.vapp (n2 := 1) (c2 := [.int .i64 (y : Int)]) H p1 (SlR.of_blk (r := []) rfl (Nat.le_refl 1)) rfl (by omega) (by omega) rfl rfl rfl rfl rfl rfl rfl rfl rfl fun a3 cap3 w H => ?_
          repeat' (first | (refine zA ?_; first | refine zB ?_ | refine zC H ?_ | refine zD H ?_ | refine zE H fun _ _ H => ?_ | refine zF H fun _ _ H => ?_ | refine zG H fun _ H => ?_ | refine zH H fun _ H => ?_) | (refine zI ?_; first | refine zJ ?_ | refine zK ?_ | refine zL ?_ | refine CW.seqDc ?_ | refine CW.seqDb ?_ | refine CW.seqDl ?_ | refine CW.seqDs ?_ | refine CW.seqDk ?_ | refine zN ?_ | refine zO ?_ | refine zP ?_ | refine zQ ?_ | refine zR ?_) | refine zS ?_)
          have hup : (oN o y ++ [(y : Int)]).length = ((o.take k).filter fun u => u != (y : Int)).length + 1 := by rw [htk, List.length_append]; rfl
          refine ⟨(i + 1, oN o y ++ [(y : Int)], fN f x y, a3, cap3), (by (repeat (first | (with_reducible exact Agree.refl _ _) | (with_reducible refine Agree.trim (by assumption) ?_) | refine Agree.upd ?_ rfl | exact Agree.mix' | refine Agree.mixL ?_ (fun j h => by simp only [Bool.or_eq_true, Bool.and_eq_true, Nat.beq_eq, Nat.ble_eq] at h ⊢; omega) rfl))), ⟨nat_succ hi' (by omega), ae rfl (by dsimp only; rw [hup]), trivial⟩, ⟨⟨hi', by dsimp only; omega, so_next hx6 hy6 hO⟩, ?_⟩, by show l.length - (i + 1) < l.length - i; omega⟩
          dsimp only
          rw [htk] at H
          rw [List.length_append, List.map_append]
          exact ((H.perm p1).drop.perm p1).drop.perm (by repeat' (first | (with_reducible exact List.Perm.refl _) | (with_reducible refine List.Perm.trans p0 (List.Perm.cons _ ?_)) | (with_reducible refine List.Perm.trans p1 (List.Perm.cons _ ?_)) | (with_reducible refine List.Perm.trans p2 (List.Perm.cons _ ?_)) | (with_reducible refine List.Perm.trans p3 (List.Perm.cons _ ?_)) | (with_reducible refine List.Perm.trans p4 (List.Perm.cons _ ?_)) | (with_reducible refine List.Perm.trans p5 (List.Perm.cons _ ?_)) | (with_reducible refine List.Perm.trans p6 (List.Perm.cons _ ?_)) | (with_reducible refine List.Perm.trans p7 (List.Perm.cons _ ?_)) | (with_reducible refine List.Perm.trans p8 (List.Perm.cons _ ?_)) | (with_reducible refine List.Perm.trans p9 (List.Perm.cons _ ?_)) | (with_reducible refine List.Perm.trans p10 (List.Perm.cons _ ?_)) | (with_reducible refine List.Perm.trans p11 (List.Perm.cons _ ?_))))
  have hiN : i = l.length := by have := of_decide_eq_false h; dsimp only at this; omega
  repeat' (first | (refine zA ?_; first | refine zB ?_ | refine zC H ?_ | refine zD H ?_ | refine zE H fun _ _ H => ?_ | refine zF H fun _ _ H => ?_ | refine zG H fun _ H => ?_ | refine zH H fun _ H => ?_) | (refine zI ?_; first | refine zJ ?_ | refine zK ?_ | refine zL ?_ | refine CW.seqDc ?_ | refine CW.seqDb ?_ | refine CW.seqDl ?_ | refine CW.seqDs ?_ | refine CW.seqDk ?_ | refine zN ?_ | refine zO ?_ | refine zP ?_ | refine zQ ?_ | refine zR ?_) | refine zS ?_)
  refine OpsW.call rfl rfl rfl (number_ _ _ _ H wake 6 (by decide) (by decide)) ?_
  rintro _ w ⟨rfl, H⟩
  obtain ⟨k, hk0⟩ := Int.eq_ofNat_of_zero_le (Int.emod_nonneg wake (show (6 : Int) ≠ 0 by decide))
  have hk6 : k < 6 := by have := Int.emod_lt_of_pos wake (show (0 : Int) < 6 by decide); omega
  rw [hk0]
  clear hk0
  repeat' (first | (refine zA ?_; first | refine zB ?_ | refine zC H ?_ | refine zD H ?_ | refine zE H fun _ _ H => ?_ | refine zF H fun _ _ H => ?_ | refine zG H fun _ H => ?_ | refine zH H fun _ H => ?_) | (refine zI ?_; first | refine zJ ?_ | refine zK ?_ | refine zL ?_ | refine CW.seqDc ?_ | refine CW.seqDb ?_ | refine CW.seqDl ?_ | refine CW.seqDs ?_ | refine CW.seqDk ?_ | refine zN ?_ | refine zO ?_ | refine zP ?_ | refine zQ ?_ | refine zR ?_) | refine zS ?_)
  obtain ⟨T, hT, hS, H⟩ := Sat.vopen (H.perm p2)
  refine CW.loopF (X := Nat × Option Addr × Nat) (fun j => Nat.ble 16 j && Nat.ble j 17 || Nat.ble 109 j) (fun s => [(17, .int .i64 (s.1 : Int)), (16, .slice s.2.1 ((o.take s.1).filter fun u => f u.toNat == (k : Int)).length s.2.2)]) (fun s w => s.1 ≤ o.length ∧ Sat W w (vec 3 s.2.1 ((o.take s.1).filter fun u => f u.toNat == (k : Int)).length s.2.2 1 (((o.take s.1).filter fun u => f u.toNat == (k : Int)).map (.int .i64)) :: T :: blk bo 3 (ofc f) :: domP bd (dsM 6 6 d (qO o f)) :: [snap W])) (fun s => o.length - s.1) (0, none, 0) ⟨rfl, rfl, trivial⟩ ⟨Nat.zero_le _, (Sat.vnil H).perm (by repeat' (first | (with_reducible exact List.Perm.refl _) | (with_reducible refine List.Perm.trans p0 (List.Perm.cons _ ?_)) | (with_reducible refine List.Perm.trans p1 (List.Perm.cons _ ?_)) | (with_reducible refine List.Perm.trans p2 (List.Perm.cons _ ?_)) | (with_reducible refine List.Perm.trans p3 (List.Perm.cons _ ?_)) | (with_reducible refine List.Perm.trans p4 (List.Perm.cons _ ?_)) | (with_reducible refine List.Perm.trans p5 (List.Perm.cons _ ?_)) | (with_reducible refine List.Perm.trans p6 (List.Perm.cons _ ?_)) | (with_reducible refine List.Perm.trans p7 (List.Perm.cons _ ?_)) | (with_reducible refine List.Perm.trans p8 (List.Perm.cons _ ?_)) | (with_reducible refine List.Perm.trans p9 (List.Perm.cons _ ?_)) | (with_reducible refine List.Perm.trans p10 (List.Perm.cons _ ?_)) | (with_reducible refine List.Perm.trans p11 (List.Perm.cons _ ?_))))⟩ ?_
  clear H
  rintro ⟨m, a2, cap2⟩ τ w ⟨hm, H⟩
  dsimp only at hm H
  repeat' (first | (refine zA ?_; first | refine zB ?_ | refine zC H ?_ | refine zD H ?_ | refine zE H fun _ _ H => ?_ | refine zF H fun _ _ H => ?_ | refine zG H fun _ H => ?_ | refine zH H fun _ H => ?_) | (refine zI ?_; first | refine zJ ?_ | refine zK ?_ | refine zL ?_ | refine CW.seqDc ?_ | refine CW.seqDb ?_ | refine CW.seqDl ?_ | refine CW.seqDs ?_ | refine CW.seqDk ?_ | refine zN ?_ | refine zO ?_ | refine zP ?_ | refine zQ ?_ | refine zR ?_) | refine zS ?_)
  refine CW.cond rfl (fun h2 => ?_) (fun h2 => ?_)
  · have hm' : m < o.length := by have := of_decide_eq_true h2; dsimp only at this; omega
    have hxm : (o.map (Value.int .i64))[m]? = some (.int .i64 o[m]) := by simp [hm']
    have hup := fl_up (fun u => f u.toNat == (k : Int)) hm'
    obtain ⟨r, hr6, hr⟩ := hO.rng o[m] (List.getElem_mem hm')
    rw [hr] at hxm hup
    rw [show ((r : Int)).toNat = r from rfl] at hup
    repeat' (first | (refine zA ?_; first | refine zB ?_ | refine zC H ?_ | refine zD H ?_ | refine zE H fun _ _ H => ?_ | refine zF H fun _ _ H => ?_ | refine zG H fun _ H => ?_ | refine zH H fun _ H => ?_) | (refine zI ?_; first | refine zJ ?_ | refine zK ?_ | refine zL ?_ | refine CW.seqDc ?_ | refine CW.seqDb ?_ | refine CW.seqDl ?_ | refine CW.seqDs ?_ | refine CW.seqDk ?_ | refine zN ?_ | refine zO ?_ | refine zP ?_ | refine zQ ?_ | refine zR ?_) | refine zS ?_)
    refine OpsW.ixld (H.perm p1) (hS _) rfl (fun _ => rfl) rfl rfl rfl rfl rfl rfl rfl rfl hm' hxm rfl rfl fun p => ?_
    refine OpsW.ixld (H.perm p2) (slr_ofc _) rfl (fun _ => rfl) rfl rfl rfl rfl rfl rfl rfl rfl hr6 (ofc_get hr6) rfl rfl fun p => ?_
    repeat' (first | (refine zA ?_; first | refine zB ?_ | refine zC H ?_ | refine zD H ?_ | refine zE H fun _ _ H => ?_ | refine zF H fun _ _ H => ?_ | refine zG H fun _ H => ?_ | refine zH H fun _ H => ?_) | (refine zI ?_; first | refine zJ ?_ | refine zK ?_ | refine zL ?_ | refine CW.seqDc ?_ | refine CW.seqDb ?_ | refine CW.seqDl ?_ | refine CW.seqDs ?_ | refine CW.seqDk ?_ | refine zN ?_ | refine zO ?_ | refine zP ?_ | refine zQ ?_ | refine zR ?_) | refine zS ?_)
    refine CW.cond rfl (fun h5 => ?_) (fun h5 => ?_)
    · rw [if_pos h5] at hup
      repeat' (first | (refine zA ?_; first | refine zB ?_ | refine zC H ?_ | refine zD H ?_ | refine zE H fun _ _ H => ?_ | refine zF H fun _ _ H => ?_ | refine zG H fun _ H => ?_ | refine zH H fun _ H => ?_) | (refine zI ?_; first | refine zJ ?_ | refine zK ?_ | refine zL ?_ | refine CW.seqDc ?_ | refine CW.seqDb ?_ | refine CW.seqDl ?_ | refine CW.seqDs ?_ | refine CW.seqDk ?_ | refine zN ?_ | refine zO ?_ | refine zP ?_ | refine zQ ?_ | refine zR ?_) | refine zS ?_)
      refine OpsW.ixld (H.perm p1) (hS _) rfl (fun _ => rfl) rfl rfl rfl rfl rfl rfl rfl rfl hm' hxm rfl rfl fun p => ?_
      repeat' (first | (refine zA ?_; first | refine zB ?_ | refine zC H ?_ | refine zD H ?_ | refine zE H fun _ _ H => ?_ | refine zF H fun _ _ H => ?_ | refine zG H fun _ H => ?_ | refine zH H fun _ H => ?_) | (refine zI ?_; first | refine zJ ?_ | refine zK ?_ | refine zL ?_ | refine CW.seqDc ?_ | refine CW.seqDb ?_ | refine CW.seqDl ?_ | refine CW.seqDs ?_ | refine CW.seqDk ?_ | refine zN ?_ | refine zO ?_ | refine zP ?_ | refine zQ ?_ | refine zR ?_) | refine zS ?_)
      refine OpsW.bsl H rfl rfl rfl rfl rfl rfl rfl rfl fun bb w H => ?_
      repeat' (first | (refine zA ?_; first | refine zB ?_ | refine zC H ?_ | refine zD H ?_ | refine zE H fun _ _ H => ?_ | refine zF H fun _ _ H => ?_ | refine zG H fun _ H => ?_ | refine zH H fun _ H => ?_) | (refine zI ?_; first | refine zJ ?_ | refine zK ?_ | refine zL ?_ | refine CW.seqDc ?_ | refine CW.seqDb ?_ | refine CW.seqDl ?_ | refine CW.seqDs ?_ | refine CW.seqDk ?_ | refine zN ?_ | refine zO ?_ | refine zP ?_ | refine zQ ?_ | refine zR ?_) | refine zS ?_)
      have hfl : ((o.take m).filter fun u => f u.toNat == (k : Int)).length ≤ m := Nat.le_trans (List.length_filter_le _ _) (by rw [List.length_take]; omega)
      refine OpsW.vapp (n2 := 1) (c2 := [.int .i64 (r : Int)]) H p1 (SlR.of_blk (r := []) rfl (Nat.le_refl 1)) rfl (by omega) (by omega) rfl rfl rfl rfl rfl rfl rfl rfl rfl fun a3 cap3 w H => ?_
      repeat' (first | (refine zA ?_; first | refine zB ?_ | refine zC H ?_ | refine zD H ?_ | refine zE H fun _ _ H => ?_ | refine zF H fun _ _ H => ?_ | refine zG H fun _ H => ?_ | refine zH H fun _ H => ?_) | (refine zI ?_; first | refine zJ ?_ | refine zK ?_ | refine zL ?_ | refine CW.seqDc ?_ | refine CW.seqDb ?_ | refine CW.seqDl ?_ | refine CW.seqDs ?_ | refine CW.seqDk ?_ | refine zN ?_ | refine zO ?_ | refine zP ?_ | refine zQ ?_ | refine zR ?_) | refine zS ?_)
      refine ⟨(m + 1, a3, cap3), (by (repeat (first | (with_reducible exact Agree.refl _ _) | (with_reducible refine Agree.trim (by assumption) ?_) | refine Agree.upd ?_ rfl | exact Agree.mix' | refine Agree.mixL ?_ (fun j h => by simp only [Bool.or_eq_true, Bool.and_eq_true, Nat.beq_eq, Nat.ble_eq] at h ⊢; omega) rfl))), ⟨nat_succ hm' (by omega), ae rfl (by dsimp only; rw [hup, List.length_append]; rfl), trivial⟩, ⟨hm', ?_⟩, by show o.length - (m + 1) < o.length - m; omega⟩
      dsimp only
      rw [hup, List.length_append, List.map_append]
      exact (H.perm p1).drop
    · rw [if_neg (by rw [h5]; decide)] at hup
      repeat' (first | (refine zA ?_; first | refine zB ?_ | refine zC H ?_ | refine zD H ?_ | refine zE H fun _ _ H => ?_ | refine zF H fun _ _ H => ?_ | refine zG H fun _ H => ?_ | refine zH H fun _ H => ?_) | (refine zI ?_; first | refine zJ ?_ | refine zK ?_ | refine zL ?_ | refine CW.seqDc ?_ | refine CW.seqDb ?_ | refine CW.seqDl ?_ | refine CW.seqDs ?_ | refine CW.seqDk ?_ | refine zN ?_ | refine zO ?_ | refine zP ?_ | refine zQ ?_ | refine zR ?_) | refine zS ?_)
      refine ⟨(m + 1, a2, cap2), (by (repeat (first | (with_reducible exact Agree.refl _ _) | (with_reducible refine Agree.trim (by assumption) ?_) | refine Agree.upd ?_ rfl | exact Agree.mix' | refine Agree.mixL ?_ (fun j h => by simp only [Bool.or_eq_true, Bool.and_eq_true, Nat.beq_eq, Nat.ble_eq] at h ⊢; omega) rfl))), ⟨nat_succ hm' (by omega), ae rfl (by dsimp only; rw [hup]), trivial⟩, ⟨hm', ?_⟩, by show o.length - (m + 1) < o.length - m; omega⟩
      dsimp only
      rw [hup]
      exact H
  have hmN : m = o.length := by have := of_decide_eq_false h2; dsimp only at this; omega
  have htk : ((o.take m).filter fun u => f u.toNat == (k : Int)) = qO o f k := by with_unfolding_all (rw [hmN, List.take_length]; rfl)
  have hq : ∀ j, (qO o f j).length ≤ 30 := fun j => by have := qO_len (o := o) (f := f) j; omega
  have hlen2 : ∀ j, j < (dsM 6 6 d (qO o f)).N → ((dsM 6 6 d (qO o f)).q j).length ≤ 1000 := fun j _ => by rw [dsM_q]; have := hq j; omega
  have hN : (dsM 6 6 d (qO o f)).N ≤ 256 := by rw [dsM_N]; decide
  obtain ⟨T2, hT2, hS2, H⟩ := Sat.vopen H
  repeat' (first | (refine zA ?_; first | refine zB ?_ | refine zC H ?_ | refine zD H ?_ | refine zE H fun _ _ H => ?_ | refine zF H fun _ _ H => ?_ | refine zG H fun _ H => ?_ | refine zH H fun _ H => ?_) | (refine zI ?_; first | refine zJ ?_ | refine zK ?_ | refine zL ?_ | refine CW.seqDc ?_ | refine CW.seqDb ?_ | refine CW.seqDl ?_ | refine CW.seqDs ?_ | refine CW.seqDk ?_ | refine zN ?_ | refine zO ?_ | refine zP ?_ | refine zQ ?_ | refine zR ?_) | refine zS ?_)
  have hca := dom_callers (H.perm p3) hN k hlen2
  rw [dsM_callers hk6 hk6] at hca
  refine OpsW.call rfl rfl rfl hca ?_
  rintro _ w ⟨ac, cc, rfl, H⟩
  clear hca
  obtain ⟨T3, hT3, hS3, H⟩ := Sat.vopen H
  repeat' (first | (refine zA ?_; first | refine zB ?_ | refine zC H ?_ | refine zD H ?_ | refine zE H fun _ _ H => ?_ | refine zF H fun _ _ H => ?_ | refine zG H fun _ H => ?_ | refine zH H fun _ H => ?_) | (refine zI ?_; first | refine zJ ?_ | refine zK ?_ | refine zL ?_ | refine CW.seqDc ?_ | refine CW.seqDb ?_ | refine CW.seqDl ?_ | refine CW.seqDs ?_ | refine CW.seqDk ?_ | refine zN ?_ | refine zO ?_ | refine zP ?_ | refine zQ ?_ | refine zR ?_) | refine zS ?_)
  refine OpsW.call rfl rfl rfl (sameIntsS_ H (qO o f k) ((o.take m).filter fun u => f u.toNat == (k : Int)) _ _ (by have := hq k; omega) (by rw [htk]; have := hq k; omega) (hS3 _) (hS2 _).tail.tail) ?_
  rintro _ w ⟨rfl, H⟩
  rw [decide_eq_true htk.symm]
  repeat' (first | (refine zA ?_; first | refine zB ?_ | refine zC H ?_ | refine zD H ?_ | refine zE H fun _ _ H => ?_ | refine zF H fun _ _ H => ?_ | refine zG H fun _ H => ?_ | refine zH H fun _ H => ?_) | (refine zI ?_; first | refine zJ ?_ | refine zK ?_ | refine zL ?_ | refine CW.seqDc ?_ | refine CW.seqDb ?_ | refine CW.seqDl ?_ | refine CW.seqDs ?_ | refine CW.seqDk ?_ | refine zN ?_ | refine zO ?_ | refine zP ?_ | refine zQ ?_ | refine zR ?_) | refine zS ?_)
  have hwk := dom_wake (H.perm p1) hN k hlen2
  rw [dsM_callers hk6 hk6, dsM_wake hk6 hk6] at hwk
  refine OpsW.call rfl rfl rfl hwk ?_
  rintro _ w ⟨aw, cw, rfl, H⟩
  clear hwk
  obtain ⟨T4, hT4, hS4, H⟩ := Sat.vopen H
  repeat' (first | (refine zA ?_; first | refine zB ?_ | refine zC H ?_ | refine zD H ?_ | refine zE H fun _ _ H => ?_ | refine zF H fun _ _ H => ?_ | refine zG H fun _ H => ?_ | refine zH H fun _ H => ?_) | (refine zI ?_; first | refine zJ ?_ | refine zK ?_ | refine zL ?_ | refine CW.seqDc ?_ | refine CW.seqDb ?_ | refine CW.seqDl ?_ | refine CW.seqDs ?_ | refine CW.seqDk ?_ | refine zN ?_ | refine zO ?_ | refine zP ?_ | refine zQ ?_ | refine zR ?_) | refine zS ?_)
  refine OpsW.call rfl rfl rfl (sameIntsS_ H (qO o f k) ((o.take m).filter fun u => f u.toNat == (k : Int)) _ _ (by have := hq k; omega) (by rw [htk]; have := hq k; omega) (hS4 _) (hS2 _).tail.tail.tail) ?_
  rintro _ w ⟨rfl, H⟩
  rw [decide_eq_true htk.symm]
  repeat' (first | (refine zA ?_; first | refine zB ?_ | refine zC H ?_ | refine zD H ?_ | refine zE H fun _ _ H => ?_ | refine zF H fun _ _ H => ?_ | refine zG H fun _ H => ?_ | refine zH H fun _ H => ?_) | (refine zI ?_; first | refine zJ ?_ | refine zK ?_ | refine zL ?_ | refine CW.seqDc ?_ | refine CW.seqDb ?_ | refine CW.seqDl ?_ | refine CW.seqDs ?_ | refine CW.seqDk ?_ | refine zN ?_ | refine zO ?_ | refine zP ?_ | refine zQ ?_ | refine zR ?_) | refine zS ?_)
  have hlen3 : ∀ j, j < (dsM 6 6 d fun j => if j = k then [] else qO o f j).N → ((dsM 6 6 d fun j => if j = k then [] else qO o f j).q j).length ≤ 1000 := fun j _ => by
    rw [dsM_q]
    split
    · exact Nat.zero_le _
    · have := hq j; omega
  have hN3 : (dsM 6 6 d fun j => if j = k then [] else qO o f j).N ≤ 256 := by rw [dsM_N]; decide
  have hwk := dom_wake (H.perm p1) hN3 k hlen3
  rw [dsM_callers hk6 hk6, dsM_wake hk6 hk6, if_pos rfl] at hwk
  have hqq : (fun j => if j = k then [] else if j = k then [] else qO o f j) = fun j => if j = k then [] else qO o f j := by funext j; split <;> rfl
  rw [hqq] at hwk
  refine OpsW.call rfl rfl rfl hwk ?_
  rintro _ w ⟨aw2, cw2, rfl, H⟩
  clear hwk
  repeat' (first | (refine zA ?_; first | refine zB ?_ | refine zC H ?_ | refine zD H ?_ | refine zE H fun _ _ H => ?_ | refine zF H fun _ _ H => ?_ | refine zG H fun _ H => ?_ | refine zH H fun _ H => ?_) | (refine zI ?_; first | refine zJ ?_ | refine zK ?_ | refine zL ?_ | refine CW.seqDc ?_ | refine CW.seqDb ?_ | refine CW.seqDl ?_ | refine CW.seqDs ?_ | refine CW.seqDk ?_ | refine zN ?_ | refine zO ?_ | refine zP ?_ | refine zQ ?_ | refine zR ?_) | refine zS ?_)
  have hca := dom_callers (H.perm p1) hN3 k hlen3
  rw [dsM_callers hk6 hk6, if_pos rfl] at hca
  refine OpsW.call rfl rfl rfl hca ?_
  rintro _ w ⟨ac2, cc2, rfl, H⟩
  repeat' (first | (refine zA ?_; first | refine zB ?_ | refine zC H ?_ | refine zD H ?_ | refine zE H fun _ _ H => ?_ | refine zF H fun _ _ H => ?_ | refine zG H fun _ H => ?_ | refine zH H fun _ H => ?_) | (refine zI ?_; first | refine zJ ?_ | refine zK ?_ | refine zL ?_ | refine CW.seqDc ?_ | refine CW.seqDb ?_ | refine CW.seqDl ?_ | refine CW.seqDs ?_ | refine CW.seqDk ?_ | refine zN ?_ | refine zO ?_ | refine zP ?_ | refine zQ ?_ | refine zR ?_) | refine zS ?_)
  exact ret1 rfl ⟨rfl, H.d7.drop⟩
end Go.Proofs.YtbmfpkpcljihgaaDoor.X
