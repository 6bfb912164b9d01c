/- The law CpuSteps of chapter 17, walked; conditions: none. -/
import Derived.Test.YtnfefbhjdncccaaDoorA17c
import Derived.Test.YtnfefbhjdncccaaDoorP17x
import Derived.Test.YtnfefbhjdncccaaDoorL17t
import Derived.Test.YtnfefbhjdncccaaDoorL17j
namespace Go.Proofs.YtnfefbhjdncccaaDoor.X
open Go Go.Proofs
set_option linter.unusedSimpArgs false
set_option linter.unusedVariables false
theorem evx_how (e : Ev) : e.l[1]? = some (.int .i64 e.how) := rfl
theorem evx_key (e : Ev) : takeK 5 (e.l.drop 2) some = some e.key.l := rfl
theorem evx_nt (e : Ev) : takeK 19 (e.l.drop 7) some = some (noteL e.ord e.w0 e.w1 e.w2 e.k0 e.k1 e.k2) := by with_unfolding_all rfl
theorem wds_map (p : Nat → Int) : wds p = (X.mk 32 p).map (.int .u32) := rfl
theorem pgs_at {N i : Nat} {pg : Nat → Nat → Int} (hi : i < N) (j : Nat) (hj : j < 32 * 1) : (pgs N pg)[0 + i * 32 + j]? = (wds (pg i))[j]? := by
  have := pgs_get (pg := pg) hi (i := j) (by omega)
  rw [wds_get (by omega), show 0 + i * 32 + j = 0 + i * 32 + j * 1 by omega]; exact this
theorem t17_there (g : Nat → Nat → Int) (k : Nat) (hk : k < 2) : ((t17 g).g k).there = true := by
  show ((s17 []).g k).there = true
  have : k = 0 ∨ k = 1 := by omega
  rcases this with rfl | rfl <;> decide +kernel
theorem t17_M (g : Nat → Nat → Int) : (t17 g).M = 4 := rfl
theorem g17_rngG (l : List Int) (hw : ∀ n ∈ l, 0 ≤ n ∧ n < 4294967296) : rngG (g17 l) := fun p c => by
  have h := s17_m l hw 0 (by decide)
  exact ⟨h.w0 p c, h.w1 p c⟩
attribute [local irreducible] CW OpsW RetW Spec blk snap DrawP AnyW AnyM AnyN bits IntKind.wrap vec itr asc eA Dm.c eD frL ksL noteL syP memP Ev.l s17 t17 wds pgs nds nodesP pagesP mcP slo8 arena stepP
section
variable {z w : World} {Rs As : List HP} {bp : Nat} {s : St}
theorem pageP_words (H : Sat z w (pagesP bp s :: Rs)) (hs : s.ok) (k : Nat) (hk : k < s.M) (hon : (s.g k).there = true) :
    Spec cf 45 #[.pointer (some ⟨bp, 0, none⟩), .int .i64 k] w fun e w' => ∃ a cap, e = .slice a 32 cap ∧ Sat z w' (vec 23 a 32 cap 1 (wds (s.pg k)) :: pagesP bp s :: Rs) := by
  obtain ⟨ba, b, H⟩ := pages_open H
  exact (page_words H hs.m1 k hk hon).mono fun e w ⟨a, cap, h, H⟩ => ⟨a, cap, h, (pages_close (H.perm p3.symm)).perm (.swap _ _ _)⟩
end
set_option maxHeartbeats 8000000 in
set_option maxRecDepth 20000 in
theorem cpuSteps_ (W : World) (hEs : Errs W 237 [5, 1, 0, 2, 4]) (v : Value) (ws : List Int) (hwl : ws.length ≤ maxLen) (hww : ∀ n ∈ ws, (Lit.int .u32 n).wf = true) (hv : SlR [snap W] v 1 ws.length (ws.map (.int .u32))) (y : shDom17.T) (hy : shDom17.good W y) (st : Int) (hsw : (Lit.int .i64 st).wf = true) (raw : Bool) :
    Spec cf 11 #[v, .agg (shDom17.cells y).toArray, .int .i64 st, .bool raw] W fun v w' => v = .bool true ∧ Sat W w' [snap W] := by
  have H := Sat.start W
  obtain ⟨ads, hE⟩ := errsC hEs
  have hD := toD17_ok y hy
  rw [toD17_c y hy]
  generalize toD17 y = d at *
  have hwr : ∀ n ∈ ws, 0 ≤ n ∧ n < 4294967296 := fun n hn => bu32 (hww n hn)
  obtain ⟨a, cap, rfl⟩ := lenW hv
  refine enter (l := [.slice a ws.length cap, .agg d.c.toArray, .int .i64 st, .bool raw]) Tryd.func11 rfl rfl rfl rfl rfl ?_
  repeat' (first | (refine zA ?_; first | refine zB ?_) | (refine zI ?_; first | refine zJ ?_ | refine zK ?_ | refine zL ?_ | refine zM ?_ | refine zN ?_ | refine zO ?_ | refine zP ?_ | refine zQ ?_ | refine zR ?_) | refine zS ?_)
  refine OpsW.boxF H rfl rfl rfl fun bd w H => ?_
  repeat' (first | (refine zA ?_; first | refine zB ?_) | (refine zI ?_; first | refine zJ ?_ | refine zK ?_ | refine zL ?_ | refine zM ?_ | refine zN ?_ | refine zO ?_ | refine zP ?_ | refine zQ ?_ | refine zR ?_) | refine zS ?_)
  refine OpsW.call rfl rfl rfl (first17_ H hE.tail) ?_
  rintro _ w ⟨rfl, H⟩
  repeat' (first | (refine zA ?_; first | refine zB ?_) | (refine zI ?_; first | refine zJ ?_ | refine zK ?_ | refine zL ?_ | refine zM ?_ | refine zN ?_ | refine zO ?_ | refine zP ?_ | refine zQ ?_ | refine zR ?_) | refine zS ?_)
  refine OpsW.gs rfl rfl rfl (fun h => ?_) (fun h => ?_)
  · repeat' (first | (refine zA ?_; first | refine zB ?_) | (refine zI ?_; first | refine zJ ?_ | refine zK ?_ | refine zL ?_ | refine zM ?_ | refine zN ?_ | refine zO ?_ | refine zP ?_ | refine zQ ?_ | refine zR ?_) | refine zS ?_)
    exact ret1 rfl ⟨rfl, by (first | exact H | exact H.drop | exact H.d2 | exact H.d3 | exact H.d4 | exact H.d5 | exact H.d6 | exact H.d7)⟩
  have hl32 : ws.length ≤ 32 := by simp at h; omega
  repeat' (first | (refine zA ?_; first | refine zB ?_) | (refine zI ?_; first | refine zJ ?_ | refine zK ?_ | refine zL ?_ | refine zM ?_ | refine zN ?_ | refine zO ?_ | refine zP ?_ | refine zQ ?_ | refine zR ?_) | refine zS ?_)
  refine OpsW.call rfl rfl rfl (made17_ H hE.tail _ ws hl32 hv.tail) ?_
  rintro _ w ⟨bm, bx, rfl, H⟩
  rw [s17_g] at H
  repeat' (first | (refine zA ?_; first | refine zB ?_ | refine zC H ?_ | refine zD H ?_ | refine zE H fun _ _ H => ?_ | refine zF H fun _ _ H => ?_ | refine zG H fun _ H => ?_ | refine zH H fun _ H => ?_) | (refine zI ?_; first | refine zJ ?_ | refine zK ?_ | refine zL ?_ | refine CW.seqDb ?_ | refine CW.seqDl ?_ | refine CW.seqDk ?_ | refine zN ?_ | refine zO ?_ | refine zP ?_ | refine zQ ?_ | refine zR ?_) | refine zS ?_)
  refine CW.seqD ?_
  repeat' (first | (refine zA ?_; first | refine zB ?_ | refine zC H ?_ | refine zD H ?_ | refine zE H fun _ _ H => ?_ | refine zF H fun _ _ H => ?_ | refine zG H fun _ H => ?_ | refine zH H fun _ H => ?_) | (refine zI ?_; first | refine zJ ?_ | refine zK ?_ | refine zL ?_ | refine CW.seqDb ?_ | refine CW.seqDl ?_ | refine CW.seqDk ?_ | refine zN ?_ | refine zO ?_ | refine zP ?_ | refine zQ ?_ | refine zR ?_) | refine zS ?_)
  rename_i bk _ _ _
  replace H : Sat W _ (blk bk 43 k17.l :: memP bm 4 (t17 (g17 ws)) 0 :: syP bx (t17 (g17 ws)) :: blk bd 70 d.c :: [snap W]) := H
  have hg0 : rngG (g17 ws) := g17_rngG ws hwr
  generalize g17 ws = g at *
  refine CW.join (X := Dm) (fun j => Nat.ble 37 j) (fun _ => []) (fun x w => DOk x ∧ Sat W w (memP bm 4 (t17 g) 0 :: syP bx (t17 g) :: blk bd 70 x.c :: [snap W])) ?_ ?_
  · cases raw
    · repeat' (first | (refine zA ?_; first | refine zB ?_ | refine zC H ?_ | refine zD H ?_ | refine zE H fun _ _ H => ?_ | refine zF H fun _ _ H => ?_ | refine zG H fun _ H => ?_ | refine zH H fun _ H => ?_) | (refine zI ?_; first | refine zJ ?_ | refine zK ?_ | refine zL ?_ | refine CW.seqDc ?_ | refine CW.seqDb ?_ | refine CW.seqDl ?_ | refine CW.seqDs ?_ | refine CW.seqDk ?_ | refine zN ?_ | refine zO ?_ | refine zP ?_ | refine zQ ?_ | refine zR ?_) | refine zS ?_)
      refine OpsW.strF (vs := k17.l) H p3 rfl rfl rfl rfl rfl rfl (by rw [Dm.len]; decide) fun w H => ?_
      replace H : Sat W w (blk bd 70 (splice d.c 91 k17.l) :: _) := H
      rw [Dm.stM] at H
      repeat' (first | (refine zA ?_; first | refine zB ?_ | refine zC H ?_ | refine zD H ?_ | refine zE H fun _ _ H => ?_ | refine zF H fun _ _ H => ?_ | refine zG H fun _ H => ?_ | refine zH H fun _ H => ?_) | (refine zI ?_; first | refine zJ ?_ | refine zK ?_ | refine zL ?_ | refine CW.seqDc ?_ | refine CW.seqDb ?_ | refine CW.seqDl ?_ | refine CW.seqDs ?_ | refine CW.seqDk ?_ | refine zN ?_ | refine zO ?_ | refine zP ?_ | refine zQ ?_ | refine zR ?_) | refine zS ?_)
      exact ⟨d.setM k17, (by (repeat (first | (with_reducible exact Agree.refl _ _) | (with_reducible refine Agree.trim (by assumption) ?_) | refine Agree.upd ?_ rfl | exact Agree.mix' | refine Agree.mixL ?_ (fun j h => by simp only [Bool.or_eq_true, Bool.and_eq_true, Nat.beq_eq, Nat.ble_eq] at h ⊢; omega) rfl))), trivial, hD.setM (by decide), ((H.perm p1).drop.perm (by repeat' (first | (with_reducible exact List.Perm.refl _) | (with_reducible refine List.Perm.trans p0 (List.Perm.cons _ ?_)) | (with_reducible refine List.Perm.trans p1 (List.Perm.cons _ ?_)) | (with_reducible refine List.Perm.trans p2 (List.Perm.cons _ ?_)) | (with_reducible refine List.Perm.trans p3 (List.Perm.cons _ ?_)) | (with_reducible refine List.Perm.trans p4 (List.Perm.cons _ ?_)) | (with_reducible refine List.Perm.trans p5 (List.Perm.cons _ ?_)) | (with_reducible refine List.Perm.trans p6 (List.Perm.cons _ ?_)) | (with_reducible refine List.Perm.trans p7 (List.Perm.cons _ ?_)) | (with_reducible refine List.Perm.trans p8 (List.Perm.cons _ ?_)) | (with_reducible refine List.Perm.trans p9 (List.Perm.cons _ ?_)) | (with_reducible refine List.Perm.trans p10 (List.Perm.cons _ ?_)) | (with_reducible refine List.Perm.trans p11 (List.Perm.cons _ ?_)))))⟩
    · repeat' (first | (refine zA ?_; first | refine zB ?_ | refine zC H ?_ | refine zD H ?_ | refine zE H fun _ _ H => ?_ | refine zF H fun _ _ H => ?_ | refine zG H fun _ H => ?_ | refine zH H fun _ H => ?_) | (refine zI ?_; first | refine zJ ?_ | refine zK ?_ | refine zL ?_ | refine CW.seqDc ?_ | refine CW.seqDb ?_ | refine CW.seqDl ?_ | refine CW.seqDs ?_ | refine CW.seqDk ?_ | refine zN ?_ | refine zO ?_ | refine zP ?_ | refine zQ ?_ | refine zR ?_) | refine zS ?_)
      exact ⟨d, (by (repeat (first | (with_reducible exact Agree.refl _ _) | (with_reducible refine Agree.trim (by assumption) ?_) | refine Agree.upd ?_ rfl | exact Agree.mix' | refine Agree.mixL ?_ (fun j h => by simp only [Bool.or_eq_true, Bool.and_eq_true, Nat.beq_eq, Nat.ble_eq] at h ⊢; omega) rfl))), trivial, hD, H.drop⟩
  clear H hD
  rintro d τ w ⟨hD, H⟩
  repeat' (first | (refine zA ?_; first | refine zB ?_ | refine zC H ?_ | refine zD H ?_ | refine zE H fun _ _ H => ?_ | refine zF H fun _ _ H => ?_ | refine zG H fun _ H => ?_ | refine zH H fun _ H => ?_) | (refine zI ?_; first | refine zJ ?_ | refine zK ?_ | refine zL ?_ | refine CW.seqDc ?_ | refine CW.seqDb ?_ | refine CW.seqDl ?_ | refine CW.seqDs ?_ | refine CW.seqDk ?_ | refine zN ?_ | refine zO ?_ | refine zP ?_ | refine zQ ?_ | refine zR ?_) | refine zS ?_)
  refine OpsW.ldA H p2 rfl rfl rfl Dm.all rfl ?_
  refine OpsW.call rfl rfl rfl (other17_ H d) ?_
  rintro _ w ⟨rfl, H⟩
  refine OpsW.alloc H rfl rfl rfl rfl fun be w H => ?_
  refine OpsW.strF H p0 rfl rfl rfl (eD_scl d) rfl (eD_len d) (by rw [eD_len]; decide) fun w H => ?_
  rw [splice_full (by rw [eD_len]; rfl)] at H
  repeat' (first | (refine zA ?_; first | refine zB ?_) | (refine zI ?_; first | refine zJ ?_ | refine zK ?_ | refine zL ?_ | refine zM ?_ | refine zN ?_ | refine zO ?_ | refine zP ?_ | refine zQ ?_ | refine zR ?_) | refine zS ?_)
  refine OpsW.call rfl rfl rfl (number_ _ _ _ H st 40 (by decide) (by decide)) ?_
  rintro _ w ⟨rfl, H⟩
  obtain ⟨n, hn⟩ := Int.eq_ofNat_of_zero_le (Int.emod_nonneg st (show (40 : Int) ≠ 0 by decide))
  have hn4 : n < 40 := by have := Int.emod_lt_of_pos st (show (0 : Int) < 40 by decide); omega
  rw [hn]
  refine OpsW.st rfl ?_
  rw [show IntKind.wrap .i64 ((n : Int) + 1) = ((n + 1 : Nat) : Int) by rw [wrap64_id (by omega) (by omega)]; omega]
  replace H : Sat W w (memP bm 4 (t17 g) 0 :: syP bx (t17 g) :: blk bd 70 d.c :: blk be 93 (eD d) :: [snap W]) := H.perm (by repeat' (first | (with_reducible exact List.Perm.refl _) | (with_reducible refine List.Perm.trans p0 (List.Perm.cons _ ?_)) | (with_reducible refine List.Perm.trans p1 (List.Perm.cons _ ?_)) | (with_reducible refine List.Perm.trans p2 (List.Perm.cons _ ?_)) | (with_reducible refine List.Perm.trans p3 (List.Perm.cons _ ?_)) | (with_reducible refine List.Perm.trans p4 (List.Perm.cons _ ?_)) | (with_reducible refine List.Perm.trans p5 (List.Perm.cons _ ?_)) | (with_reducible refine List.Perm.trans p6 (List.Perm.cons _ ?_)) | (with_reducible refine List.Perm.trans p7 (List.Perm.cons _ ?_)) | (with_reducible refine List.Perm.trans p8 (List.Perm.cons _ ?_)) | (with_reducible refine List.Perm.trans p9 (List.Perm.cons _ ?_)) | (with_reducible refine List.Perm.trans p10 (List.Perm.cons _ ?_)) | (with_reducible refine List.Perm.trans p11 (List.Perm.cons _ ?_))))
  repeat' (first | (refine zA ?_; first | refine zB ?_ | refine zC H ?_ | refine zD H ?_ | refine zE H fun _ _ H => ?_ | refine zF H fun _ _ H => ?_ | refine zG H fun _ H => ?_ | refine zH H fun _ H => ?_) | (refine zI ?_; first | refine zJ ?_ | refine zK ?_ | refine zL ?_ | refine CW.seqDb ?_ | refine CW.seqDl ?_ | refine CW.seqDk ?_ | refine zN ?_ | refine zO ?_ | refine zP ?_ | refine zQ ?_ | refine zR ?_) | refine zS ?_)
  refine CW.join (X := Dm × (Nat → Nat → Int) × Nat) (fun j => Nat.ble 14 j) (fun _ => []) (fun x w => Sat W w (memP bm 4 (t17 x.2.1) x.2.2 :: syP bx (t17 x.2.1) :: blk bd 70 x.1.c :: blk be 93 (eD x.1) :: [snap W])) ?_ ?_
  · repeat' (first | (refine zA ?_; first | refine zB ?_ | refine zC H ?_ | refine zD H ?_ | refine zE H fun _ _ H => ?_ | refine zF H fun _ _ H => ?_ | refine zG H fun _ H => ?_ | refine zH H fun _ H => ?_) | (refine zI ?_; first | refine zJ ?_ | refine zK ?_ | refine zL ?_ | refine CW.seqDc ?_ | refine CW.seqDb ?_ | refine CW.seqDl ?_ | refine CW.seqDs ?_ | refine CW.seqDk ?_ | refine zN ?_ | refine zO ?_ | refine zP ?_ | refine zQ ?_ | refine zR ?_) | refine zS ?_)
    refine CW.loopF (X := Nat × Dm × (Nat → Nat → Int)) (fun j => Nat.ble 14 j) (fun x => [(14, .int .i64 (x.1 : Int))]) (fun x w => (x.1 ≤ n + 1 ∧ DOk x.2.1 ∧ rngG x.2.2) ∧ Sat W w (memP bm 4 (t17 x.2.2) (2 * x.1) :: syP bx (t17 x.2.2) :: blk bd 70 x.2.1.c :: blk be 93 (eD x.2.1) :: [snap W])) (fun x => n + 1 - x.1) (0, d, g) ⟨rfl, trivial⟩ ⟨⟨Nat.zero_le _, hD, hg0⟩, H⟩ ?_
    clear H hD hg0
    rintro ⟨i, d, g⟩ τ w ⟨⟨hi, hD, hg⟩, H⟩
    dsimp only at hi hD hg H
    repeat' (first | (refine zA ?_; first | refine zB ?_ | refine zC H ?_ | refine zD H ?_ | refine zE H fun _ _ H => ?_ | refine zF H fun _ _ H => ?_ | refine zG H fun _ H => ?_ | refine zH H fun _ H => ?_) | (refine zI ?_; first | refine zJ ?_ | refine zK ?_ | refine zL ?_ | refine CW.seqDc ?_ | refine CW.seqDb ?_ | refine CW.seqDl ?_ | refine CW.seqDs ?_ | refine CW.seqDk ?_ | refine zN ?_ | refine zO ?_ | refine zP ?_ | refine zQ ?_ | refine zR ?_) | refine zS ?_)
    refine CW.cond rfl (fun h => ?_) (fun h => ?_)
    case refine_2 =>
      repeat' (first | (refine zA ?_; first | refine zB ?_ | refine zC H ?_ | refine zD H ?_ | refine zE H fun _ _ H => ?_ | refine zF H fun _ _ H => ?_ | refine zG H fun _ H => ?_ | refine zH H fun _ H => ?_) | (refine zI ?_; first | refine zJ ?_ | refine zK ?_ | refine zL ?_ | refine CW.seqDc ?_ | refine CW.seqDb ?_ | refine CW.seqDl ?_ | refine CW.seqDs ?_ | refine CW.seqDk ?_ | refine zN ?_ | refine zO ?_ | refine zP ?_ | refine zQ ?_ | refine zR ?_) | refine zS ?_)
      exact ⟨(d, g, 2 * i), (by (repeat (first | (with_reducible exact Agree.refl _ _) | (with_reducible refine Agree.trim (by assumption) ?_) | refine Agree.upd ?_ rfl | exact Agree.mix' | refine Agree.mixL ?_ (fun j h => by simp only [Bool.or_eq_true, Bool.and_eq_true, Nat.beq_eq, Nat.ble_eq] at h ⊢; omega) rfl))), trivial, H⟩
    have hin : i < n + 1 := by have := of_decide_eq_true h; omega
    have hmk : ∀ {k : Nat}, k ≤ 200 → MOk (t17 g) k := fun hk => t17_m hg (by omega)
    repeat' (first | (refine zA ?_; first | refine zB ?_ | refine zC H ?_ | refine zD H ?_ | refine zE H fun _ _ H => ?_ | refine zF H fun _ _ H => ?_ | refine zG H fun _ H => ?_ | refine zH H fun _ H => ?_) | (refine zI ?_; first | refine zJ ?_ | refine zK ?_ | refine zL ?_ | refine CW.seqDc ?_ | refine CW.seqDb ?_ | refine CW.seqDl ?_ | refine CW.seqDs ?_ | refine CW.seqDk ?_ | refine zN ?_ | refine zO ?_ | refine zP ?_ | refine zQ ?_ | refine zR ?_) | refine zS ?_)
    have hst := step_ (H.perm p2) (hmk (k := 2 * i) (by omega)) (by omega) hD hE.r.tail.tail hE.w.tail.tail
    have hinv := stepP_inv hg hD
    have hcp := fun {w : World} {Rs : List HP} (H : Sat W w (syP bx (t17 g) :: blk be 93 (eD d) :: Rs)) => cpu8_ H (hmk (k := 0) (by omega)) hD
    generalize stepP (t17 g) d = r at *
    obtain ⟨e, d', s'⟩ := r
    obtain ⟨g', hg', hs', hD'⟩ := hinv
    dsimp only at hs' hD' hst hcp
    subst hs'
    refine OpsW.call rfl rfl rfl hst ?_
    rintro _ w ⟨rfl, H⟩
    refine OpsW.alloc H rfl rfl rfl rfl fun b15 w H => ?_
    refine OpsW.strF H p0 rfl rfl rfl (Ev.scl _) rfl (Ev.len _) (by rw [Ev.len]; decide) fun w H => ?_
    rw [splice_full (by rw [Ev.len]; rfl)] at H
    repeat' (first | (refine zA ?_; first | refine zB ?_ | refine zC H ?_ | refine zD H ?_ | refine zE H fun _ _ H => ?_ | refine zF H fun _ _ H => ?_ | refine zG H fun _ H => ?_ | refine zH H fun _ H => ?_) | (refine zI ?_; first | refine zJ ?_ | refine zK ?_ | refine zL ?_ | refine CW.seqDc ?_ | refine CW.seqDb ?_ | refine CW.seqDl ?_ | refine CW.seqDs ?_ | refine CW.seqDk ?_ | refine zN ?_ | refine zO ?_ | refine zP ?_ | refine zQ ?_ | refine zR ?_) | refine zS ?_)
    have H2 : Sat W w (syP bx (t17 g) :: blk be 93 (eD d) :: blk b15 79 e.l :: memP bm 4 (t17 g') (2 * i + 2) :: blk bd 70 d'.c :: [snap W]) := H.perm (by repeat' (first | (with_reducible exact List.Perm.refl _) | (with_reducible refine List.Perm.trans p0 (List.Perm.cons _ ?_)) | (with_reducible refine List.Perm.trans p1 (List.Perm.cons _ ?_)) | (with_reducible refine List.Perm.trans p2 (List.Perm.cons _ ?_)) | (with_reducible refine List.Perm.trans p3 (List.Perm.cons _ ?_)) | (with_reducible refine List.Perm.trans p4 (List.Perm.cons _ ?_)) | (with_reducible refine List.Perm.trans p5 (List.Perm.cons _ ?_)) | (with_reducible refine List.Perm.trans p6 (List.Perm.cons _ ?_)) | (with_reducible refine List.Perm.trans p7 (List.Perm.cons _ ?_)) | (with_reducible refine List.Perm.trans p8 (List.Perm.cons _ ?_)) | (with_reducible refine List.Perm.trans p9 (List.Perm.cons _ ?_)) | (with_reducible refine List.Perm.trans p10 (List.Perm.cons _ ?_)) | (with_reducible refine List.Perm.trans p11 (List.Perm.cons _ ?_))))
    refine OpsW.call rfl rfl rfl (hcp H2) ?_
    clear H H2 hst hcp
    rintro _ w ⟨rfl, H⟩
    refine OpsW.alloc H rfl rfl rfl rfl fun b16 w H => ?_
    refine OpsW.strF H p0 rfl rfl rfl (Ev.scl _) rfl (Ev.len _) (by rw [Ev.len]; decide) fun w H => ?_
    rw [splice_full (by rw [Ev.len]; rfl)] at H
    repeat' (first | (refine zA ?_; first | refine zB ?_ | refine zC H ?_ | refine zD H ?_ | refine zE H fun _ _ H => ?_ | refine zF H fun _ _ H => ?_ | refine zG H fun _ H => ?_ | refine zH H fun _ H => ?_) | (refine zI ?_; first | refine zJ ?_ | refine zK ?_ | refine zL ?_ | refine CW.seqDc ?_ | refine CW.seqDb ?_ | refine CW.seqDl ?_ | refine CW.seqDs ?_ | refine CW.seqDk ?_ | refine zN ?_ | refine zO ?_ | refine zP ?_ | refine zQ ?_ | refine zR ?_) | refine zS ?_)
    refine OpsW.ld H p3 rfl rfl rfl rfl (Ev.kind_ e) rfl ?_
    repeat' (refine zA ?_; refine zB ?_)
    refine OpsW.ld H p0 rfl rfl rfl rfl (Ev.kind_ e) rfl ?_
    repeat' (refine zA ?_; refine zB ?_)
    rw [bne_self_eq_false]
    repeat' (refine zA ?_; refine zB ?_)
    refine OpsW.ld H p3 rfl rfl rfl rfl (evx_how e) rfl ?_
    repeat' (refine zA ?_; refine zB ?_)
    refine OpsW.ld H p0 rfl rfl rfl rfl (evx_how e) rfl ?_
    repeat' (refine zA ?_; refine zB ?_)
    rw [bne_self_eq_false]
    repeat' (refine zA ?_; refine zB ?_)
    refine OpsW.ldA H p3 rfl rfl rfl (evx_key e) rfl ?_
    repeat' (refine zA ?_; refine zB ?_)
    refine OpsW.ldA H p0 rfl rfl rfl (evx_key e) rfl ?_
    refine OpsW.call rfl rfl rfl (sameKey _ _ _ H e.key e.key) ?_
    rintro _ w ⟨rfl, H⟩
    rw [show K.same e.key e.key = true by simp [K.same]]
    repeat' (refine zA ?_; refine zB ?_)
    refine OpsW.ldA H p3 rfl rfl rfl (evx_nt e) rfl ?_
    repeat' (refine zA ?_; refine zB ?_)
    refine OpsW.ldA H p0 rfl rfl rfl (evx_nt e) rfl ?_
    refine OpsW.call rfl rfl rfl (sameNote_ H _ _ _ _ _ _ _) ?_
    rintro _ w ⟨rfl, H⟩
    repeat' (refine zA ?_; refine zB ?_)
    refine OpsW.ld H p3 rfl rfl rfl rfl (Ev.fault_ e) rfl ?_
    repeat' (refine zA ?_; refine zB ?_)
    refine OpsW.ld H p0 rfl rfl rfl rfl (Ev.fault_ e) rfl ?_
    repeat' (refine zA ?_; refine zB ?_)
    rw [bne_self_eq_false]
    repeat' (refine zA ?_; refine zB ?_)
    refine OpsW.ld H p3 rfl rfl rfl rfl (Ev.addr_ e) rfl ?_
    repeat' (refine zA ?_; refine zB ?_)
    refine OpsW.ld H p0 rfl rfl rfl rfl (Ev.addr_ e) rfl ?_
    repeat' (refine zA ?_; refine zB ?_)
    rw [bne_self_eq_false]
    repeat' (refine zA ?_; refine zB ?_)
    refine OpsW.ldA H p5 rfl rfl rfl Dm.all rfl ?_
    refine OpsW.ldA H p2 rfl rfl rfl (eD_all d') rfl ?_
    refine OpsW.call rfl rfl rfl (same17_ H d') ?_
    rintro _ w ⟨rfl, H⟩
    repeat' (first | (refine zA ?_; first | refine zB ?_ | refine zC H ?_ | refine zD H ?_ | refine zE H fun _ _ H => ?_ | refine zF H fun _ _ H => ?_ | refine zG H fun _ H => ?_ | refine zH H fun _ H => ?_) | (refine zI ?_; first | refine zJ ?_ | refine zK ?_ | refine zL ?_ | refine CW.seqDc ?_ | refine CW.seqDb ?_ | refine CW.seqDl ?_ | refine CW.seqDs ?_ | refine CW.seqDk ?_ | refine zN ?_ | refine zO ?_ | refine zP ?_ | refine zQ ?_ | refine zR ?_) | refine zS ?_)
    refine OpsW.ld H p3 rfl rfl rfl rfl (Ev.kind_ e) rfl ?_
    have H2 : Sat W w (memP bm 4 (t17 g') (2 * i + 2) :: syP bx (t17 g') :: blk bd 70 d'.c :: blk be 93 (eD d') :: [snap W]) := ((H.drop.perm p2).drop).perm (by repeat' (first | (with_reducible exact List.Perm.refl _) | (with_reducible refine List.Perm.trans p0 (List.Perm.cons _ ?_)) | (with_reducible refine List.Perm.trans p1 (List.Perm.cons _ ?_)) | (with_reducible refine List.Perm.trans p2 (List.Perm.cons _ ?_)) | (with_reducible refine List.Perm.trans p3 (List.Perm.cons _ ?_)) | (with_reducible refine List.Perm.trans p4 (List.Perm.cons _ ?_)) | (with_reducible refine List.Perm.trans p5 (List.Perm.cons _ ?_)) | (with_reducible refine List.Perm.trans p6 (List.Perm.cons _ ?_)) | (with_reducible refine List.Perm.trans p7 (List.Perm.cons _ ?_)) | (with_reducible refine List.Perm.trans p8 (List.Perm.cons _ ?_)) | (with_reducible refine List.Perm.trans p9 (List.Perm.cons _ ?_)) | (with_reducible refine List.Perm.trans p10 (List.Perm.cons _ ?_)) | (with_reducible refine List.Perm.trans p11 (List.Perm.cons _ ?_))))
    clear H
    repeat' (first | (refine zA ?_; first | refine zB ?_ | refine zC H ?_ | refine zD H ?_ | refine zE H fun _ _ H => ?_ | refine zF H fun _ _ H => ?_ | refine zG H fun _ H => ?_ | refine zH H fun _ H => ?_) | (refine zI ?_; first | refine zJ ?_ | refine zK ?_ | refine zL ?_ | refine CW.seqDc ?_ | refine CW.seqDb ?_ | refine CW.seqDl ?_ | refine CW.seqDs ?_ | refine CW.seqDk ?_ | refine zN ?_ | refine zO ?_ | refine zP ?_ | refine zQ ?_ | refine zR ?_) | refine zS ?_)
    refine CW.cond rfl (fun h => ?_) (fun h => ?_)
    · repeat' (first | (refine zA ?_; first | refine zB ?_ | refine zC H ?_ | refine zD H ?_ | refine zE H fun _ _ H => ?_ | refine zF H fun _ _ H => ?_ | refine zG H fun _ H => ?_ | refine zH H fun _ H => ?_) | (refine zI ?_; first | refine zJ ?_ | refine zK ?_ | refine zL ?_ | refine CW.seqDc ?_ | refine CW.seqDb ?_ | refine CW.seqDl ?_ | refine CW.seqDs ?_ | refine CW.seqDk ?_ | refine zN ?_ | refine zO ?_ | refine zP ?_ | refine zQ ?_ | refine zR ?_) | refine zS ?_)
      exact ⟨(d', g', 2 * i + 2), (by (repeat (first | (with_reducible exact Agree.refl _ _) | (with_reducible refine Agree.trim (by assumption) ?_) | refine Agree.upd ?_ rfl | exact Agree.mix' | refine Agree.mixL ?_ (fun j h => by simp only [Bool.or_eq_true, Bool.and_eq_true, Nat.beq_eq, Nat.ble_eq] at h ⊢; omega) rfl))), trivial, H2⟩
    · repeat' (first | (refine zA ?_; first | refine zB ?_ | refine zC H ?_ | refine zD H ?_ | refine zE H fun _ _ H => ?_ | refine zF H fun _ _ H => ?_ | refine zG H fun _ H => ?_ | refine zH H fun _ H => ?_) | (refine zI ?_; first | refine zJ ?_ | refine zK ?_ | refine zL ?_ | refine CW.seqDc ?_ | refine CW.seqDb ?_ | refine CW.seqDl ?_ | refine CW.seqDs ?_ | refine CW.seqDk ?_ | refine zN ?_ | refine zO ?_ | refine zP ?_ | refine zQ ?_ | refine zR ?_) | refine zS ?_)
      exact ⟨(i + 1, d', g'), (by (repeat (first | (with_reducible exact Agree.refl _ _) | (with_reducible refine Agree.trim (by assumption) ?_) | refine Agree.upd ?_ rfl | exact Agree.mix' | refine Agree.mixL ?_ (fun j h => by simp only [Bool.or_eq_true, Bool.and_eq_true, Nat.beq_eq, Nat.ble_eq] at h ⊢; omega) rfl))), ⟨nat_succ (n := n + 1) hin (by omega), trivial⟩, ⟨⟨hin, hD', hg'⟩, H2⟩, by show n + 1 - (i + 1) < n + 1 - i; omega⟩
  clear H hD hg0
  rintro ⟨d, g, hb⟩ τ w H
  dsimp only at H
  repeat' (first | (refine zA ?_; first | refine zB ?_ | refine zC H ?_ | refine zD H ?_ | refine zE H fun _ _ H => ?_ | refine zF H fun _ _ H => ?_ | refine zG H fun _ H => ?_ | refine zH H fun _ H => ?_) | (refine zI ?_; first | refine zJ ?_ | refine zK ?_ | refine zL ?_ | refine CW.seqDc ?_ | refine CW.seqDb ?_ | refine CW.seqDl ?_ | refine CW.seqDs ?_ | refine CW.seqDk ?_ | refine zN ?_ | refine zO ?_ | refine zP ?_ | refine zQ ?_ | refine zR ?_) | refine zS ?_)
  refine CW.loopF (X := Nat) (fun j => Nat.ble 17 j) (fun i => [(17, .int .i64 (i : Int))]) (fun i w => i ≤ 2 ∧ Sat W w (memP bm 4 (t17 g) hb :: syP bx (t17 g) :: blk bd 70 d.c :: blk be 93 (eD d) :: [snap W])) (fun i => 2 - i) 0 ⟨rfl, trivial⟩ ⟨Nat.zero_le _, H⟩ ?_
  clear H
  rintro i τ w ⟨hi, H⟩
  repeat' (first | (refine zA ?_; first | refine zB ?_ | refine zC H ?_ | refine zD H ?_ | refine zE H fun _ _ H => ?_ | refine zF H fun _ _ H => ?_ | refine zG H fun _ H => ?_ | refine zH H fun _ H => ?_) | (refine zI ?_; first | refine zJ ?_ | refine zK ?_ | refine zL ?_ | refine CW.seqDc ?_ | refine CW.seqDb ?_ | refine CW.seqDl ?_ | refine CW.seqDs ?_ | refine CW.seqDk ?_ | refine zN ?_ | refine zO ?_ | refine zP ?_ | refine zQ ?_ | refine zR ?_) | refine zS ?_)
  refine CW.cond rfl (fun h => ?_) (fun h => ?_)
  case refine_2 =>
    repeat' (first | (refine zA ?_; first | refine zB ?_ | refine zC H ?_ | refine zD H ?_ | refine zE H fun _ _ H => ?_ | refine zF H fun _ _ H => ?_ | refine zG H fun _ H => ?_ | refine zH H fun _ H => ?_) | (refine zI ?_; first | refine zJ ?_ | refine zK ?_ | refine zL ?_ | refine CW.seqDc ?_ | refine CW.seqDb ?_ | refine CW.seqDl ?_ | refine CW.seqDs ?_ | refine CW.seqDk ?_ | refine zN ?_ | refine zO ?_ | refine zP ?_ | refine zQ ?_ | refine zR ?_) | refine zS ?_)
    exact ret1 rfl ⟨rfl, H.d4⟩
  have hin : i < 2 := by have := of_decide_eq_true h; omega
  repeat' (first | (refine zA ?_; first | refine zB ?_ | refine zC H ?_ | refine zD H ?_ | refine zE H fun _ _ H => ?_ | refine zF H fun _ _ H => ?_ | refine zG H fun _ H => ?_ | refine zH H fun _ H => ?_) | (refine zI ?_; first | refine zJ ?_ | refine zK ?_ | refine zL ?_ | refine CW.seqDc ?_ | refine CW.seqDb ?_ | refine CW.seqDl ?_ | refine CW.seqDs ?_ | refine CW.seqDk ?_ | refine zN ?_ | refine zO ?_ | refine zP ?_ | refine zQ ?_ | refine zR ?_) | refine zS ?_)
  obtain ⟨bs, bn, bp, H2⟩ := memP_open H
  obtain ⟨p, H3⟩ := sy_open (H2.perm p4)
  clear H H2
  have H := H3
  clear H3
  (first | refine CW.drawN mo H fun w H => ?_ | refine CW.seqDrawN mo H fun w H => ?_)
  repeat' (first | refine AnyN.take (i := 0) rfl rfl rfl (by decide +kernel) ?_ | refine AnyN.take (i := 1) rfl rfl rfl (by decide +kernel) ?_ | refine AnyN.take (i := 2) rfl rfl rfl (by decide +kernel) ?_ | refine AnyN.take (i := 3) rfl rfl rfl (by decide +kernel) ?_ | refine AnyN.take (i := 4) rfl rfl rfl (by decide +kernel) ?_ | refine AnyN.take (i := 5) rfl rfl rfl (by decide +kernel) ?_ | refine AnyN.take (i := 6) rfl rfl rfl (by decide +kernel) ?_ | refine AnyN.take (i := 7) rfl rfl rfl (by decide +kernel) ?_ | refine AnyN.take (i := 8) rfl rfl rfl (by decide +kernel) ?_ | refine AnyN.take (i := 9) rfl rfl rfl (by decide +kernel) ?_ | refine AnyN.take (i := 10) rfl rfl rfl (by decide +kernel) ?_ | refine AnyN.take (i := 11) rfl rfl rfl (by decide +kernel) ?_ | refine AnyN.take (i := 12) rfl rfl rfl (by decide +kernel) ?_ | refine AnyN.take (i := 13) rfl rfl rfl (by decide +kernel) ?_ | refine AnyN.take (i := 14) rfl rfl rfl (by decide +kernel) ?_ | refine AnyN.take (i := 15) rfl rfl rfl (by decide +kernel) ?_ | refine AnyN.take (i := 16) rfl rfl rfl (by decide +kernel) ?_ | refine AnyN.take (i := 17) rfl rfl rfl (by decide +kernel) ?_ | refine AnyN.take (i := 18) rfl rfl rfl (by decide +kernel) ?_ | refine AnyN.take (i := 19) rfl rfl rfl (by decide +kernel) ?_ | refine AnyN.take (i := 20) rfl rfl rfl (by decide +kernel) ?_ | refine AnyN.take (i := 21) rfl rfl rfl (by decide +kernel) ?_ | refine AnyN.take (i := 22) rfl rfl rfl (by decide +kernel) ?_ | refine AnyN.take (i := 23) rfl rfl rfl (by decide +kernel) ?_ | refine AnyN.take (i := 24) rfl rfl rfl (by decide +kernel) ?_ | refine AnyN.take (i := 25) rfl rfl rfl (by decide +kernel) ?_ | refine AnyN.take (i := 26) rfl rfl rfl (by decide +kernel) ?_ | refine AnyN.take (i := 27) rfl rfl rfl (by decide +kernel) ?_)
  repeat' (first | exact AllI.nil' rfl | refine AllI.cons' rfl rfl ?_ ?_ | (first | refine AnyN.take (i := 0) rfl rfl rfl (by decide +kernel) ?_ | refine AnyN.take (i := 1) rfl rfl rfl (by decide +kernel) ?_ | refine AnyN.take (i := 2) rfl rfl rfl (by decide +kernel) ?_ | refine AnyN.take (i := 3) rfl rfl rfl (by decide +kernel) ?_ | refine AnyN.take (i := 4) rfl rfl rfl (by decide +kernel) ?_ | refine AnyN.take (i := 5) rfl rfl rfl (by decide +kernel) ?_ | refine AnyN.take (i := 6) rfl rfl rfl (by decide +kernel) ?_ | refine AnyN.take (i := 7) rfl rfl rfl (by decide +kernel) ?_ | refine AnyN.take (i := 8) rfl rfl rfl (by decide +kernel) ?_ | refine AnyN.take (i := 9) rfl rfl rfl (by decide +kernel) ?_ | refine AnyN.take (i := 10) rfl rfl rfl (by decide +kernel) ?_ | refine AnyN.take (i := 11) rfl rfl rfl (by decide +kernel) ?_ | refine AnyN.take (i := 12) rfl rfl rfl (by decide +kernel) ?_ | refine AnyN.take (i := 13) rfl rfl rfl (by decide +kernel) ?_ | refine AnyN.take (i := 14) rfl rfl rfl (by decide +kernel) ?_ | refine AnyN.take (i := 15) rfl rfl rfl (by decide +kernel) ?_ | refine AnyN.take (i := 16) rfl rfl rfl (by decide +kernel) ?_ | refine AnyN.take (i := 17) rfl rfl rfl (by decide +kernel) ?_ | refine AnyN.take (i := 18) rfl rfl rfl (by decide +kernel) ?_ | refine AnyN.take (i := 19) rfl rfl rfl (by decide +kernel) ?_ | refine AnyN.take (i := 20) rfl rfl rfl (by decide +kernel) ?_ | refine AnyN.take (i := 21) rfl rfl rfl (by decide +kernel) ?_ | refine AnyN.take (i := 22) rfl rfl rfl (by decide +kernel) ?_ | refine AnyN.take (i := 23) rfl rfl rfl (by decide +kernel) ?_ | refine AnyN.take (i := 24) rfl rfl rfl (by decide +kernel) ?_ | refine AnyN.take (i := 25) rfl rfl rfl (by decide +kernel) ?_ | refine AnyN.take (i := 26) rfl rfl rfl (by decide +kernel) ?_ | refine AnyN.take (i := 27) rfl rfl rfl (by decide +kernel) ?_) | refine AnyN.takeIx (i := 14) (k := i) rfl rfl rfl rfl rfl rfl rfl rfl rfl (by rw [t17_M]; omega) rfl (by decide +kernel) ?_ | refine AnyN.takeSA (i := 15) rfl rfl rfl rfl rfl rfl rfl rfl (by decide +kernel) ?_ | refine AnyN.step rfl rfl ?_ | refine OpsW.ldmc H p8 rfl rfl rfl rfl rfl ?_ | refine OpsW.ldmc H p9 rfl rfl rfl rfl rfl ?_ | (refine OpsW.call rfl rfl rfl (pageP_words (H.perm p7) (t17_ok g) i (by rw [t17_M]; omega) (t17_there g i hin)) ?_; rintro _ w ⟨_, _, rfl, H⟩; obtain ⟨T1, h1, s1, H⟩ := Sat.vopen H) | (refine OpsW.call rfl rfl rfl (sameWords_ H (X.mk 32 ((t17 g).pg i)) (X.mk 32 ((t17 g).pg i)) _ _ (by rw [mk_length]; decide) (by rw [mk_length]; decide) (by rw [mk_length, ← wds_map]; exact s1 _) (by rw [mk_length, ← wds_map]; exact SlR.of_part p5 (wds_len _) (Nat.le_refl 32) (pgs_at (by rw [t17_M]; omega)))) ?_; rintro _ w ⟨rfl, H⟩; rw [decide_eq_true rfl]) | (first | (refine zA ?_; first | refine zB ?_ | refine zC H ?_ | refine zD H ?_ | refine zE H fun _ _ H => ?_ | refine zF H fun _ _ H => ?_ | refine zG H fun _ H => ?_ | refine zH H fun _ H => ?_) | (refine zI ?_; first | refine zJ ?_ | refine zK ?_ | refine zL ?_ | refine zM ?_ | refine zN ?_ | refine zO ?_ | refine zP ?_ | refine zQ ?_ | refine zR ?_) | refine zS ?_))
  all_goals
    refine AnyN.done rfl ?_
    repeat' (first | (refine zA ?_; first | refine zB ?_ | refine zC H ?_ | refine zD H ?_ | refine zE H fun _ _ H => ?_ | refine zF H fun _ _ H => ?_ | refine zG H fun _ H => ?_ | refine zH H fun _ H => ?_) | (refine zI ?_; first | refine zJ ?_ | refine zK ?_ | refine zL ?_ | refine CW.seqDc ?_ | refine CW.seqDb ?_ | refine CW.seqDl ?_ | refine CW.seqDs ?_ | refine CW.seqDk ?_ | refine zN ?_ | refine zO ?_ | refine zP ?_ | refine zQ ?_ | refine zR ?_) | refine zS ?_)
    exact ⟨i + 1, (by (repeat (first | (with_reducible exact Agree.refl _ _) | (with_reducible refine Agree.trim (by assumption) ?_) | refine Agree.upd ?_ rfl | exact Agree.mix' | refine Agree.mixL ?_ (fun j h => by simp only [Bool.or_eq_true, Bool.and_eq_true, Nat.beq_eq, Nat.ble_eq] at h ⊢; omega) rfl))), ⟨nat_succ (n := 2) hin (by decide), trivial⟩, ⟨hin, memP_close ((sy_close (p := p) ((H.drop).perm p7.symm)).perm p4.symm)⟩, by omega⟩
end Go.Proofs.YtnfefbhjdncccaaDoor.X
