/- The document's system, as a store, part 2: nodes, keys; conditions: none. -/
import Derived.Test.YtnfefbhjdncccaaDoorA8y
namespace Go.Proofs.YtnfefbhjdncccaaDoor.X
open Go Go.Proofs
set_option linter.unusedSimpArgs false
set_option linter.unusedVariables false
attribute [local irreducible] CW OpsW RetW Spec blk snap DrawP AnyW AnyM AnyN bits IntKind.wrap vec arena kds nds wds pgs eA nodesP pagesP slo8
section
variable {z w : World} {As : List HP} {bx : Nat} {s : St} {p : SyV}
set_option maxRecDepth 20000 in
theorem sy_makeNode (H : Sat z w (syP bx s :: As)) (hN : s.N ≤ 64) (v : Value) (l : List K) (hl : l.length ≤ 16) (hok : ∀ k ∈ l, k.ec = 0) (hv : SlR As v 5 l.length (l.flatMap K.l)) (q : Nat) (hq : fst_ s.N s.f = some q) :
    Spec cf 67 #[.pointer (some ⟨bx, 0, none⟩), v] w fun e w' => e = .tuple #[.int .i64 q, .int .i64 0] ∧ Sat z w' (syP bx (s.newN q l) :: As) := by
  obtain ⟨a, cap, rfl⟩ := lenW hv
  obtain ⟨p, H2⟩ := sy_open H
  replace H := H2
  clear H2
  obtain ⟨hqN, -, -⟩ := fst_some hq
  refine enter (l := [.pointer (some ⟨bx, 0, none⟩), .slice a l.length cap]) Tryd.func67 rfl rfl rfl rfl rfl ?_
  repeat' (first | (refine zA ?_; first | refine zB ?_ | refine zC H ?_ | refine zD H ?_ | refine zE H fun _ _ H => ?_ | refine zF H fun _ _ H => ?_ | refine zG H fun _ H => ?_ | refine zH H fun _ H => ?_) | (refine zI ?_; first | refine zJ ?_ | refine zK ?_ | refine zL ?_ | refine zM ?_ | refine zN ?_ | refine zO ?_ | refine zP ?_ | refine zQ ?_ | refine zR ?_) | refine zS ?_)
  refine CW.cond rfl (fun h => absurd (of_decide_eq_true h) (by omega)) (fun h => ?_)
  repeat' (first | (refine zA ?_; first | refine zB ?_ | refine zC H ?_ | refine zD H ?_ | refine zE H fun _ _ H => ?_ | refine zF H fun _ _ H => ?_ | refine zG H fun _ H => ?_ | refine zH H fun _ H => ?_) | (refine zI ?_; first | refine zJ ?_ | refine zK ?_ | refine zL ?_ | refine zM ?_ | refine zN ?_ | refine zO ?_ | refine zP ?_ | refine zQ ?_ | refine zR ?_) | refine zS ?_)
  refine CW.loopF (X := Nat) (fun j => Nat.beq j 6 || Nat.beq j 7 || Nat.ble 13 j) (fun i => [(6, .int .i64 (i : Int))]) (fun i w => i ≤ l.length ∧ Sat z w (blk bx 115 [.slice (some ⟨p.s1, 0, none⟩) s.N p.c1, .slice (some ⟨p.s2, 0, none⟩) s.M p.c2, p.v2, p.v3, p.v4, p.v5, .slice (some ⟨p.bN, 0, none⟩) s.N s.N, .slice (some ⟨p.bP, 0, none⟩) s.M s.M, p.v8, p.v9, p.va, p.vb, p.vc, p.vd, p.ve, p.vf] :: slo8 p.s2 s.M p.r2 s.g :: slo8 p.s1 s.N p.r1 s.f :: blk p.bP 106 (pgs s.M s.pg) :: blk p.bN 68 (nds s.N s.nd) :: As)) (fun i => l.length - i) 0 ⟨rfl, trivial⟩ ⟨Nat.zero_le _, H⟩ ?_
  clear H
  rintro i τ w ⟨hi, H⟩
  repeat' (first | (refine zA ?_; first | refine zB ?_ | refine zC H ?_ | refine zD H ?_ | refine zE H fun _ _ H => ?_ | refine zF H fun _ _ H => ?_ | refine zG H fun _ H => ?_ | refine zH H fun _ H => ?_) | (refine zI ?_; first | refine zJ ?_ | refine zK ?_ | refine zL ?_ | refine zM ?_ | refine zN ?_ | refine zO ?_ | refine zP ?_ | refine zQ ?_ | refine zR ?_) | refine zS ?_)
  refine CW.cond rfl (fun h => ?_) (fun h => ?_)
  · have hil : i < l.length := by have := of_decide_eq_true h; omega
    have hvs := fl_take K.l 5 (fun _ => rfl) l [] i hil
    rw [List.append_nil] at hvs
    repeat' (first | (refine zA ?_; first | refine zB ?_ | refine zC H ?_ | refine zD H ?_ | refine zE H fun _ _ H => ?_ | refine zF H fun _ _ H => ?_ | refine zG H fun _ H => ?_ | refine zH H fun _ H => ?_) | (refine zI ?_; first | refine zJ ?_ | refine zK ?_ | refine zL ?_ | refine CW.seqDc ?_ | refine CW.seqDb ?_ | refine CW.seqDl ?_ | refine CW.seqDs ?_ | refine CW.seqDk ?_ | refine zN ?_ | refine zO ?_ | refine zP ?_ | refine zQ ?_ | refine zR ?_) | refine zS ?_)
    refine OpsW.ixldA H hv.tail.tail.tail.tail.tail rfl (fun _ => rfl) rfl rfl rfl rfl rfl rfl rfl rfl hil hvs rfl rfl fun pp => ?_
    have hva := validR H l[i]
    rw [hok l[i] (List.getElem_mem hil), show rc 0 = 0 from rfl] at hva
    refine OpsW.call rfl rfl rfl hva ?_
    rintro _ w ⟨rfl, H⟩
    repeat' (first | (refine zA ?_; first | refine zB ?_ | refine zC H ?_ | refine zD H ?_ | refine zE H fun _ _ H => ?_ | refine zF H fun _ _ H => ?_ | refine zG H fun _ H => ?_ | refine zH H fun _ H => ?_) | (refine zI ?_; first | refine zJ ?_ | refine zK ?_ | refine zL ?_ | refine CW.seqDc ?_ | refine CW.seqDb ?_ | refine CW.seqDl ?_ | refine CW.seqDs ?_ | refine CW.seqDk ?_ | refine zN ?_ | refine zO ?_ | refine zP ?_ | refine zQ ?_ | refine zR ?_) | refine zS ?_)
    exact ⟨i + 1, (by (repeat (first | (with_reducible exact Agree.refl _ _) | (with_reducible refine Agree.trim (by assumption) ?_) | refine Agree.upd ?_ rfl | exact Agree.mix' | refine Agree.mixL ?_ (fun j h => by simp only [Bool.or_eq_true, Bool.and_eq_true, Nat.beq_eq, Nat.ble_eq] at h ⊢; omega) rfl))), ⟨nat_succ hil (by omega), trivial⟩, ⟨hil, H⟩, by omega⟩
  repeat' (first | (refine zA ?_; first | refine zB ?_ | refine zC H ?_ | refine zD H ?_ | refine zE H fun _ _ H => ?_ | refine zF H fun _ _ H => ?_ | refine zG H fun _ H => ?_ | refine zH H fun _ H => ?_) | (refine zI ?_; first | refine zJ ?_ | refine zK ?_ | refine zL ?_ | refine zM ?_ | refine zN ?_ | refine zO ?_ | refine zP ?_ | refine zQ ?_ | refine zR ?_) | refine zS ?_)
  refine OpsW.call rfl rfl rfl (via H (by exact pS (pS p0)) fun H => take8_ H hN) ?_
  rw [hq]
  rintro _ w ⟨rfl, H⟩
  unfold slo8 at H
  repeat' (first | (refine zA ?_; first | refine zB ?_ | refine zC H ?_ | refine zD H ?_ | refine zE H fun _ _ H => ?_ | refine zF H fun _ _ H => ?_ | refine zG H fun _ H => ?_ | refine zH H fun _ H => ?_) | (refine zI ?_; first | refine zJ ?_ | refine zK ?_ | refine zL ?_ | refine zM ?_ | refine zN ?_ | refine zO ?_ | refine zP ?_ | refine zQ ?_ | refine zR ?_) | refine zS ?_)
  refine OpsW.ix (n := q) rfl rfl rfl rfl rfl rfl rfl hqN rfl ?_
  repeat' (first | (refine zA ?_; first | refine zB ?_ | refine zC H ?_ | refine zD H ?_ | refine zE H fun _ _ H => ?_ | refine zF H fun _ _ H => ?_ | refine zG H fun _ H => ?_ | refine zH H fun _ H => ?_) | (refine zI ?_; first | refine zJ ?_ | refine zK ?_ | refine zL ?_ | refine zM ?_ | refine zN ?_ | refine zO ?_ | refine zP ?_ | refine zQ ?_ | refine zR ?_) | refine zS ?_)
  refine OpsW.str H (pS (pS p0)) rfl rfl rfl rfl rfl rfl (by rw [sl8_len4]; omega) fun w H => ?_
  rw [sl8_put hqN] at H
  repeat' (first | (refine zA ?_; first | refine zB ?_ | refine zC H ?_ | refine zD H ?_ | refine zE H fun _ _ H => ?_ | refine zF H fun _ _ H => ?_ | refine zG H fun _ H => ?_ | refine zH H fun _ H => ?_) | (refine zI ?_; first | refine zJ ?_ | refine zK ?_ | refine zL ?_ | refine zM ?_ | refine zN ?_ | refine zO ?_ | refine zP ?_ | refine zQ ?_ | refine zR ?_) | refine zS ?_)
  refine OpsW.ix (n := q) rfl rfl rfl rfl rfl rfl rfl hqN rfl ?_
  repeat' (first | (refine zA ?_; first | refine zB ?_ | refine zC H ?_ | refine zD H ?_ | refine zE H fun _ _ H => ?_ | refine zF H fun _ _ H => ?_ | refine zG H fun _ H => ?_ | refine zH H fun _ H => ?_) | refine zS ?_)
  refine OpsW.strA (vs := kds fun _ => K.void) H (pS (pS (pS (pS p0)))) rfl rfl ((forceL_eq _ _).trans (congrArg some kds0z)) (kds_scal _) rfl (by rw [kds_len]; rfl) (by rw [nds_len, kds_len]; show 0 + q * 80 + 80 ≤ s.N * 80; omega) fun w H => ?_
  rw [nds_lay hqN] at H
  repeat' (first | (refine zA ?_; first | refine zB ?_ | refine zC H ?_ | refine zD H ?_ | refine zE H fun _ _ H => ?_ | refine zF H fun _ _ H => ?_ | refine zG H fun _ H => ?_ | refine zH H fun _ H => ?_) | (refine zI ?_; first | refine zJ ?_ | refine zK ?_ | refine zL ?_ | refine zM ?_ | refine zN ?_ | refine zO ?_ | refine zP ?_ | refine zQ ?_ | refine zR ?_) | refine zS ?_)
  obtain ⟨A1, hA1⟩ : ∃ A1, A1 = blk p.s1 169 ((mk s.N fun j => if j = q then (s.f q).take else s.f j).flatMap sl8 ++ p.r1) := ⟨_, rfl⟩
  rw [← hA1] at H
  replace H : Sat z w (blk p.bN 68 (nds s.N fun a => if a = q then (fun b => if b < 0 then l.getD b K.void else K.void) else s.nd a) :: A1 :: blk bx 115 [.slice (some ⟨p.s1, 0, none⟩) s.N p.c1, .slice (some ⟨p.s2, 0, none⟩) s.M p.c2, p.v2, p.v3, p.v4, p.v5, .slice (some ⟨p.bN, 0, none⟩) s.N s.N, .slice (some ⟨p.bP, 0, none⟩) s.M s.M, p.v8, p.v9, p.va, p.vb, p.vc, p.vd, p.ve, p.vf] :: blk p.s2 169 ((mk s.M s.g).flatMap sl8 ++ p.r2) :: blk p.bP 106 (pgs s.M s.pg) :: As) := by
    have e : (fun a => if a = q then (fun b : Nat => if b < 0 then l.getD b K.void else K.void) else s.nd a) = fun a => if a = q then (fun _ : Nat => K.void) else s.nd a := by
      funext a b
      by_cases h : a = q <;> simp [h]
    rw [e]; exact H
  refine CW.loopF (X := Nat) (fun j => Nat.ble 9 j) (fun i => [(9, .int .i64 (i : Int))]) (fun i w => i ≤ l.length ∧ Sat z w (blk p.bN 68 (nds s.N fun a => if a = q then (fun b => if b < i then l.getD b K.void else K.void) else s.nd a) :: A1 :: blk bx 115 [.slice (some ⟨p.s1, 0, none⟩) s.N p.c1, .slice (some ⟨p.s2, 0, none⟩) s.M p.c2, p.v2, p.v3, p.v4, p.v5, .slice (some ⟨p.bN, 0, none⟩) s.N s.N, .slice (some ⟨p.bP, 0, none⟩) s.M s.M, p.v8, p.v9, p.va, p.vb, p.vc, p.vd, p.ve, p.vf] :: blk p.s2 169 ((mk s.M s.g).flatMap sl8 ++ p.r2) :: blk p.bP 106 (pgs s.M s.pg) :: As)) (fun i => l.length - i) 0 ⟨rfl, trivial⟩ ⟨Nat.zero_le _, H⟩ ?_
  clear H
  rintro i τ2 w ⟨hi, H⟩
  repeat' (first | (refine zA ?_; first | refine zB ?_ | refine zC H ?_ | refine zD H ?_ | refine zE H fun _ _ H => ?_ | refine zF H fun _ _ H => ?_ | refine zG H fun _ H => ?_ | refine zH H fun _ H => ?_) | (refine zI ?_; first | refine zJ ?_ | refine zK ?_ | refine zL ?_ | refine zM ?_ | refine zN ?_ | refine zO ?_ | refine zP ?_ | refine zQ ?_ | refine zR ?_) | refine zS ?_)
  refine CW.cond rfl (fun h => ?_) (fun h => ?_)
  · have hil : i < l.length := by have := of_decide_eq_true h; omega
    obtain ⟨b0, off0, _, _, _, rfl, -, -⟩ := hv.at_ (show 0 < l.length by omega)
    have hgl : ((l.flatMap K.l).drop (i * 5)).take 5 = (l.getD i K.void).l := by
      have := fl_take K.l 5 (fun _ => rfl) l [] i hil
      rw [List.append_nil] at this
      rw [this, List.getD_eq_getElem?_getD, List.getElem?_eq_getElem hil]; rfl
    have hi16 : i < 16 := by omega
    obtain ⟨ki, hki⟩ : ∃ ki, ki = l.getD i K.void := ⟨_, rfl⟩
    rw [← hki] at hgl
    repeat' (first | (refine zA ?_; first | refine zB ?_ | refine zC H ?_ | refine zD H ?_ | refine zE H fun _ _ H => ?_ | refine zF H fun _ _ H => ?_ | refine zG H fun _ H => ?_ | refine zH H fun _ H => ?_) | (refine zI ?_; first | refine zJ ?_ | refine zK ?_ | refine zL ?_ | refine CW.seqDc ?_ | refine CW.seqDb ?_ | refine CW.seqDl ?_ | refine CW.seqDs ?_ | refine CW.seqDk ?_ | refine zN ?_ | refine zO ?_ | refine zP ?_ | refine zQ ?_ | refine zR ?_) | refine zS ?_)
    (first | refine CW.seqDraw mo H [0, 1, 3, 7, 0, 0, 0, 0, 192, 448, 31, 2047, 4095] fun w H => ?_ | refine CW.draw mo H [0, 1, 3, 7, 0, 0, 0, 0, 192, 448, 31, 2047, 4095] fun w H => ?_); refine AnyW.seg (m := 11) (by kernel_rfl) (by kernel_rfl) H rfl ?_
    repeat' (first | (refine DrawP.nil ?_; intro w H) | (refine DrawP.go ?_; first | refine DrawP.cons rfl (fun τ w H => OpsW.st rfl (OpsW.nil ⟨rfl, H⟩)) ?_ | refine DrawP.cons rfl (fun τ w H => OpsW.ld H (by (first | exact p0 | exact p1 | exact p2 | exact p3 | exact p4 | exact p5 | exact p6 | exact p7)) rfl rfl rfl rfl (by rfl) rfl (OpsW.nil ⟨rfl, H⟩)) ?_ | refine DrawP.cons rfl (fun τ w H => OpsW.ldA H (by (first | exact p0 | exact p1 | exact p2 | exact p3 | exact p4 | exact p5 | exact p6 | exact p7)) rfl rfl rfl (by rfl) rfl (OpsW.nil ⟨rfl, H⟩)) ?_ | refine DrawP.cons rfl (fun τ w H => OpsW.ldSA H hv.tail.tail.tail.tail.tail rfl rfl rfl rfl hil hgl rfl (OpsW.nil ⟨rfl, H⟩)) ?_ | refine DrawP.cons rfl (fun τ w H => OpsW.ix (n := i) rfl rfl rfl rfl rfl rfl rfl hil rfl (OpsW.nil ⟨rfl, H⟩)) ?_ | refine DrawP.cons rfl (fun τ w H => OpsW.ix (n := q) rfl rfl rfl rfl rfl rfl rfl hqN rfl (OpsW.nil ⟨rfl, H⟩)) ?_) | refine DrawP.split (fun h => ?_) (fun h => ?_))
    refine AnyW.one (by kernel_rfl) (by kernel_rfl) rfl ?_
    refine OpsW.ixA (n := i) rfl rfl rfl rfl rfl rfl rfl hi16 rfl ?_
    refine OpsW.nil ?_
    refine AnyW.one (by kernel_rfl) (by kernel_rfl) rfl ?_
    refine OpsW.strA (vs := ki.l) H p0 rfl rfl rfl rfl rfl rfl (by rw [nds_len]; show 0 + q * 80 + i * 5 + 5 ≤ s.N * 80; omega) fun w H => ?_
    rw [nds_set hqN hi16] at H
    refine OpsW.nil ?_
    refine AnyW.done ?_
    repeat' (first | (refine zA ?_; first | refine zB ?_ | refine zC H ?_ | refine zD H ?_ | refine zE H fun _ _ H => ?_ | refine zF H fun _ _ H => ?_ | refine zG H fun _ H => ?_ | refine zH H fun _ H => ?_) | (refine zI ?_; first | refine zJ ?_ | refine zK ?_ | refine zL ?_ | refine zM ?_ | refine zN ?_ | refine zO ?_ | refine zP ?_ | refine zQ ?_ | refine zR ?_) | refine zS ?_)
    refine ⟨i + 1, (by (repeat (first | (with_reducible exact Agree.refl _ _) | (with_reducible refine Agree.trim (by assumption) ?_) | refine Agree.upd ?_ rfl | exact Agree.mix' | refine Agree.mixL ?_ (fun j h => by simp only [Bool.or_eq_true, Bool.and_eq_true, Nat.beq_eq, Nat.ble_eq] at h ⊢; omega) rfl))), ⟨nat_succ hil (by omega), trivial⟩, ⟨hil, ?_⟩, by omega⟩
    have e : (fun a => if a = q then (fun b => if b = i then ki else (if q = q then (fun b : Nat => if b < i then l.getD b K.void else K.void) else s.nd q) b) else (if a = q then (fun b : Nat => if b < i then l.getD b K.void else K.void) else s.nd a)) = fun a => if a = q then (fun b => if b < i + 1 then l.getD b K.void else K.void) else s.nd a := by
      funext a b
      by_cases h : a = q
      · simp only [if_pos h, if_pos rfl, ite_true, if_true]
        by_cases h2 : b = i
        · subst h2; rw [if_pos rfl, if_pos (by omega), hki]
        · rw [if_neg h2]
          by_cases h3 : b < i
          · rw [if_pos h3, if_pos (by omega)]
          · rw [if_neg h3, if_neg (by omega)]
      · simp only [if_neg h]
    rw [e] at H
    exact H
  · have hil : i = l.length := by have := of_decide_eq_false h; omega
    subst hil
    repeat' (first | (refine zA ?_; first | refine zB ?_ | refine zC H ?_ | refine zD H ?_ | refine zE H fun _ _ H => ?_ | refine zF H fun _ _ H => ?_ | refine zG H fun _ H => ?_ | refine zH H fun _ H => ?_) | (refine zI ?_; first | refine zJ ?_ | refine zK ?_ | refine zL ?_ | refine zM ?_ | refine zN ?_ | refine zO ?_ | refine zP ?_ | refine zQ ?_ | refine zR ?_) | refine zS ?_)
    refine ret2 rfl rfl ⟨rfl, ?_⟩
    have e : (fun a => if a = q then (fun b => if b < l.length then l.getD b K.void else K.void) else s.nd a) = fun a => if a = q then (fun b => l.getD b K.void) else s.nd a := by
      funext a b
      by_cases h : a = q
      · simp only [if_pos h]
        by_cases h2 : b < l.length
        · rw [if_pos h2]
        · rw [if_neg h2, List.getD_eq_getElem?_getD, List.getElem?_eq_none (by omega)]; rfl
      · simp only [if_neg h]
    rw [e, hA1] at H
    exact sy_close (s := s.newN q l) (p := p) (by unfold slo8; exact H.perm (by repeat' (first | (with_reducible exact List.Perm.refl _) | (with_reducible refine List.Perm.trans p0 (List.Perm.cons _ ?_)) | (with_reducible refine List.Perm.trans p1 (List.Perm.cons _ ?_)) | (with_reducible refine List.Perm.trans p2 (List.Perm.cons _ ?_)) | (with_reducible refine List.Perm.trans p3 (List.Perm.cons _ ?_)) | (with_reducible refine List.Perm.trans p4 (List.Perm.cons _ ?_)) | (with_reducible refine List.Perm.trans p5 (List.Perm.cons _ ?_)) | (with_reducible refine List.Perm.trans p6 (List.Perm.cons _ ?_)) | (with_reducible refine List.Perm.trans p7 (List.Perm.cons _ ?_)) | (with_reducible refine List.Perm.trans p8 (List.Perm.cons _ ?_)) | (with_reducible refine List.Perm.trans p9 (List.Perm.cons _ ?_)) | (with_reducible refine List.Perm.trans p10 (List.Perm.cons _ ?_)) | (with_reducible refine List.Perm.trans p11 (List.Perm.cons _ ?_)))))
set_option maxRecDepth 20000 in
theorem there8_ {b n cap : Nat} {f : Nat → Pl} {r : List Value} (H : Sat z w (slo8 b n r f :: As)) (q : Nat) (hq : q < n) (hn : n ≤ 64) : Spec cf 127 #[.slice (some ⟨b, 0, none⟩) n cap, .int .i64 q] w fun e w' => e = .bool (f q).there ∧ Sat z w' (slo8 b n r f :: As) := by
  refine enter (l := [.slice (some ⟨b, 0, none⟩) n cap, .int .i64 q]) Tryd.func127 rfl rfl rfl rfl rfl ?_
  have hg0 := sl8_get (f := f) (r := r) 0 hq (by decide)
  replace hg0 : ((mk n f).flatMap sl8 ++ r)[0 + q * 4 + 0]? = some (.bool (f q).there) := hg0
  unfold slo8 at H ⊢
  repeat' (first | (refine zA ?_; first | refine zB ?_ | refine zC H ?_ | refine zD H ?_ | refine zE H fun _ _ H => ?_ | refine zF H fun _ _ H => ?_ | refine zG H fun _ H => ?_ | refine zH H fun _ H => ?_) | (refine zI ?_; first | refine zJ ?_ | refine zK ?_ | refine zL ?_ | refine zM ?_ | refine zN ?_ | refine zO ?_ | refine zP ?_ | refine zQ ?_ | refine zR ?_) | refine zS ?_)
  rw [show decide ((q : Int) ≥ 0) = true from decide_eq_true (by omega)]
  repeat' (first | (refine zA ?_; first | refine zB ?_ | refine zC H ?_ | refine zD H ?_ | refine zE H fun _ _ H => ?_ | refine zF H fun _ _ H => ?_ | refine zG H fun _ H => ?_ | refine zH H fun _ H => ?_) | (refine zI ?_; first | refine zJ ?_ | refine zK ?_ | refine zL ?_ | refine zM ?_ | refine zN ?_ | refine zO ?_ | refine zP ?_ | refine zQ ?_ | refine zR ?_) | refine zS ?_)
  rw [show decide ((q : Int) < (n : Int)) = true from decide_eq_true (by omega)]
  repeat' (first | (refine zA ?_; first | refine zB ?_ | refine zC H ?_ | refine zD H ?_ | refine zE H fun _ _ H => ?_ | refine zF H fun _ _ H => ?_ | refine zG H fun _ H => ?_ | refine zH H fun _ H => ?_) | (refine zI ?_; first | refine zJ ?_ | refine zK ?_ | refine zL ?_ | refine zM ?_ | refine zN ?_ | refine zO ?_ | refine zP ?_ | refine zQ ?_ | refine zR ?_) | refine zS ?_)
  refine OpsW.ix (n := q) rfl rfl rfl rfl rfl rfl rfl hq rfl ?_
  repeat' (first | (refine zA ?_; first | refine zB ?_ | refine zC H ?_ | refine zD H ?_ | refine zE H fun _ _ H => ?_ | refine zF H fun _ _ H => ?_ | refine zG H fun _ H => ?_ | refine zH H fun _ H => ?_) | (refine zI ?_; first | refine zJ ?_ | refine zK ?_ | refine zL ?_ | refine zM ?_ | refine zN ?_ | refine zO ?_ | refine zP ?_ | refine zQ ?_ | refine zR ?_) | refine zS ?_)
  refine OpsW.ld H p0 rfl rfl rfl rfl hg0 rfl ?_
  repeat' (first | (refine zA ?_; first | refine zB ?_ | refine zC H ?_ | refine zD H ?_ | refine zE H fun _ _ H => ?_ | refine zF H fun _ _ H => ?_ | refine zG H fun _ H => ?_ | refine zH H fun _ H => ?_) | (refine zI ?_; first | refine zJ ?_ | refine zK ?_ | refine zL ?_ | refine zM ?_ | refine zN ?_ | refine zO ?_ | refine zP ?_ | refine zQ ?_ | refine zR ?_) | refine zS ?_)
  exact ret1 rfl ⟨rfl, H⟩
set_option maxRecDepth 20000 in
theorem key8_ {b n cap : Nat} {f : Nat → Pl} {r : List Value} (H : Sat z w (slo8 b n r f :: As)) (kind : Int) (q : Nat) (hq : q < n) (hf : (f q).there = true) (hn : n ≤ 64) : Spec cf 103 #[.int .i64 kind, .slice (some ⟨b, 0, none⟩) n cap, .int .i64 q] w fun e w' => e = K.v ⟨kind, q, (f q).ver, 0, 0⟩ ∧ Sat z w' (slo8 b n r f :: As) := by
  refine enter (l := [.int .i64 kind, .slice (some ⟨b, 0, none⟩) n cap, .int .i64 q]) Tryd.func103 rfl rfl rfl rfl rfl ?_
  have hg2 := sl8_get (f := f) (r := r) 2 hq (by decide)
  replace hg2 : ((mk n f).flatMap sl8 ++ r)[0 + q * 4 + 2]? = some (.int .i64 (f q).ver) := hg2
  repeat' (first | (refine zA ?_; first | refine zB ?_ | refine zC H ?_ | refine zD H ?_ | refine zE H fun _ _ H => ?_ | refine zF H fun _ _ H => ?_ | refine zG H fun _ H => ?_ | refine zH H fun _ H => ?_) | (refine zI ?_; first | refine zJ ?_ | refine zK ?_ | refine zL ?_ | refine zM ?_ | refine zN ?_ | refine zO ?_ | refine zP ?_ | refine zQ ?_ | refine zR ?_) | refine zS ?_)
  refine OpsW.call rfl rfl rfl (via H (by exact pS p0) fun H => there8_ H q hq hn) ?_
  rw [hf]
  rintro _ w ⟨rfl, H⟩
  unfold slo8 at H ⊢
  repeat' (first | (refine zA ?_; first | refine zB ?_ | refine zC H ?_ | refine zD H ?_ | refine zE H fun _ _ H => ?_ | refine zF H fun _ _ H => ?_ | refine zG H fun _ H => ?_ | refine zH H fun _ H => ?_) | (refine zI ?_; first | refine zJ ?_ | refine zK ?_ | refine zL ?_ | refine zM ?_ | refine zN ?_ | refine zO ?_ | refine zP ?_ | refine zQ ?_ | refine zR ?_) | refine zS ?_)
  refine OpsW.ix (n := q) rfl rfl rfl rfl rfl rfl rfl hq rfl ?_
  repeat' (first | (refine zA ?_; first | refine zB ?_ | refine zC H ?_ | refine zD H ?_ | refine zE H fun _ _ H => ?_ | refine zF H fun _ _ H => ?_ | refine zG H fun _ H => ?_ | refine zH H fun _ H => ?_) | (refine zI ?_; first | refine zJ ?_ | refine zK ?_ | refine zL ?_ | refine zM ?_ | refine zN ?_ | refine zO ?_ | refine zP ?_ | refine zQ ?_ | refine zR ?_) | refine zS ?_)
  refine OpsW.ld H (pS p0) rfl rfl rfl rfl hg2 rfl ?_
  repeat' (first | (refine zA ?_; first | refine zB ?_ | refine zC H ?_ | refine zD H ?_ | refine zE H fun _ _ H => ?_ | refine zF H fun _ _ H => ?_ | refine zG H fun _ H => ?_ | refine zH H fun _ H => ?_) | (refine zI ?_; first | refine zJ ?_ | refine zK ?_ | refine zL ?_ | refine zM ?_ | refine zN ?_ | refine zO ?_ | refine zP ?_ | refine zQ ?_ | refine zR ?_) | refine zS ?_)
  refine ret1c (resA H (by (first | exact p0 | exact p1 | exact p2 | exact p3 | exact p4 | exact p5 | exact p6 | exact p7)) rfl rfl (by rfl)) ?_
  exact ⟨rfl, by (first | exact H | exact H.drop | exact H.d2 | exact H.d3 | exact H.d4 | exact H.d5 | exact H.d6 | exact H.d7)⟩
theorem sy_keyP (H : Sat z w (syP bx s :: As)) (hM : s.M ≤ 64) (q : Nat) (hq : q < s.M) (ht : (s.g q).there = true) :
    Spec cf 68 #[.pointer (some ⟨bx, 0, none⟩), .int .i64 3, .int .i64 q] w fun e w' => e = K.v ⟨3, q, (s.g q).ver, 0, 0⟩ ∧ Sat z w' (syP bx s :: As) := by
  obtain ⟨p, H2⟩ := sy_open H
  replace H := H2
  clear H2
  refine enter (l := [.pointer (some ⟨bx, 0, none⟩), .int .i64 3, .int .i64 q]) Tryd.func68 rfl rfl rfl rfl rfl ?_
  repeat' (first | (refine zA ?_; first | refine zB ?_ | refine zC H ?_ | refine zD H ?_ | refine zE H fun _ _ H => ?_ | refine zF H fun _ _ H => ?_ | refine zG H fun _ H => ?_ | refine zH H fun _ H => ?_) | (refine zI ?_; first | refine zJ ?_ | refine zK ?_ | refine zL ?_ | refine zM ?_ | refine zN ?_ | refine zO ?_ | refine zP ?_ | refine zQ ?_ | refine zR ?_) | refine zS ?_)
  refine OpsW.call rfl rfl rfl (via H (by exact pS (pS p0)) fun H => key8_ H 3 q hq ht hM) ?_
  rintro _ w ⟨rfl, H⟩
  repeat' (first | (refine zA ?_; first | refine zB ?_ | refine zC H ?_ | refine zD H ?_ | refine zE H fun _ _ H => ?_ | refine zF H fun _ _ H => ?_ | refine zG H fun _ H => ?_ | refine zH H fun _ H => ?_) | (refine zI ?_; first | refine zJ ?_ | refine zK ?_ | refine zL ?_ | refine zM ?_ | refine zN ?_ | refine zO ?_ | refine zP ?_ | refine zQ ?_ | refine zR ?_) | refine zS ?_)
  refine ret1c (resA H (by (first | exact p0 | exact p1 | exact p2 | exact p3 | exact p4 | exact p5 | exact p6 | exact p7)) rfl rfl (by rfl)) ?_
  exact ⟨rfl, sy_close (p := p) H.drop⟩
end
end Go.Proofs.YtnfefbhjdncccaaDoor.X
