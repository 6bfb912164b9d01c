/- Contracts of chapter 20 (maker); conditions: none. -/
import Derived.Test.YtbmfpkpcljihgaaDoorA20
import Derived.Test.YtbmfpkpcljihgaaDoorA19t
import Derived.Test.YtbmfpkpcljihgaaDoorX27
namespace Go.Proofs.YtbmfpkpcljihgaaDoor.X
open Go Go.Proofs
set_option linter.unusedSimpArgs false
set_option linter.unusedVariables false
/-- Factories as plain data: places, whether they are sealed, their parts. -/
structure Mk where
  N : Nat
  f : Nat → Pl
  sl : Nat → Bool
  pt : Nat → Nat → K
def Mk.new (N : Nat) : Mk := ⟨N, fun _ => Pl.z, fun _ => false, fun _ _ => K.void⟩
def Mk.on (m : Mk) (id : Int) : Bool := onN m.N m.f id
def Mk.make (m : Mk) (q : Nat) : Mk := ⟨m.N, fun j => if j = q then (m.f q).take else m.f j, fun j => if j = q then false else m.sl j, fun j => if j = q then (fun _ => K.void) else m.pt j⟩
def Mk.instE (m : Mk) (id p : Int) (k : K) : Nat := if m.on id = false then 5 else if m.sl id.toNat = true then 9 else if p < 0 ∨ 6 ≤ p then 3 else k.ec
def Mk.putP (m : Mk) (i c : Nat) (k : K) : Mk := { m with pt := fun j => if j = i then (fun c' => if c' = c then k else m.pt i c') else m.pt j }
def Mk.inst (m : Mk) (id p : Int) (k : K) : Mk := if m.instE id p k = 0 then m.putP id.toNat p.toNat k else m
def Mk.sealE (m : Mk) (id : Int) : Nat := if m.on id = false then 5 else if m.sl id.toNat = true then 9 else 0
def Mk.setS (m : Mk) (i : Nat) : Mk := { m with sl := fun j => if j = i then true else m.sl j }
def Mk.sealS (m : Mk) (id : Int) : Mk := if m.sealE id = 0 then m.setS id.toNat else m
def Mk.isS (m : Mk) (id : Int) : Bool := m.on id && m.sl id.toNat
def Mk.parts (m : Mk) (id : Int) : List K := if m.on id = true then X.mk 6 (m.pt id.toNat) else []
/-- The errors that factories load. -/
structure EM (As : List HP) (ads : List Addr) : Prop where
  s : GlobV As 4 (eA ads 2)
  r : GlobV As 1 (eA ads 3)
  n : GlobV As 0 (eA ads 5)
  f : GlobV As 3 (eA ads 6)
  t : GlobV As 2 (eA ads 9)
theorem EM.tail {A : HP} {As : List HP} {ads : List Addr} (h : EM As ads) : EM (A :: As) ads := ⟨h.s.tail, h.r.tail, h.n.tail, h.f.tail, h.t.tail⟩
theorem ErrsIn.em {As : List HP} {ads : List Addr} (hE : ErrsIn As 187 errGs ads) : EM As ads := ⟨hE.gl 2 rfl (by decide), hE.gl 3 rfl (by decide), hE.gl 5 rfl (by decide), hE.gl 6 rfl (by decide), hE.gl 9 rfl (by decide)⟩
theorem errsM {W : World} (h : Errs W 187 [4, 1, 0, 3, 2]) : ∃ ads : List Addr, EM [snap W] ads := by
  obtain ⟨a, ha⟩ := h.get 0 rfl
  obtain ⟨b, hb⟩ := h.get 1 rfl
  obtain ⟨c, hc⟩ := h.get 2 rfl
  obtain ⟨d, hd⟩ := h.get 3 rfl
  obtain ⟨e, he⟩ := h.get 4 rfl
  exact ⟨[a, a, b, b, c, d, d, d, e], ha, hb, hc, hd, he⟩
def makP (bm : Nat) (m : Mk) : HP := fun h => ∃ ba : Nat, ∃ b : Nat, ∃ cap : Nat, ∃ rest : List Value, m.N ≤ cap ∧ stars [blk bm 148 [.pointer (some ⟨ba, 0, none⟩), .slice (some ⟨b, 0, none⟩) m.N cap], arena ba (mk m.N m.f), blk b 150 (mks m.N m.sl m.pt ++ rest)] h
theorem zero31 : cf.T.zero.getD 150 [] = onc (false, fun _ => K.void) := by kernel_rfl
theorem zeroP6 : (cf.T.zeroV 106).cells.toList = pks fun _ => K.void := by kernel_rfl
attribute [local irreducible] CW OpsW RetW Spec blk snap DrawP AnyW AnyM AnyN bits IntKind.wrap vec arena eA onc pks mks K.sensory namedF reach isHole K.weaken K.same
section
variable {z w : World} {Rs As : List HP} {bm ba b : Nat} {m : Mk} {ads : List Addr}
theorem mak_open (H : Sat z w (makP bm m :: Rs)) : ∃ (ba b cap : Nat) (rest : List Value), m.N ≤ cap ∧ Sat z w (blk bm 148 [.pointer (some ⟨ba, 0, none⟩), .slice (some ⟨b, 0, none⟩) m.N cap] :: arena ba (mk m.N m.f) :: blk b 150 (mks m.N m.sl m.pt ++ rest) :: Rs) := by
  obtain ⟨ba, H⟩ := H.ex
  obtain ⟨b, H⟩ := H.ex
  obtain ⟨cap, H⟩ := H.ex
  obtain ⟨rest, H⟩ := H.ex
  obtain ⟨h, H⟩ := H.and_
  exact ⟨ba, b, cap, rest, h, H.splits⟩
theorem mak_close {cap : Nat} {rest : List Value} (hc : m.N ≤ cap) (H : Sat z w (blk bm 148 [.pointer (some ⟨ba, 0, none⟩), .slice (some ⟨b, 0, none⟩) m.N cap] :: arena ba (mk m.N m.f) :: blk b 150 (mks m.N m.sl m.pt ++ rest) :: Rs)) : Sat z w (makP bm m :: Rs) :=
  (Sat.joins (m := [blk bm 148 [.pointer (some ⟨ba, 0, none⟩), .slice (some ⟨b, 0, none⟩) m.N cap], arena ba (mk m.N m.f), blk b 150 (mks m.N m.sl m.pt ++ rest)]) H).imp fun h x => ⟨ba, b, cap, rest, hc, x⟩
set_option maxRecDepth 20000 in
theorem mak_new (H : Sat z w Rs) (N : Nat) (h1 : 1 ≤ N) (h2 : N ≤ 256) :
    Spec cf 39 #[.int .i64 N] w fun e w' => ∃ bm : Nat, e = .tuple #[.pointer (some ⟨bm, 0, none⟩), .nilIface] ∧ Sat z w' (makP bm (Mk.new N) :: Rs) := by
  refine enter (l := [.int .i64 N]) Tryd.func39 rfl rfl rfl rfl rfl ?_
  repeat' (first | (refine zA ?_; first | refine zB ?_ | refine zC H ?_ | refine zD H ?_ | refine zE H fun _ _ H => ?_ | refine zF H fun _ _ H => ?_ | refine zG H fun _ H => ?_ | refine zH H fun _ H => ?_) | (refine zI ?_; first | refine zJ ?_ | refine zK ?_ | refine zL ?_ | refine CW.seqDc ?_ | refine CW.seqDb ?_ | refine CW.seqDl ?_ | refine CW.seqDs ?_ | refine CW.seqDk ?_ | refine zN ?_ | refine zO ?_ | refine zP ?_ | refine zQ ?_ | refine zR ?_) | refine zS ?_)
  refine OpsW.call rfl rfl rfl (arenaN_new h1 h2 H) ?_
  rintro _ w ⟨ba, rfl, H⟩
  repeat' (first | (refine zA ?_; first | refine zB ?_ | refine zC H ?_ | refine zD H ?_ | refine zE H fun _ _ H => ?_ | refine zF H fun _ _ H => ?_ | refine zG H fun _ H => ?_ | refine zH H fun _ H => ?_) | (refine zI ?_; first | refine zJ ?_ | refine zK ?_ | refine zL ?_ | refine CW.seqDc ?_ | refine CW.seqDb ?_ | refine CW.seqDl ?_ | refine CW.seqDs ?_ | refine CW.seqDk ?_ | refine zN ?_ | refine zO ?_ | refine zP ?_ | refine zQ ?_ | refine zR ?_) | refine zS ?_)
  refine OpsW.mks H rfl rfl rfl rfl rfl (by omega) rfl rfl rfl rfl rfl fun b w H => ?_
  replace H : Sat z w (blk b 150 (repl N (cf.T.zero.getD 150 [])) :: arena ba (mk N fun _ => Pl.z) :: Rs) := H
  rw [zero31, mks_repl] at H
  repeat' (first | (refine zA ?_; first | refine zB ?_ | refine zC H ?_ | refine zD H ?_ | refine zE H fun _ _ H => ?_ | refine zF H fun _ _ H => ?_ | refine zG H fun _ H => ?_ | refine zH H fun _ H => ?_) | (refine zI ?_; first | refine zJ ?_ | refine zK ?_ | refine zL ?_ | refine CW.seqDc ?_ | refine CW.seqDb ?_ | refine CW.seqDl ?_ | refine CW.seqDs ?_ | refine CW.seqDk ?_ | refine zN ?_ | refine zO ?_ | refine zP ?_ | refine zQ ?_ | refine zR ?_) | refine zS ?_)
  rename_i bm _
  refine ret2 rfl rfl ⟨bm, rfl, mak_close (ba := ba) (b := b) (m := Mk.new N) (rest := []) (Nat.le_refl N) ?_⟩
  rw [List.append_nil]
  exact H.perm (.cons _ (.swap _ _ _))
theorem mak_make (H : Sat z w (makP bm m :: Rs)) (hN : m.N ≤ 256) (hE : EM Rs ads) (q : Nat) (hq : q < m.N) (hf : (m.f q).free = true) (hb : ∀ j, j < q → (m.f j).free = false) :
    Spec cf 40 #[.pointer (some ⟨bm, 0, none⟩)] w fun e w' => e = .tuple #[.int .i64 q, .int .i64 (m.f q).ver, .nilIface] ∧ Sat z w' (makP bm (m.make q) :: Rs) := by
  obtain ⟨ba, b, cap, rest, hc, H2⟩ := mak_open H
  clear H
  have H := H2
  clear H2
  refine enter (l := [.pointer (some ⟨bm, 0, none⟩)]) Tryd.func40 rfl rfl rfl rfl rfl ?_
  repeat' (first | (refine zA ?_; first | refine zB ?_ | refine zC H ?_ | refine zD H ?_ | refine zE H fun _ _ H => ?_ | refine zF H fun _ _ H => ?_ | refine zG H fun _ H => ?_ | refine zH H fun _ H => ?_) | (refine zI ?_; first | refine zJ ?_ | refine zK ?_ | refine zL ?_ | refine CW.seqDc ?_ | refine CW.seqDb ?_ | refine CW.seqDl ?_ | refine CW.seqDs ?_ | refine CW.seqDk ?_ | refine zN ?_ | refine zO ?_ | refine zP ?_ | refine zQ ?_ | refine zR ?_) | refine zS ?_)
  refine OpsW.call rfl rfl rfl (arenaN_take (te := 187) (ve := _) (H.perm p1) hN (by have := hE.f; rw [eA_pos (by decide)] at this; exact this.tail.tail) q hq hf hb) ?_
  rintro _ w ⟨rfl, H⟩
  repeat' (first | (refine zA ?_; first | refine zB ?_ | refine zC H ?_ | refine zD H ?_ | refine zE H fun _ _ H => ?_ | refine zF H fun _ _ H => ?_ | refine zG H fun _ H => ?_ | refine zH H fun _ H => ?_) | (refine zI ?_; first | refine zJ ?_ | refine zK ?_ | refine zL ?_ | refine CW.seqDc ?_ | refine CW.seqDb ?_ | refine CW.seqDl ?_ | refine CW.seqDs ?_ | refine CW.seqDk ?_ | refine zN ?_ | refine zO ?_ | refine zP ?_ | refine zQ ?_ | refine zR ?_) | refine zS ?_)
  refine OpsW.ix (n := q) rfl rfl rfl rfl rfl rfl rfl hq rfl ?_
  refine OpsW.strA (vs := onc (false, fun _ => K.void)) H p2 rfl rfl (by with_unfolding_all rfl) (onc_scal _) rfl (onc_len _) (by rw [List.length_append, mks_len, onc_len]; omega) fun w H => ?_
  rw [mks_zero hq] at H
  repeat' (first | (refine zA ?_; first | refine zB ?_ | refine zC H ?_ | refine zD H ?_ | refine zE H fun _ _ H => ?_ | refine zF H fun _ _ H => ?_ | refine zG H fun _ H => ?_ | refine zH H fun _ H => ?_) | (refine zI ?_; first | refine zJ ?_ | refine zK ?_ | refine zL ?_ | refine CW.seqDc ?_ | refine CW.seqDb ?_ | refine CW.seqDl ?_ | refine CW.seqDs ?_ | refine CW.seqDk ?_ | refine zN ?_ | refine zO ?_ | refine zP ?_ | refine zQ ?_ | refine zR ?_) | refine zS ?_)
  exact ret3 rfl rfl rfl ⟨rfl, mak_close (m := m.make q) hc (H.perm (by repeat' (first | (with_reducible exact List.Perm.refl _) | (with_reducible refine List.Perm.trans p0 (List.Perm.cons _ ?_)) | (with_reducible refine List.Perm.trans p1 (List.Perm.cons _ ?_)) | (with_reducible refine List.Perm.trans p2 (List.Perm.cons _ ?_)) | (with_reducible refine List.Perm.trans p3 (List.Perm.cons _ ?_)) | (with_reducible refine List.Perm.trans p4 (List.Perm.cons _ ?_)) | (with_reducible refine List.Perm.trans p5 (List.Perm.cons _ ?_)) | (with_reducible refine List.Perm.trans p6 (List.Perm.cons _ ?_)) | (with_reducible refine List.Perm.trans p7 (List.Perm.cons _ ?_)) | (with_reducible refine List.Perm.trans p8 (List.Perm.cons _ ?_)) | (with_reducible refine List.Perm.trans p9 (List.Perm.cons _ ?_)) | (with_reducible refine List.Perm.trans p10 (List.Perm.cons _ ?_)) | (with_reducible refine List.Perm.trans p11 (List.Perm.cons _ ?_)))))⟩
theorem mak_full (H : Sat z w (makP bm m :: Rs)) (hN : m.N ≤ 256) (hE : EM Rs ads) (hb : ∀ j, j < m.N → (m.f j).free = false) :
    Spec cf 40 #[.pointer (some ⟨bm, 0, none⟩)] w fun e w' => e = .tuple #[.int .i64 0, .int .i64 0, eA ads 6] ∧ Sat z w' (makP bm m :: Rs) := by
  obtain ⟨ba, b, cap, rest, hc, H2⟩ := mak_open H
  clear H
  have H := H2
  clear H2
  have hE6 := hE.f
  rw [eA_pos (by decide)] at hE6 ⊢
  refine enter (l := [.pointer (some ⟨bm, 0, none⟩)]) Tryd.func40 rfl rfl rfl rfl rfl ?_
  repeat' (first | (refine zA ?_; first | refine zB ?_ | refine zC H ?_ | refine zD H ?_ | refine zE H fun _ _ H => ?_ | refine zF H fun _ _ H => ?_ | refine zG H fun _ H => ?_ | refine zH H fun _ H => ?_) | (refine zI ?_; first | refine zJ ?_ | refine zK ?_ | refine zL ?_ | refine CW.seqDc ?_ | refine CW.seqDb ?_ | refine CW.seqDl ?_ | refine CW.seqDs ?_ | refine CW.seqDk ?_ | refine zN ?_ | refine zO ?_ | refine zP ?_ | refine zQ ?_ | refine zR ?_) | refine zS ?_)
  refine OpsW.call rfl rfl rfl (arenaN_full (H.perm p1) hN hE6.tail.tail hb) ?_
  rintro _ w ⟨rfl, H⟩
  repeat' (first | (refine zA ?_; first | refine zB ?_ | refine zC H ?_ | refine zD H ?_ | refine zE H fun _ _ H => ?_ | refine zF H fun _ _ H => ?_ | refine zG H fun _ H => ?_ | refine zH H fun _ H => ?_) | (refine zI ?_; first | refine zJ ?_ | refine zK ?_ | refine zL ?_ | refine CW.seqDc ?_ | refine CW.seqDb ?_ | refine CW.seqDl ?_ | refine CW.seqDs ?_ | refine CW.seqDk ?_ | refine zN ?_ | refine zO ?_ | refine zP ?_ | refine zQ ?_ | refine zR ?_) | refine zS ?_)
  exact ret3 rfl rfl rfl ⟨rfl, mak_close hc (H.perm (by repeat' (first | (with_reducible exact List.Perm.refl _) | (with_reducible refine List.Perm.trans p0 (List.Perm.cons _ ?_)) | (with_reducible refine List.Perm.trans p1 (List.Perm.cons _ ?_)) | (with_reducible refine List.Perm.trans p2 (List.Perm.cons _ ?_)) | (with_reducible refine List.Perm.trans p3 (List.Perm.cons _ ?_)) | (with_reducible refine List.Perm.trans p4 (List.Perm.cons _ ?_)) | (with_reducible refine List.Perm.trans p5 (List.Perm.cons _ ?_)) | (with_reducible refine List.Perm.trans p6 (List.Perm.cons _ ?_)) | (with_reducible refine List.Perm.trans p7 (List.Perm.cons _ ?_)) | (with_reducible refine List.Perm.trans p8 (List.Perm.cons _ ?_)) | (with_reducible refine List.Perm.trans p9 (List.Perm.cons _ ?_)) | (with_reducible refine List.Perm.trans p10 (List.Perm.cons _ ?_)) | (with_reducible refine List.Perm.trans p11 (List.Perm.cons _ ?_)))))⟩
theorem mak_inst_no {id p : Int} {k : K} (h : m.instE id p k ≠ 0) : m.inst id p k = m := if_neg h
theorem mak_install (H : Sat z w (makP bm m :: Rs)) (hN : m.N ≤ 256) (hE : EM Rs ads) (id p : Int) (k : K) :
    Spec cf 41 #[.pointer (some ⟨bm, 0, none⟩), .int .i64 id, .int .i64 p, k.v] w fun e w' => e = eA ads (m.instE id p k) ∧ Sat z w' (makP bm (m.inst id p k) :: Rs) := by
  obtain ⟨ba, b, cap, rest, hc, H2⟩ := mak_open H
  clear H
  have H := H2
  clear H2
  refine enter (l := [.pointer (some ⟨bm, 0, none⟩), .int .i64 id, .int .i64 p, k.v]) Tryd.func41 rfl rfl rfl rfl rfl ?_
  repeat' (first | (refine zA ?_; first | refine zB ?_ | refine zC H ?_ | refine zD H ?_ | refine zE H fun _ _ H => ?_ | refine zF H fun _ _ H => ?_ | refine zG H fun _ H => ?_ | refine zH H fun _ H => ?_) | (refine zI ?_; first | refine zJ ?_ | refine zK ?_ | refine zL ?_ | refine CW.seqDc ?_ | refine CW.seqDb ?_ | refine CW.seqDl ?_ | refine CW.seqDs ?_ | refine CW.seqDk ?_ | refine zN ?_ | refine zO ?_ | refine zP ?_ | refine zQ ?_ | refine zR ?_) | refine zS ?_)
  refine OpsW.call rfl rfl rfl (arenaN_there (H.perm p2) hN id) ?_
  rintro _ w ⟨rfl, H⟩
  replace H := H.perm p2.symm
  cases hon : onN m.N m.f id
  · have e5 : m.instE id p k = 5 := if_pos hon
    rw [e5, mak_inst_no (by rw [e5]; decide)]
    repeat' (first | (refine zA ?_; first | refine zB ?_ | refine zC H ?_ | refine zD H ?_ | refine zE H fun _ _ H => ?_ | refine zF H fun _ _ H => ?_ | refine zG H fun _ H => ?_ | refine zH H fun _ H => ?_) | (refine zI ?_; first | refine zJ ?_ | refine zK ?_ | refine zL ?_ | refine CW.seqDc ?_ | refine CW.seqDb ?_ | refine CW.seqDl ?_ | refine CW.seqDs ?_ | refine CW.seqDk ?_ | refine zN ?_ | refine zO ?_ | refine zP ?_ | refine zQ ?_ | refine zR ?_) | refine zS ?_)
    refine OpsW.ldg H hE.n.tail.tail.tail.tail rfl rfl rfl rfl rfl ?_
    repeat' (first | (refine zA ?_; first | refine zB ?_ | refine zC H ?_ | refine zD H ?_ | refine zE H fun _ _ H => ?_ | refine zF H fun _ _ H => ?_ | refine zG H fun _ H => ?_ | refine zH H fun _ H => ?_ | refine OpsW.mvF rfl rfl rfl ?_ | refine OpsW.asF rfl rfl rfl ?_ | refine OpsW.exF rfl rfl rfl rfl ?_ | refine OpsW.enE rfl rfl rfl rfl ?_ | refine OpsW.enN rfl rfl rfl rfl ?_) | (refine zI ?_; first | refine zJ ?_ | refine zK ?_ | refine zL ?_ | refine zM ?_ | refine zN ?_ | refine zO ?_ | refine zP ?_ | refine zQ ?_ | refine zR ?_) | refine zS ?_)
    exact ret1 (force_eq _) ⟨rfl, mak_close hc H.drop⟩
  obtain ⟨i, rfl, hi, ht⟩ := onN_at hon
  repeat' (first | (refine zA ?_; first | refine zB ?_ | refine zC H ?_ | refine zD H ?_ | refine zE H fun _ _ H => ?_ | refine zF H fun _ _ H => ?_ | refine zG H fun _ H => ?_ | refine zH H fun _ H => ?_) | (refine zI ?_; first | refine zJ ?_ | refine zK ?_ | refine zL ?_ | refine CW.seqDc ?_ | refine CW.seqDb ?_ | refine CW.seqDl ?_ | refine CW.seqDs ?_ | refine CW.seqDk ?_ | refine zN ?_ | refine zO ?_ | refine zP ?_ | refine zQ ?_ | refine zR ?_) | refine zS ?_)
  refine OpsW.ix (n := i) rfl rfl rfl rfl rfl rfl rfl hi rfl ?_
  repeat' (first | (refine zA ?_; first | refine zB ?_ | refine zC H ?_ | refine zD H ?_ | refine zE H fun _ _ H => ?_ | refine zF H fun _ _ H => ?_ | refine zG H fun _ H => ?_ | refine zH H fun _ H => ?_) | (refine zI ?_; first | refine zJ ?_ | refine zK ?_ | refine zL ?_ | refine CW.seqDc ?_ | refine CW.seqDb ?_ | refine CW.seqDl ?_ | refine CW.seqDs ?_ | refine CW.seqDk ?_ | refine zN ?_ | refine zO ?_ | refine zP ?_ | refine zQ ?_ | refine zR ?_) | refine zS ?_)
  refine OpsW.ld H p3 rfl rfl rfl rfl (mks_sealed hi) rfl ?_
  cases hs : m.sl i
  case true =>
    have e9 : m.instE i p k = 9 := by
      unfold Mk.instE
      rw [if_neg (by show ¬ onN m.N m.f i = false; rw [hon]; decide), if_pos (by exact hs)]
    rw [e9, mak_inst_no (by rw [e9]; decide)]
    repeat' (first | (refine zA ?_; first | refine zB ?_ | refine zC H ?_ | refine zD H ?_ | refine zE H fun _ _ H => ?_ | refine zF H fun _ _ H => ?_ | refine zG H fun _ H => ?_ | refine zH H fun _ H => ?_) | (refine zI ?_; first | refine zJ ?_ | refine zK ?_ | refine zL ?_ | refine CW.seqDc ?_ | refine CW.seqDb ?_ | refine CW.seqDl ?_ | refine CW.seqDs ?_ | refine CW.seqDk ?_ | refine zN ?_ | refine zO ?_ | refine zP ?_ | refine zQ ?_ | refine zR ?_) | refine zS ?_)
    refine OpsW.ldg H hE.t.tail.tail.tail.tail rfl rfl rfl rfl rfl ?_
    repeat' (first | (refine zA ?_; first | refine zB ?_ | refine zC H ?_ | refine zD H ?_ | refine zE H fun _ _ H => ?_ | refine zF H fun _ _ H => ?_ | refine zG H fun _ H => ?_ | refine zH H fun _ H => ?_ | refine OpsW.mvF rfl rfl rfl ?_ | refine OpsW.asF rfl rfl rfl ?_ | refine OpsW.exF rfl rfl rfl rfl ?_ | refine OpsW.enE rfl rfl rfl rfl ?_ | refine OpsW.enN rfl rfl rfl rfl ?_) | (refine zI ?_; first | refine zJ ?_ | refine zK ?_ | refine zL ?_ | refine zM ?_ | refine zN ?_ | refine zO ?_ | refine zP ?_ | refine zQ ?_ | refine zR ?_) | refine zS ?_)
    exact ret1 (force_eq _) ⟨rfl, mak_close hc H.drop⟩
  have e0 : m.instE i p k = if p < 0 ∨ 6 ≤ p then 3 else k.ec := by
    unfold Mk.instE
    rw [if_neg (by show ¬ onN m.N m.f i = false; rw [hon]; decide), if_neg (by show ¬ m.sl i = true; rw [hs]; decide)]
  repeat' (first | (refine zA ?_; first | refine zB ?_ | refine zC H ?_ | refine zD H ?_ | refine zE H fun _ _ H => ?_ | refine zF H fun _ _ H => ?_ | refine zG H fun _ H => ?_ | refine zH H fun _ H => ?_) | (refine zI ?_; first | refine zJ ?_ | refine zK ?_ | refine zL ?_ | refine CW.seqDc ?_ | refine CW.seqDb ?_ | refine CW.seqDl ?_ | refine CW.seqDs ?_ | refine CW.seqDk ?_ | refine zN ?_ | refine zO ?_ | refine zP ?_ | refine zQ ?_ | refine zR ?_) | refine zS ?_)
  by_cases hp : p < 0 ∨ 6 ≤ p
  · rw [if_pos hp] at e0
    rw [e0, mak_inst_no (by rw [e0]; decide)]
    refine OpsW.gs rfl rfl rfl (fun h => ?_) (fun h => ?_)
    · repeat' (first | (refine zA ?_; first | refine zB ?_ | refine zC H ?_ | refine zD H ?_ | refine zE H fun _ _ H => ?_ | refine zF H fun _ _ H => ?_ | refine zG H fun _ H => ?_ | refine zH H fun _ H => ?_) | (refine zI ?_; first | refine zJ ?_ | refine zK ?_ | refine zL ?_ | refine CW.seqDc ?_ | refine CW.seqDb ?_ | refine CW.seqDl ?_ | refine CW.seqDs ?_ | refine CW.seqDk ?_ | refine zN ?_ | refine zO ?_ | refine zP ?_ | refine zQ ?_ | refine zR ?_) | refine zS ?_)
      refine OpsW.ldg H hE.r.tail.tail.tail.tail rfl rfl rfl rfl rfl ?_
      repeat' (first | (refine zA ?_; first | refine zB ?_ | refine zC H ?_ | refine zD H ?_ | refine zE H fun _ _ H => ?_ | refine zF H fun _ _ H => ?_ | refine zG H fun _ H => ?_ | refine zH H fun _ H => ?_ | refine OpsW.mvF rfl rfl rfl ?_ | refine OpsW.asF rfl rfl rfl ?_ | refine OpsW.exF rfl rfl rfl rfl ?_ | refine OpsW.enE rfl rfl rfl rfl ?_ | refine OpsW.enN rfl rfl rfl rfl ?_) | (refine zI ?_; first | refine zJ ?_ | refine zK ?_ | refine zL ?_ | refine zM ?_ | refine zN ?_ | refine zO ?_ | refine zP ?_ | refine zQ ?_ | refine zR ?_) | refine zS ?_)
      exact ret1 (force_eq _) ⟨rfl, mak_close hc H.drop⟩
    · repeat' (first | (refine zA ?_; first | refine zB ?_ | refine zC H ?_ | refine zD H ?_ | refine zE H fun _ _ H => ?_ | refine zF H fun _ _ H => ?_ | refine zG H fun _ H => ?_ | refine zH H fun _ H => ?_) | (refine zI ?_; first | refine zJ ?_ | refine zK ?_ | refine zL ?_ | refine CW.seqDc ?_ | refine CW.seqDb ?_ | refine CW.seqDl ?_ | refine CW.seqDs ?_ | refine CW.seqDk ?_ | refine zN ?_ | refine zO ?_ | refine zP ?_ | refine zQ ?_ | refine zR ?_) | refine zS ?_)
      refine CW.cond rfl (fun h2 => ?_) (fun h2 => absurd (of_decide_eq_false h2) (by have := of_decide_eq_false h; omega))
      repeat' (first | (refine zA ?_; first | refine zB ?_ | refine zC H ?_ | refine zD H ?_ | refine zE H fun _ _ H => ?_ | refine zF H fun _ _ H => ?_ | refine zG H fun _ H => ?_ | refine zH H fun _ H => ?_) | (refine zI ?_; first | refine zJ ?_ | refine zK ?_ | refine zL ?_ | refine CW.seqDc ?_ | refine CW.seqDb ?_ | refine CW.seqDl ?_ | refine CW.seqDs ?_ | refine CW.seqDk ?_ | refine zN ?_ | refine zO ?_ | refine zP ?_ | refine zQ ?_ | refine zR ?_) | refine zS ?_)
      refine OpsW.ldg H hE.r.tail.tail.tail.tail rfl rfl rfl rfl rfl ?_
      repeat' (first | (refine zA ?_; first | refine zB ?_ | refine zC H ?_ | refine zD H ?_ | refine zE H fun _ _ H => ?_ | refine zF H fun _ _ H => ?_ | refine zG H fun _ H => ?_ | refine zH H fun _ H => ?_ | refine OpsW.mvF rfl rfl rfl ?_ | refine OpsW.asF rfl rfl rfl ?_ | refine OpsW.exF rfl rfl rfl rfl ?_ | refine OpsW.enE rfl rfl rfl rfl ?_ | refine OpsW.enN rfl rfl rfl rfl ?_) | (refine zI ?_; first | refine zJ ?_ | refine zK ?_ | refine zL ?_ | refine zM ?_ | refine zN ?_ | refine zO ?_ | refine zP ?_ | refine zQ ?_ | refine zR ?_) | refine zS ?_)
      exact ret1 (force_eq _) ⟨rfl, mak_close hc H.drop⟩
  rw [if_neg hp] at e0
  obtain ⟨c, rfl⟩ := Int.eq_ofNat_of_zero_le (show 0 ≤ p by omega)
  have hc6 : c < 6 := by omega
  repeat' (first | (refine zA ?_; first | refine zB ?_ | refine zC H ?_ | refine zD H ?_ | refine zE H fun _ _ H => ?_ | refine zF H fun _ _ H => ?_ | refine zG H fun _ H => ?_ | refine zH H fun _ H => ?_) | (refine zI ?_; first | refine zJ ?_ | refine zK ?_ | refine zL ?_ | refine CW.seqDc ?_ | refine CW.seqDb ?_ | refine CW.seqDl ?_ | refine CW.seqDs ?_ | refine CW.seqDk ?_ | refine zN ?_ | refine zO ?_ | refine zP ?_ | refine zQ ?_ | refine zR ?_) | refine zS ?_)
  refine CW.cond rfl (fun h2 => absurd (of_decide_eq_true h2) (by omega)) (fun h2 => ?_)
  repeat' (first | (refine zA ?_; first | refine zB ?_ | refine zC H ?_ | refine zD H ?_ | refine zE H fun _ _ H => ?_ | refine zF H fun _ _ H => ?_ | refine zG H fun _ H => ?_ | refine zH H fun _ H => ?_) | (refine zI ?_; first | refine zJ ?_ | refine zK ?_ | refine zL ?_ | refine CW.seqDc ?_ | refine CW.seqDb ?_ | refine CW.seqDl ?_ | refine CW.seqDs ?_ | refine CW.seqDk ?_ | refine zN ?_ | refine zO ?_ | refine zP ?_ | refine zQ ?_ | refine zR ?_) | refine zS ?_)
  refine OpsW.call rfl rfl rfl (validG H hE.s.tail.tail.tail.tail hE.r.tail.tail.tail.tail k) ?_
  rintro _ w ⟨rfl, H⟩
  by_cases hk : k.ec = 0
  case neg =>
    rw [e0, mak_inst_no (by rw [e0]; exact hk), eA_pos hk]
    repeat' (first | (refine zA ?_; first | refine zB ?_ | refine zC H ?_ | refine zD H ?_ | refine zE H fun _ _ H => ?_ | refine zF H fun _ _ H => ?_ | refine zG H fun _ H => ?_ | refine zH H fun _ H => ?_) | (refine zI ?_; first | refine zJ ?_ | refine zK ?_ | refine zL ?_ | refine CW.seqDc ?_ | refine CW.seqDb ?_ | refine CW.seqDl ?_ | refine CW.seqDs ?_ | refine CW.seqDk ?_ | refine zN ?_ | refine zO ?_ | refine zP ?_ | refine zQ ?_ | refine zR ?_) | refine zS ?_)
    exact ret1 (force_eq _) ⟨rfl, mak_close hc H.drop⟩
  rw [e0, show m.inst i c k = m.putP i c k from if_pos (e0.trans hk), hk, eA_0]
  repeat' (first | (refine zA ?_; first | refine zB ?_ | refine zC H ?_ | refine zD H ?_ | refine zE H fun _ _ H => ?_ | refine zF H fun _ _ H => ?_ | refine zG H fun _ H => ?_ | refine zH H fun _ H => ?_) | (refine zI ?_; first | refine zJ ?_ | refine zK ?_ | refine zL ?_ | refine CW.seqDc ?_ | refine CW.seqDb ?_ | refine CW.seqDl ?_ | refine CW.seqDs ?_ | refine CW.seqDk ?_ | refine zN ?_ | refine zO ?_ | refine zP ?_ | refine zQ ?_ | refine zR ?_) | refine zS ?_)
  (first | refine CW.seqDraw mo H [0, 1, 3, 7, 0, 0, 0, 31, 159, 511, 1023] fun w H => ?_ | refine CW.draw mo H [0, 1, 3, 7, 0, 0, 0, 31, 159, 511, 1023] fun w H => ?_); refine AnyW.seg (m := 10) (by kernel_rfl) (by kernel_rfl) H rfl ?_
  repeat' (first | (refine DrawP.nil ?_; intro w H) | (refine DrawP.go ?_; first | refine DrawP.cons rfl (fun τ w H => OpsW.st rfl (OpsW.nil ⟨rfl, H⟩)) ?_ | refine DrawP.cons rfl (fun τ w H => OpsW.ld H (by (first | exact p0 | exact p1 | exact p2 | exact p3 | exact p4 | exact p5 | exact p6 | exact p7)) rfl rfl rfl rfl (by rfl) rfl (OpsW.nil ⟨rfl, H⟩)) ?_ | refine DrawP.cons rfl (fun τ w H => OpsW.ldA H (by (first | exact p0 | exact p1 | exact p2 | exact p3 | exact p4 | exact p5 | exact p6 | exact p7)) rfl rfl rfl (by rfl) rfl (OpsW.nil ⟨rfl, H⟩)) ?_ | refine DrawP.cons rfl (fun τ w H => OpsW.ix (n := i) rfl rfl rfl rfl rfl rfl rfl hi rfl (OpsW.nil ⟨rfl, H⟩)) ?_ | refine DrawP.cons rfl (fun τ w H => OpsW.ixA (n := c) rfl rfl rfl rfl rfl rfl rfl hc6 rfl (OpsW.nil ⟨rfl, H⟩)) ?_) | refine DrawP.split (fun h => ?_) (fun h => ?_))
  refine AnyW.one (by kernel_rfl) (by kernel_rfl) rfl ?_
  refine OpsW.strA (vs := k.l) H p3 rfl rfl (forceL_eq _ _) rfl rfl rfl (by rw [List.length_append, mks_len]; show 0 + i * 31 + 1 + c * 5 + 5 ≤ _; omega) fun w H => ?_
  rw [mks_part hi hc6] at H
  refine OpsW.nil ?_
  refine AnyW.done ?_
  repeat' (first | (refine zA ?_; first | refine zB ?_ | refine zC H ?_ | refine zD H ?_ | refine zE H fun _ _ H => ?_ | refine zF H fun _ _ H => ?_ | refine zG H fun _ H => ?_ | refine zH H fun _ H => ?_) | (refine zI ?_; first | refine zJ ?_ | refine zK ?_ | refine zL ?_ | refine CW.seqDc ?_ | refine CW.seqDb ?_ | refine CW.seqDl ?_ | refine CW.seqDs ?_ | refine CW.seqDk ?_ | refine zN ?_ | refine zO ?_ | refine zP ?_ | refine zQ ?_ | refine zR ?_) | refine zS ?_)
  exact ret1 rfl ⟨rfl, mak_close (m := m.putP i c k) hc ((H.perm p1).drop.perm (by repeat' (first | (with_reducible exact List.Perm.refl _) | (with_reducible refine List.Perm.trans p0 (List.Perm.cons _ ?_)) | (with_reducible refine List.Perm.trans p1 (List.Perm.cons _ ?_)) | (with_reducible refine List.Perm.trans p2 (List.Perm.cons _ ?_)) | (with_reducible refine List.Perm.trans p3 (List.Perm.cons _ ?_)) | (with_reducible refine List.Perm.trans p4 (List.Perm.cons _ ?_)) | (with_reducible refine List.Perm.trans p5 (List.Perm.cons _ ?_)) | (with_reducible refine List.Perm.trans p6 (List.Perm.cons _ ?_)) | (with_reducible refine List.Perm.trans p7 (List.Perm.cons _ ?_)) | (with_reducible refine List.Perm.trans p8 (List.Perm.cons _ ?_)) | (with_reducible refine List.Perm.trans p9 (List.Perm.cons _ ?_)) | (with_reducible refine List.Perm.trans p10 (List.Perm.cons _ ?_)) | (with_reducible refine List.Perm.trans p11 (List.Perm.cons _ ?_)))))⟩
theorem mak_seal (H : Sat z w (makP bm m :: Rs)) (hN : m.N ≤ 256) (hE : EM Rs ads) (id : Int) :
    Spec cf 43 #[.pointer (some ⟨bm, 0, none⟩), .int .i64 id] w fun e w' => e = eA ads (m.sealE id) ∧ Sat z w' (makP bm (m.sealS id) :: Rs) := by
  obtain ⟨ba, b, cap, rest, hc, H2⟩ := mak_open H
  clear H
  have H := H2
  clear H2
  refine enter (l := [.pointer (some ⟨bm, 0, none⟩), .int .i64 id]) Tryd.func43 rfl rfl rfl rfl rfl ?_
  repeat' (first | (refine zA ?_; first | refine zB ?_ | refine zC H ?_ | refine zD H ?_ | refine zE H fun _ _ H => ?_ | refine zF H fun _ _ H => ?_ | refine zG H fun _ H => ?_ | refine zH H fun _ H => ?_) | (refine zI ?_; first | refine zJ ?_ | refine zK ?_ | refine zL ?_ | refine CW.seqDc ?_ | refine CW.seqDb ?_ | refine CW.seqDl ?_ | refine CW.seqDs ?_ | refine CW.seqDk ?_ | refine zN ?_ | refine zO ?_ | refine zP ?_ | refine zQ ?_ | refine zR ?_) | refine zS ?_)
  refine OpsW.call rfl rfl rfl (arenaN_there (H.perm p1) hN id) ?_
  rintro _ w ⟨rfl, H⟩
  replace H := H.perm p1
  cases hon : onN m.N m.f id
  · have e5 : m.sealE id = 5 := if_pos hon
    rw [e5, show m.sealS id = m from if_neg (by rw [e5]; decide)]
    repeat' (first | (refine zA ?_; first | refine zB ?_ | refine zC H ?_ | refine zD H ?_ | refine zE H fun _ _ H => ?_ | refine zF H fun _ _ H => ?_ | refine zG H fun _ H => ?_ | refine zH H fun _ H => ?_) | (refine zI ?_; first | refine zJ ?_ | refine zK ?_ | refine zL ?_ | refine CW.seqDc ?_ | refine CW.seqDb ?_ | refine CW.seqDl ?_ | refine CW.seqDs ?_ | refine CW.seqDk ?_ | refine zN ?_ | refine zO ?_ | refine zP ?_ | refine zQ ?_ | refine zR ?_) | refine zS ?_)
    refine OpsW.ldg H hE.n.tail.tail.tail rfl rfl rfl rfl rfl ?_
    repeat' (first | (refine zA ?_; first | refine zB ?_ | refine zC H ?_ | refine zD H ?_ | refine zE H fun _ _ H => ?_ | refine zF H fun _ _ H => ?_ | refine zG H fun _ H => ?_ | refine zH H fun _ H => ?_ | refine OpsW.mvF rfl rfl rfl ?_ | refine OpsW.asF rfl rfl rfl ?_ | refine OpsW.exF rfl rfl rfl rfl ?_ | refine OpsW.enE rfl rfl rfl rfl ?_ | refine OpsW.enN rfl rfl rfl rfl ?_) | (refine zI ?_; first | refine zJ ?_ | refine zK ?_ | refine zL ?_ | refine zM ?_ | refine zN ?_ | refine zO ?_ | refine zP ?_ | refine zQ ?_ | refine zR ?_) | refine zS ?_)
    exact ret1 (force_eq _) ⟨rfl, mak_close hc H⟩
  obtain ⟨i, rfl, hi, ht⟩ := onN_at hon
  repeat' (first | (refine zA ?_; first | refine zB ?_ | refine zC H ?_ | refine zD H ?_ | refine zE H fun _ _ H => ?_ | refine zF H fun _ _ H => ?_ | refine zG H fun _ H => ?_ | refine zH H fun _ H => ?_) | (refine zI ?_; first | refine zJ ?_ | refine zK ?_ | refine zL ?_ | refine CW.seqDc ?_ | refine CW.seqDb ?_ | refine CW.seqDl ?_ | refine CW.seqDs ?_ | refine CW.seqDk ?_ | refine zN ?_ | refine zO ?_ | refine zP ?_ | refine zQ ?_ | refine zR ?_) | refine zS ?_)
  refine OpsW.ix (n := i) rfl rfl rfl rfl rfl rfl rfl hi rfl ?_
  repeat' (first | (refine zA ?_; first | refine zB ?_ | refine zC H ?_ | refine zD H ?_ | refine zE H fun _ _ H => ?_ | refine zF H fun _ _ H => ?_ | refine zG H fun _ H => ?_ | refine zH H fun _ H => ?_) | (refine zI ?_; first | refine zJ ?_ | refine zK ?_ | refine zL ?_ | refine CW.seqDc ?_ | refine CW.seqDb ?_ | refine CW.seqDl ?_ | refine CW.seqDs ?_ | refine CW.seqDk ?_ | refine zN ?_ | refine zO ?_ | refine zP ?_ | refine zQ ?_ | refine zR ?_) | refine zS ?_)
  refine OpsW.ld H p2 rfl rfl rfl rfl (mks_sealed hi) rfl ?_
  cases hs : m.sl i
  case true =>
    have e9 : m.sealE i = 9 := by
      unfold Mk.sealE
      rw [if_neg (by show ¬ onN m.N m.f i = false; rw [hon]; decide), if_pos (by exact hs)]
    rw [e9, show m.sealS i = m from if_neg (by rw [e9]; decide)]
    repeat' (first | (refine zA ?_; first | refine zB ?_ | refine zC H ?_ | refine zD H ?_ | refine zE H fun _ _ H => ?_ | refine zF H fun _ _ H => ?_ | refine zG H fun _ H => ?_ | refine zH H fun _ H => ?_) | (refine zI ?_; first | refine zJ ?_ | refine zK ?_ | refine zL ?_ | refine CW.seqDc ?_ | refine CW.seqDb ?_ | refine CW.seqDl ?_ | refine CW.seqDs ?_ | refine CW.seqDk ?_ | refine zN ?_ | refine zO ?_ | refine zP ?_ | refine zQ ?_ | refine zR ?_) | refine zS ?_)
    refine OpsW.ldg H hE.t.tail.tail.tail rfl rfl rfl rfl rfl ?_
    repeat' (first | (refine zA ?_; first | refine zB ?_ | refine zC H ?_ | refine zD H ?_ | refine zE H fun _ _ H => ?_ | refine zF H fun _ _ H => ?_ | refine zG H fun _ H => ?_ | refine zH H fun _ H => ?_ | refine OpsW.mvF rfl rfl rfl ?_ | refine OpsW.asF rfl rfl rfl ?_ | refine OpsW.exF rfl rfl rfl rfl ?_ | refine OpsW.enE rfl rfl rfl rfl ?_ | refine OpsW.enN rfl rfl rfl rfl ?_) | (refine zI ?_; first | refine zJ ?_ | refine zK ?_ | refine zL ?_ | refine zM ?_ | refine zN ?_ | refine zO ?_ | refine zP ?_ | refine zQ ?_ | refine zR ?_) | refine zS ?_)
    exact ret1 (force_eq _) ⟨rfl, mak_close hc H⟩
  have e0 : m.sealE i = 0 := by
    unfold Mk.sealE
    rw [if_neg (by show ¬ onN m.N m.f i = false; rw [hon]; decide), if_neg (by show ¬ m.sl i = true; rw [hs]; decide)]
  rw [e0, show m.sealS i = m.setS i from if_pos e0]
  repeat' (first | (refine zA ?_; first | refine zB ?_ | refine zC H ?_ | refine zD H ?_ | refine zE H fun _ _ H => ?_ | refine zF H fun _ _ H => ?_ | refine zG H fun _ H => ?_ | refine zH H fun _ H => ?_) | (refine zI ?_; first | refine zJ ?_ | refine zK ?_ | refine zL ?_ | refine CW.seqDc ?_ | refine CW.seqDb ?_ | refine CW.seqDl ?_ | refine CW.seqDs ?_ | refine CW.seqDk ?_ | refine zN ?_ | refine zO ?_ | refine zP ?_ | refine zQ ?_ | refine zR ?_) | refine zS ?_)
  refine OpsW.ix (n := i) rfl rfl rfl rfl rfl rfl rfl hi rfl ?_
  repeat' (first | (refine zA ?_; first | refine zB ?_ | refine zC H ?_ | refine zD H ?_ | refine zE H fun _ _ H => ?_ | refine zF H fun _ _ H => ?_ | refine zG H fun _ H => ?_ | refine zH H fun _ H => ?_) | (refine zI ?_; first | refine zJ ?_ | refine zK ?_ | refine zL ?_ | refine CW.seqDc ?_ | refine CW.seqDb ?_ | refine CW.seqDl ?_ | refine CW.seqDs ?_ | refine CW.seqDk ?_ | refine zN ?_ | refine zO ?_ | refine zP ?_ | refine zQ ?_ | refine zR ?_) | refine zS ?_)
  refine OpsW.str H p2 rfl rfl rfl rfl rfl rfl (by rw [List.length_append, mks_len]; omega) fun w H => ?_
  rw [mks_seal hi] at H
  repeat' (first | (refine zA ?_; first | refine zB ?_ | refine zC H ?_ | refine zD H ?_ | refine zE H fun _ _ H => ?_ | refine zF H fun _ _ H => ?_ | refine zG H fun _ H => ?_ | refine zH H fun _ H => ?_) | (refine zI ?_; first | refine zJ ?_ | refine zK ?_ | refine zL ?_ | refine CW.seqDc ?_ | refine CW.seqDb ?_ | refine CW.seqDl ?_ | refine CW.seqDs ?_ | refine CW.seqDk ?_ | refine zN ?_ | refine zO ?_ | refine zP ?_ | refine zQ ?_ | refine zR ?_) | refine zS ?_)
  exact ret1 rfl ⟨eA_0.symm, mak_close (m := m.setS i) hc (H.perm (by repeat' (first | (with_reducible exact List.Perm.refl _) | (with_reducible refine List.Perm.trans p0 (List.Perm.cons _ ?_)) | (with_reducible refine List.Perm.trans p1 (List.Perm.cons _ ?_)) | (with_reducible refine List.Perm.trans p2 (List.Perm.cons _ ?_)) | (with_reducible refine List.Perm.trans p3 (List.Perm.cons _ ?_)) | (with_reducible refine List.Perm.trans p4 (List.Perm.cons _ ?_)) | (with_reducible refine List.Perm.trans p5 (List.Perm.cons _ ?_)) | (with_reducible refine List.Perm.trans p6 (List.Perm.cons _ ?_)) | (with_reducible refine List.Perm.trans p7 (List.Perm.cons _ ?_)) | (with_reducible refine List.Perm.trans p8 (List.Perm.cons _ ?_)) | (with_reducible refine List.Perm.trans p9 (List.Perm.cons _ ?_)) | (with_reducible refine List.Perm.trans p10 (List.Perm.cons _ ?_)) | (with_reducible refine List.Perm.trans p11 (List.Perm.cons _ ?_)))))⟩
theorem mak_sealed (H : Sat z w (makP bm m :: Rs)) (hN : m.N ≤ 256) (id : Int) :
    Spec cf 42 #[.pointer (some ⟨bm, 0, none⟩), .int .i64 id] w fun e w' => e = .bool (m.isS id) ∧ Sat z w' (makP bm m :: Rs) := by
  obtain ⟨ba, b, cap, rest, hc, H2⟩ := mak_open H
  clear H
  have H := H2
  clear H2
  refine enter (l := [.pointer (some ⟨bm, 0, none⟩), .int .i64 id]) Tryd.func42 rfl rfl rfl rfl rfl ?_
  repeat' (first | (refine zA ?_; first | refine zB ?_ | refine zC H ?_ | refine zD H ?_ | refine zE H fun _ _ H => ?_ | refine zF H fun _ _ H => ?_ | refine zG H fun _ H => ?_ | refine zH H fun _ H => ?_) | (refine zI ?_; first | refine zJ ?_ | refine zK ?_ | refine zL ?_ | refine CW.seqDc ?_ | refine CW.seqDb ?_ | refine CW.seqDl ?_ | refine CW.seqDs ?_ | refine CW.seqDk ?_ | refine zN ?_ | refine zO ?_ | refine zP ?_ | refine zQ ?_ | refine zR ?_) | refine zS ?_)
  refine OpsW.call rfl rfl rfl (arenaN_there (H.perm p1) hN id) ?_
  rintro _ w ⟨rfl, H⟩
  replace H := H.perm p1
  cases hon : onN m.N m.f id
  · repeat' (first | (refine zA ?_; first | refine zB ?_ | refine zC H ?_ | refine zD H ?_ | refine zE H fun _ _ H => ?_ | refine zF H fun _ _ H => ?_ | refine zG H fun _ H => ?_ | refine zH H fun _ H => ?_) | (refine zI ?_; first | refine zJ ?_ | refine zK ?_ | refine zL ?_ | refine CW.seqDc ?_ | refine CW.seqDb ?_ | refine CW.seqDl ?_ | refine CW.seqDs ?_ | refine CW.seqDk ?_ | refine zN ?_ | refine zO ?_ | refine zP ?_ | refine zQ ?_ | refine zR ?_) | refine zS ?_)
    exact ret1 rfl ⟨by unfold Mk.isS Mk.on; rw [hon]; rfl, mak_close hc H⟩
  obtain ⟨i, rfl, hi, ht⟩ := onN_at hon
  repeat' (first | (refine zA ?_; first | refine zB ?_ | refine zC H ?_ | refine zD H ?_ | refine zE H fun _ _ H => ?_ | refine zF H fun _ _ H => ?_ | refine zG H fun _ H => ?_ | refine zH H fun _ H => ?_) | (refine zI ?_; first | refine zJ ?_ | refine zK ?_ | refine zL ?_ | refine CW.seqDc ?_ | refine CW.seqDb ?_ | refine CW.seqDl ?_ | refine CW.seqDs ?_ | refine CW.seqDk ?_ | refine zN ?_ | refine zO ?_ | refine zP ?_ | refine zQ ?_ | refine zR ?_) | refine zS ?_)
  refine OpsW.ix (n := i) rfl rfl rfl rfl rfl rfl rfl hi rfl ?_
  repeat' (first | (refine zA ?_; first | refine zB ?_ | refine zC H ?_ | refine zD H ?_ | refine zE H fun _ _ H => ?_ | refine zF H fun _ _ H => ?_ | refine zG H fun _ H => ?_ | refine zH H fun _ H => ?_) | (refine zI ?_; first | refine zJ ?_ | refine zK ?_ | refine zL ?_ | refine CW.seqDc ?_ | refine CW.seqDb ?_ | refine CW.seqDl ?_ | refine CW.seqDs ?_ | refine CW.seqDk ?_ | refine zN ?_ | refine zO ?_ | refine zP ?_ | refine zQ ?_ | refine zR ?_) | refine zS ?_)
  refine OpsW.ld H p2 rfl rfl rfl rfl (mks_sealed hi) rfl ?_
  repeat' (first | (refine zA ?_; first | refine zB ?_ | refine zC H ?_ | refine zD H ?_ | refine zE H fun _ _ H => ?_ | refine zF H fun _ _ H => ?_ | refine zG H fun _ H => ?_ | refine zH H fun _ H => ?_) | (refine zI ?_; first | refine zJ ?_ | refine zK ?_ | refine zL ?_ | refine CW.seqDc ?_ | refine CW.seqDb ?_ | refine CW.seqDl ?_ | refine CW.seqDs ?_ | refine CW.seqDk ?_ | refine zN ?_ | refine zO ?_ | refine zP ?_ | refine zQ ?_ | refine zR ?_) | refine zS ?_)
  exact ret1 rfl ⟨by unfold Mk.isS Mk.on; rw [hon]; rfl, mak_close hc H⟩
set_option maxRecDepth 20000 in
theorem clone6_ {v : Value} {p : Nat → K} (H : Sat z w As) (hv : SlR As v 5 6 (pks p)) :
    Spec cf 78 #[v] w fun e w' => ∃ a cap, e = .slice a 6 cap ∧ Sat z w' (vec 41 a 6 cap 5 (pks p) :: As) := by
  obtain ⟨a, cap, rfl⟩ := lenW hv
  obtain ⟨b, off, m, E, fr, rfl, -, -⟩ := hv.at_ (by decide)
  refine enter (l := [.slice (some ⟨b, off, none⟩) 6 cap]) Tryd.func78 rfl rfl rfl rfl rfl ?_
  repeat' (first | (refine zA ?_; first | refine zB ?_ | refine zC H ?_ | refine zD H ?_ | refine zE H fun _ _ H => ?_ | refine zF H fun _ _ H => ?_ | refine zG H fun _ H => ?_ | refine zH H fun _ H => ?_) | (refine zI ?_; first | refine zJ ?_ | refine zK ?_ | refine zL ?_ | refine zM ?_ | refine zN ?_ | refine zO ?_ | refine zP ?_ | refine zQ ?_ | refine zR ?_) | refine zS ?_)
  refine OpsW.bsl H rfl rfl rfl rfl rfl rfl rfl rfl fun bb w H => ?_
  repeat' (first | (refine zA ?_; first | refine zB ?_ | refine zC H ?_ | refine zD H ?_ | refine zE H fun _ _ H => ?_ | refine zF H fun _ _ H => ?_ | refine zG H fun _ H => ?_ | refine zH H fun _ H => ?_) | (refine zI ?_; first | refine zJ ?_ | refine zK ?_ | refine zL ?_ | refine zM ?_ | refine zN ?_ | refine zO ?_ | refine zP ?_ | refine zQ ?_ | refine zR ?_) | refine zS ?_)
  have H2 := H.imp fun h e => vec_blk (E := 41) (n := 0) (cap := 0) (sz := 5) (c := []) (rest := []) e rfl rfl (Nat.le_refl _)
  refine OpsW.vapp (n2 := 6) H2 p0 hv (pks_scal p) (by decide) (by decide) rfl rfl rfl rfl rfl rfl rfl rfl rfl fun a2 cap2 w H => ?_
  rw [Nat.zero_add, List.nil_append] at H
  repeat' (first | (refine zA ?_; first | refine zB ?_ | refine zC H ?_ | refine zD H ?_ | refine zE H fun _ _ H => ?_ | refine zF H fun _ _ H => ?_ | refine zG H fun _ H => ?_ | refine zH H fun _ H => ?_) | (refine zI ?_; first | refine zJ ?_ | refine zK ?_ | refine zL ?_ | refine zM ?_ | refine zN ?_ | refine zO ?_ | refine zP ?_ | refine zQ ?_ | refine zR ?_) | refine zS ?_)
  exact ret1 rfl ⟨a2, cap2, by rw [Nat.zero_add], H⟩
theorem pks_flat (p : Nat → K) : pks p = (mk 6 p).flatMap K.l := by unfold pks; rfl
theorem mak_parts (H : Sat z w (makP bm m :: Rs)) (hN : m.N ≤ 256) (id : Int) :
    Spec cf 44 #[.pointer (some ⟨bm, 0, none⟩), .int .i64 id] w fun e w' => ∃ a cap, e = .slice a (m.parts id).length cap ∧ Sat z w' (kvec a cap (m.parts id) :: makP bm m :: Rs) := by
  obtain ⟨ba, b, cap, rest, hc, H2⟩ := mak_open H
  clear H
  have H := H2
  clear H2
  refine enter (l := [.pointer (some ⟨bm, 0, none⟩), .int .i64 id]) Tryd.func44 rfl rfl rfl rfl rfl ?_
  repeat' (first | (refine zA ?_; first | refine zB ?_ | refine zC H ?_ | refine zD H ?_ | refine zE H fun _ _ H => ?_ | refine zF H fun _ _ H => ?_ | refine zG H fun _ H => ?_ | refine zH H fun _ H => ?_) | (refine zI ?_; first | refine zJ ?_ | refine zK ?_ | refine zL ?_ | refine CW.seqDc ?_ | refine CW.seqDb ?_ | refine CW.seqDl ?_ | refine CW.seqDs ?_ | refine CW.seqDk ?_ | refine zN ?_ | refine zO ?_ | refine zP ?_ | refine zQ ?_ | refine zR ?_) | refine zS ?_)
  refine OpsW.call rfl rfl rfl (arenaN_there (H.perm p1) hN id) ?_
  rintro _ w ⟨rfl, H⟩
  replace H := H.perm p1
  cases hon : onN m.N m.f id
  · rw [show m.parts id = [] from if_neg (by show ¬ onN m.N m.f id = true; rw [hon]; decide)]
    repeat' (first | (refine zA ?_; first | refine zB ?_ | refine zC H ?_ | refine zD H ?_ | refine zE H fun _ _ H => ?_ | refine zF H fun _ _ H => ?_ | refine zG H fun _ H => ?_ | refine zH H fun _ H => ?_) | (refine zI ?_; first | refine zJ ?_ | refine zK ?_ | refine zL ?_ | refine CW.seqDc ?_ | refine CW.seqDb ?_ | refine CW.seqDl ?_ | refine CW.seqDs ?_ | refine CW.seqDk ?_ | refine zN ?_ | refine zO ?_ | refine zP ?_ | refine zQ ?_ | refine zR ?_) | refine zS ?_)
    exact ret1 rfl ⟨none, 0, rfl, Sat.vnil (E := 41) (sz := 5) (mak_close hc H)⟩
  rw [show m.parts id = mk 6 (m.pt id.toNat) from if_pos hon]
  obtain ⟨i, rfl, hi, ht⟩ := onN_at hon
  repeat' (first | (refine zA ?_; first | refine zB ?_ | refine zC H ?_ | refine zD H ?_ | refine zE H fun _ _ H => ?_ | refine zF H fun _ _ H => ?_ | refine zG H fun _ H => ?_ | refine zH H fun _ H => ?_) | (refine zI ?_; first | refine zJ ?_ | refine zK ?_ | refine zL ?_ | refine CW.seqDc ?_ | refine CW.seqDb ?_ | refine CW.seqDl ?_ | refine CW.seqDs ?_ | refine CW.seqDk ?_ | refine zN ?_ | refine zO ?_ | refine zP ?_ | refine zQ ?_ | refine zR ?_) | refine zS ?_)
  refine OpsW.ix (n := i) rfl rfl rfl rfl rfl rfl rfl hi rfl ?_
  repeat' (first | (refine zA ?_; first | refine zB ?_ | refine zC H ?_ | refine zD H ?_ | refine zE H fun _ _ H => ?_ | refine zF H fun _ _ H => ?_ | refine zG H fun _ H => ?_ | refine zH H fun _ H => ?_) | (refine zI ?_; first | refine zJ ?_ | refine zK ?_ | refine zL ?_ | refine CW.seqDc ?_ | refine CW.seqDb ?_ | refine CW.seqDl ?_ | refine CW.seqDs ?_ | refine CW.seqDk ?_ | refine zN ?_ | refine zO ?_ | refine zP ?_ | refine zQ ?_ | refine zR ?_) | refine zS ?_)
  refine OpsW.ldA H p2 rfl rfl rfl (mks_parts hi) rfl ?_
  refine OpsW.alloc (l := pks fun _ => K.void) H rfl rfl ((forceL_eq _ _).trans (congrArg some zeroP6)) rfl fun bl w H => ?_
  refine OpsW.strA (vs := pks (m.pt i)) H p0 rfl rfl (forceL_eq _ _) (pks_scal _) rfl (pks_len _) (by rw [pks_len, pks_len]; decide) fun w H => ?_
  rw [pks_over] at H
  repeat' (first | (refine zA ?_; first | refine zB ?_ | refine zC H ?_ | refine zD H ?_ | refine zE H fun _ _ H => ?_ | refine zF H fun _ _ H => ?_ | refine zG H fun _ H => ?_ | refine zH H fun _ H => ?_) | (refine zI ?_; first | refine zJ ?_ | refine zK ?_ | refine zL ?_ | refine CW.seqDc ?_ | refine CW.seqDb ?_ | refine CW.seqDl ?_ | refine CW.seqDs ?_ | refine CW.seqDk ?_ | refine zN ?_ | refine zO ?_ | refine zP ?_ | refine zQ ?_ | refine zR ?_) | refine zS ?_)
  refine OpsW.slcA rfl rfl rfl rfl rfl rfl ?_
  refine OpsW.call rfl rfl rfl (clone6_ H (slr_pks _)) ?_
  rintro _ w ⟨a2, cap2, rfl, H⟩
  repeat' (first | (refine zA ?_; first | refine zB ?_ | refine zC H ?_ | refine zD H ?_ | refine zE H fun _ _ H => ?_ | refine zF H fun _ _ H => ?_ | refine zG H fun _ H => ?_ | refine zH H fun _ H => ?_) | (refine zI ?_; first | refine zJ ?_ | refine zK ?_ | refine zL ?_ | refine CW.seqDc ?_ | refine CW.seqDb ?_ | refine CW.seqDl ?_ | refine CW.seqDs ?_ | refine CW.seqDk ?_ | refine zN ?_ | refine zO ?_ | refine zP ?_ | refine zQ ?_ | refine zR ?_) | refine zS ?_)
  refine ret1 rfl ⟨a2, cap2, by rw [mk_length], ?_⟩
  refine kvec_mk (n := 6) (c := pks (m.pt i)) ((mak_close hc ((H.perm p1).drop.perm p3.symm)).perm (.swap _ _ _)) rfl mk_length.symm (pks_flat _)
end
end Go.Proofs.YtbmfpkpcljihgaaDoor.X
