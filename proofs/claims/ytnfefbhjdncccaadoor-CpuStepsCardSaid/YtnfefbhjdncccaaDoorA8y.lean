/- The document's system, as a store: nodes and pages; conditions: none. -/
import Derived.Test.YtnfefbhjdncccaaDoorA9x
import Derived.Test.YtnfefbhjdncccaaDoorA8t
import Derived.Test.YtnfefbhjdncccaaDoorX27
namespace Go.Proofs.YtnfefbhjdncccaaDoor.X
open Go Go.Proofs
set_option linter.unusedSimpArgs false
set_option linter.unusedVariables false
/-- A place of the document's, as a place of an arena. -/
def sl8 (p : Pl) : List Value := [.bool p.there, .bool p.gone, .int .i64 p.ver, .int .i64 (-1)]
theorem sl8_len (p : Pl) : (sl8 p).length = 4 := rfl
def slo8 (b n : Nat) (r : List Value) (f : Nat → Pl) : HP := blk b 169 ((mk n f).flatMap sl8 ++ r)
/-- Where the parts of a system lie. -/
structure SyV where
  s1 : Nat
  c1 : Nat
  s2 : Nat
  c2 : Nat
  bN : Nat
  bP : Nat
  r1 : List Value
  r2 : List Value
  v2 : Value
  v3 : Value
  v4 : Value
  v5 : Value
  v8 : Value
  v9 : Value
  va : Value
  vb : Value
  vc : Value
  vd : Value
  ve : Value
  vf : Value
def syP (bx : Nat) (s : St) : HP := fun h => ∃ p : SyV, stars [blk bx 115 [.slice (some ⟨p.s1, 0, none⟩) s.N p.c1, .slice (some ⟨p.s2, 0, none⟩) s.M p.c2, p.v2, p.v3, p.v4, p.v5, .slice (some ⟨p.bN, 0, none⟩) s.N s.N, .slice (some ⟨p.bP, 0, none⟩) s.M s.M, p.v8, p.v9, p.va, p.vb, p.vc, p.vd, p.ve, p.vf], slo8 p.s2 s.M p.r2 s.g, slo8 p.s1 s.N p.r1 s.f, blk p.bP 106 (pgs s.M s.pg), blk p.bN 68 (nds s.N s.nd)] h
section
variable {z w : World} {As : List HP} {bx : Nat} {s : St} {p : SyV}
theorem sy_open (H : Sat z w (syP bx s :: As)) : ∃ p : SyV, Sat z w (blk bx 115 [.slice (some ⟨p.s1, 0, none⟩) s.N p.c1, .slice (some ⟨p.s2, 0, none⟩) s.M p.c2, p.v2, p.v3, p.v4, p.v5, .slice (some ⟨p.bN, 0, none⟩) s.N s.N, .slice (some ⟨p.bP, 0, none⟩) s.M s.M, p.v8, p.v9, p.va, p.vb, p.vc, p.vd, p.ve, p.vf] :: slo8 p.s2 s.M p.r2 s.g :: slo8 p.s1 s.N p.r1 s.f :: blk p.bP 106 (pgs s.M s.pg) :: blk p.bN 68 (nds s.N s.nd) :: As) := by
  obtain ⟨p, H⟩ := H.ex
  exact ⟨p, H.splits⟩
theorem sy_close (H : Sat z w (blk bx 115 [.slice (some ⟨p.s1, 0, none⟩) s.N p.c1, .slice (some ⟨p.s2, 0, none⟩) s.M p.c2, p.v2, p.v3, p.v4, p.v5, .slice (some ⟨p.bN, 0, none⟩) s.N s.N, .slice (some ⟨p.bP, 0, none⟩) s.M s.M, p.v8, p.v9, p.va, p.vb, p.vc, p.vd, p.ve, p.vf] :: slo8 p.s2 s.M p.r2 s.g :: slo8 p.s1 s.N p.r1 s.f :: blk p.bP 106 (pgs s.M s.pg) :: blk p.bN 68 (nds s.N s.nd) :: As)) : Sat z w (syP bx s :: As) :=
  (Sat.joins (m := [blk bx 115 [.slice (some ⟨p.s1, 0, none⟩) s.N p.c1, .slice (some ⟨p.s2, 0, none⟩) s.M p.c2, p.v2, p.v3, p.v4, p.v5, .slice (some ⟨p.bN, 0, none⟩) s.N s.N, .slice (some ⟨p.bP, 0, none⟩) s.M s.M, p.v8, p.v9, p.va, p.vb, p.vc, p.vd, p.ve, p.vf], slo8 p.s2 s.M p.r2 s.g, slo8 p.s1 s.N p.r1 s.f, blk p.bP 106 (pgs s.M s.pg), blk p.bN 68 (nds s.N s.nd)]) H).imp fun h x => ⟨p, x⟩
theorem sy_mk {s1 c1 s2 c2 bN bP : Nat} {r1 r2 : List Value} {v2 v3 v4 v5 v8 v9 va vb vc vd ve vf : Value} (H : Sat z w (blk bx 115 [.slice (some ⟨s1, 0, none⟩) s.N c1, .slice (some ⟨s2, 0, none⟩) s.M c2, v2, v3, v4, v5, .slice (some ⟨bN, 0, none⟩) s.N s.N, .slice (some ⟨bP, 0, none⟩) s.M s.M, v8, v9, va, vb, vc, vd, ve, vf] :: slo8 s2 s.M r2 s.g :: slo8 s1 s.N r1 s.f :: blk bP 106 (pgs s.M s.pg) :: blk bN 68 (nds s.N s.nd) :: As)) : Sat z w (syP bx s :: As) :=
  sy_close (p := ⟨s1, c1, s2, c2, bN, bP, r1, r2, v2, v3, v4, v5, v8, v9, va, vb, vc, vd, ve, vf⟩) H
theorem slo_sl8 (n : Nat) : (mk n fun _ => false).flatMap slo = (mk n fun _ => Pl.z).flatMap sl8 := by
  simp [mk, List.flatMap_map]; rfl
theorem sl8_get {n : Nat} {f : Nat → Pl} {r : List Value} {i : Nat} (o : Nat) (hi : i < n) (ho : o < 4) : ((mk n f).flatMap sl8 ++ r)[0 + i * 4 + o]? = (sl8 (f i))[o]? := by
  have := fl_get sl8 4 sl8_len (mk n f) r i o (by rw [mk_length]; exact hi) ho
  rw [mk_get] at this
  rw [Nat.zero_add]; exact this
theorem sl8_put {n : Nat} {f : Nat → Pl} {r : List Value} {i : Nat} (hi : i < n) : ((mk n f).flatMap sl8 ++ r).set (0 + i * 4 + 0) (.bool true) = (mk n fun j => if j = i then (f i).take else f j).flatMap sl8 ++ r := by
  rw [Nat.zero_add, fl_set sl8 4 sl8_len (mk n f) r i 0 (by rw [mk_length]; exact hi) (by decide) (.bool true) (f i).take (by rw [mk_get]; rfl), mk_set]
theorem sl8_len4 {n : Nat} {f : Nat → Pl} {r : List Value} : ((mk n f).flatMap sl8 ++ r).length = n * 4 + r.length := by
  rw [List.length_append, fl_length sl8 4 sl8_len, mk_length]
theorem kds0z : [.int .i64 0, .int .i64 0, .int .i64 0, .int .i64 0, .int .u32 0, .int .i64 0, .int .i64 0, .int .i64 0, .int .i64 0, .int .u32 0, .int .i64 0, .int .i64 0, .int .i64 0, .int .i64 0, .int .u32 0, .int .i64 0, .int .i64 0, .int .i64 0, .int .i64 0, .int .u32 0, .int .i64 0, .int .i64 0, .int .i64 0, .int .i64 0, .int .u32 0, .int .i64 0, .int .i64 0, .int .i64 0, .int .i64 0, .int .u32 0, .int .i64 0, .int .i64 0, .int .i64 0, .int .i64 0, .int .u32 0, .int .i64 0, .int .i64 0, .int .i64 0, .int .i64 0, .int .u32 0, .int .i64 0, .int .i64 0, .int .i64 0, .int .i64 0, .int .u32 0, .int .i64 0, .int .i64 0, .int .i64 0, .int .i64 0, .int .u32 0, .int .i64 0, .int .i64 0, .int .i64 0, .int .i64 0, .int .u32 0, .int .i64 0, .int .i64 0, .int .i64 0, .int .i64 0, .int .u32 0, .int .i64 0, .int .i64 0, .int .i64 0, .int .i64 0, .int .u32 0, .int .i64 0, .int .i64 0, .int .i64 0, .int .i64 0, .int .u32 0, .int .i64 0, .int .i64 0, .int .i64 0, .int .i64 0, .int .u32 0, .int .i64 0, .int .i64 0, .int .i64 0, .int .i64 0, .int .u32 0] = kds fun _ => K.void := rfl
attribute [local irreducible] CW OpsW RetW Spec blk snap DrawP AnyW AnyM AnyN bits IntKind.wrap vec arena kds nds wds pgs eA nodesP pagesP slo8
set_option maxRecDepth 20000 in
theorem sy_new (H : Sat z w As) (n m : Nat) (hn0 : 0 < n) (hn : n ≤ 64) (hm0 : 0 < m) (hm : m ≤ 64) : Spec cf 100 #[.int .i64 n, .int .i64 m, .int .i64 0, .int .i64 0, .int .i64 0, .int .i64 0] w fun e w' => ∃ bx : Nat, e = .pointer (some ⟨bx, 0, none⟩) ∧ Sat z w' (syP bx (St.new n m) :: As) := by
  refine enter (l := [.int .i64 n, .int .i64 m, .int .i64 0, .int .i64 0, .int .i64 0, .int .i64 0]) Tryd.func100 rfl rfl rfl rfl rfl ?_
  repeat' (first | (refine zA ?_; first | refine zB ?_ | refine zC H ?_ | refine zD H ?_ | refine zE H fun _ _ H => ?_ | refine zF H fun _ _ H => ?_ | refine zG H fun _ H => ?_ | refine zH H fun _ H => ?_) | (refine zI ?_; first | refine zJ ?_ | refine zK ?_ | refine zL ?_ | refine CW.seqDc ?_ | refine CW.seqDb ?_ | refine CW.seqDl ?_ | refine CW.seqDs ?_ | refine CW.seqDk ?_ | refine zN ?_ | refine zO ?_ | refine zP ?_ | refine zQ ?_ | refine zR ?_) | refine zS ?_)
  refine OpsW.call rfl rfl rfl (slots_ H n hn) ?_
  rintro _ w ⟨a1, c1, rfl, H⟩
  repeat' (first | (refine zA ?_; first | refine zB ?_ | refine zC H ?_ | refine zD H ?_ | refine zE H fun _ _ H => ?_ | refine zF H fun _ _ H => ?_ | refine zG H fun _ H => ?_ | refine zH H fun _ H => ?_) | (refine zI ?_; first | refine zJ ?_ | refine zK ?_ | refine zL ?_ | refine CW.seqDc ?_ | refine CW.seqDb ?_ | refine CW.seqDl ?_ | refine CW.seqDs ?_ | refine CW.seqDk ?_ | refine zN ?_ | refine zO ?_ | refine zP ?_ | refine zQ ?_ | refine zR ?_) | refine zS ?_)
  refine OpsW.call rfl rfl rfl (slots_ H m hm) ?_
  rintro _ w ⟨a2, c2, rfl, H⟩
  repeat' (first | (refine zA ?_; first | refine zB ?_ | refine zC H ?_ | refine zD H ?_ | refine zE H fun _ _ H => ?_ | refine zF H fun _ _ H => ?_ | refine zG H fun _ H => ?_ | refine zH H fun _ H => ?_) | (refine zI ?_; first | refine zJ ?_ | refine zK ?_ | refine zL ?_ | refine CW.seqDc ?_ | refine CW.seqDb ?_ | refine CW.seqDl ?_ | refine CW.seqDs ?_ | refine CW.seqDk ?_ | refine zN ?_ | refine zO ?_ | refine zP ?_ | refine zQ ?_ | refine zR ?_) | refine zS ?_)
  refine OpsW.call rfl rfl rfl (slots_ H 0 (by decide)) ?_
  rintro _ w ⟨b0, d0, rfl, H⟩
  replace H := H.drop
  repeat' (first | (refine zA ?_; first | refine zB ?_ | refine zC H ?_ | refine zD H ?_ | refine zE H fun _ _ H => ?_ | refine zF H fun _ _ H => ?_ | refine zG H fun _ H => ?_ | refine zH H fun _ H => ?_) | (refine zI ?_; first | refine zJ ?_ | refine zK ?_ | refine zL ?_ | refine CW.seqDc ?_ | refine CW.seqDb ?_ | refine CW.seqDl ?_ | refine CW.seqDs ?_ | refine CW.seqDk ?_ | refine zN ?_ | refine zO ?_ | refine zP ?_ | refine zQ ?_ | refine zR ?_) | refine zS ?_)
  refine OpsW.call rfl rfl rfl (slots_ H 0 (by decide)) ?_
  rintro _ w ⟨b1, d1, rfl, H⟩
  replace H := H.drop
  repeat' (first | (refine zA ?_; first | refine zB ?_ | refine zC H ?_ | refine zD H ?_ | refine zE H fun _ _ H => ?_ | refine zF H fun _ _ H => ?_ | refine zG H fun _ H => ?_ | refine zH H fun _ H => ?_) | (refine zI ?_; first | refine zJ ?_ | refine zK ?_ | refine zL ?_ | refine CW.seqDc ?_ | refine CW.seqDb ?_ | refine CW.seqDl ?_ | refine CW.seqDs ?_ | refine CW.seqDk ?_ | refine zN ?_ | refine zO ?_ | refine zP ?_ | refine zQ ?_ | refine zR ?_) | refine zS ?_)
  refine OpsW.call rfl rfl rfl (slots_ H 0 (by decide)) ?_
  rintro _ w ⟨b2, d2, rfl, H⟩
  replace H := H.drop
  repeat' (first | (refine zA ?_; first | refine zB ?_ | refine zC H ?_ | refine zD H ?_ | refine zE H fun _ _ H => ?_ | refine zF H fun _ _ H => ?_ | refine zG H fun _ H => ?_ | refine zH H fun _ H => ?_) | (refine zI ?_; first | refine zJ ?_ | refine zK ?_ | refine zL ?_ | refine CW.seqDc ?_ | refine CW.seqDb ?_ | refine CW.seqDl ?_ | refine CW.seqDs ?_ | refine CW.seqDk ?_ | refine zN ?_ | refine zO ?_ | refine zP ?_ | refine zQ ?_ | refine zR ?_) | refine zS ?_)
  refine OpsW.call rfl rfl rfl (slots_ H 0 (by decide)) ?_
  rintro _ w ⟨b3, d3, rfl, H⟩
  replace H := H.drop
  repeat' (first | (refine zA ?_; first | refine zB ?_ | refine zC H ?_ | refine zD H ?_ | refine zE H fun _ _ H => ?_ | refine zF H fun _ _ H => ?_ | refine zG H fun _ H => ?_ | refine zH H fun _ H => ?_) | (refine zI ?_; first | refine zJ ?_ | refine zK ?_ | refine zL ?_ | refine CW.seqDc ?_ | refine CW.seqDb ?_ | refine CW.seqDl ?_ | refine CW.seqDs ?_ | refine CW.seqDk ?_ | refine zN ?_ | refine zO ?_ | refine zP ?_ | refine zQ ?_ | refine zR ?_) | refine zS ?_)
  refine OpsW.mks H rfl rfl rfl rfl rfl (by omega) rfl rfl rfl rfl rfl fun bN w H => ?_
  replace H := H.imp (B := blk bN 68 (nds n fun _ _ => K.void)) fun h e => by rw [← nds_repl, ← zero16]; exact e
  repeat' (first | (refine zA ?_; first | refine zB ?_ | refine zC H ?_ | refine zD H ?_ | refine zE H fun _ _ H => ?_ | refine zF H fun _ _ H => ?_ | refine zG H fun _ H => ?_ | refine zH H fun _ H => ?_) | (refine zI ?_; first | refine zJ ?_ | refine zK ?_ | refine zL ?_ | refine CW.seqDc ?_ | refine CW.seqDb ?_ | refine CW.seqDl ?_ | refine CW.seqDs ?_ | refine CW.seqDk ?_ | refine zN ?_ | refine zO ?_ | refine zP ?_ | refine zQ ?_ | refine zR ?_) | refine zS ?_)
  refine OpsW.mks H rfl rfl rfl rfl rfl (by omega) rfl rfl rfl rfl rfl fun bP w H => ?_
  replace H := H.imp (B := blk bP 106 (pgs m fun _ _ => 0)) fun h e => by rw [← pgs_repl]; exact e
  repeat' (first | (refine zA ?_; first | refine zB ?_ | refine zC H ?_ | refine zD H ?_ | refine zE H fun _ _ H => ?_ | refine zF H fun _ _ H => ?_ | refine zG H fun _ H => ?_ | refine zH H fun _ H => ?_) | (refine zI ?_; first | refine zJ ?_ | refine zK ?_ | refine zL ?_ | refine CW.seqDc ?_ | refine CW.seqDb ?_ | refine CW.seqDl ?_ | refine CW.seqDs ?_ | refine CW.seqDk ?_ | refine zN ?_ | refine zO ?_ | refine zP ?_ | refine zQ ?_ | refine zR ?_) | refine zS ?_)
  refine OpsW.mks (n := 0) H rfl rfl rfl rfl rfl (by omega) rfl rfl rfl rfl rfl fun bD w H => ?_
  replace H := H.drop
  repeat' (first | (refine zA ?_; first | refine zB ?_ | refine zC H ?_ | refine zD H ?_ | refine zE H fun _ _ H => ?_ | refine zF H fun _ _ H => ?_ | refine zG H fun _ H => ?_ | refine zH H fun _ H => ?_) | (refine zI ?_; first | refine zJ ?_ | refine zK ?_ | refine zL ?_ | refine CW.seqDc ?_ | refine CW.seqDb ?_ | refine CW.seqDl ?_ | refine CW.seqDs ?_ | refine CW.seqDk ?_ | refine zN ?_ | refine zO ?_ | refine zP ?_ | refine zQ ?_ | refine zR ?_) | refine zS ?_)
  refine OpsW.mks (n := 0) H rfl rfl rfl rfl rfl (by omega) rfl rfl rfl rfl rfl fun bM w H => ?_
  replace H := H.drop
  repeat' (first | (refine zA ?_; first | refine zB ?_ | refine zC H ?_ | refine zD H ?_ | refine zE H fun _ _ H => ?_ | refine zF H fun _ _ H => ?_ | refine zG H fun _ H => ?_ | refine zH H fun _ H => ?_) | (refine zI ?_; first | refine zJ ?_ | refine zK ?_ | refine zL ?_ | refine CW.seqDc ?_ | refine CW.seqDb ?_ | refine CW.seqDl ?_ | refine CW.seqDs ?_ | refine CW.seqDk ?_ | refine zN ?_ | refine zO ?_ | refine zP ?_ | refine zQ ?_ | refine zR ?_) | refine zS ?_)
  refine OpsW.mks (n := 0) H rfl rfl rfl rfl rfl (by omega) rfl rfl rfl rfl rfl fun bB w H => ?_
  replace H := H.drop
  repeat' (first | (refine zA ?_; first | refine zB ?_ | refine zC H ?_ | refine zD H ?_ | refine zE H fun _ _ H => ?_ | refine zF H fun _ _ H => ?_ | refine zG H fun _ H => ?_ | refine zH H fun _ H => ?_) | (refine zI ?_; first | refine zJ ?_ | refine zK ?_ | refine zL ?_ | refine CW.seqDc ?_ | refine CW.seqDb ?_ | refine CW.seqDl ?_ | refine CW.seqDs ?_ | refine CW.seqDk ?_ | refine zN ?_ | refine zO ?_ | refine zP ?_ | refine zQ ?_ | refine zR ?_) | refine zS ?_)
  refine OpsW.mks (n := 0) H rfl rfl rfl rfl rfl (by omega) rfl rfl rfl rfl rfl fun bF w H => ?_
  replace H := H.drop
  repeat' (first | (refine zA ?_; first | refine zB ?_ | refine zC H ?_ | refine zD H ?_ | refine zE H fun _ _ H => ?_ | refine zF H fun _ _ H => ?_ | refine zG H fun _ H => ?_ | refine zH H fun _ H => ?_) | (refine zI ?_; first | refine zJ ?_ | refine zK ?_ | refine zL ?_ | refine CW.seqDc ?_ | refine CW.seqDb ?_ | refine CW.seqDl ?_ | refine CW.seqDs ?_ | refine CW.seqDk ?_ | refine zN ?_ | refine zO ?_ | refine zP ?_ | refine zQ ?_ | refine zR ?_) | refine zS ?_)
  have H2 := H.perm (pS (pS (pS p0)))
  clear H
  rcases H2.vcases with ⟨s2, r2, ⟨rfl, hc2, hr2, hn2⟩, H⟩ | ⟨⟨rfl, h00, -, -⟩, -⟩
  case inr => omega
  clear H2
  have H2 := H.perm (pS (pS (pS (pS p0))))
  clear H
  rcases H2.vcases with ⟨s1, r1, ⟨rfl, hc1, hr1, hn1⟩, H⟩ | ⟨⟨rfl, h00, -, -⟩, -⟩
  case inr => omega
  clear H2
  rw [slo_sl8, slo_sl8] at H
  refine ret1 rfl ⟨_, rfl, ?_⟩
  unfold slo8 at *
  exact sy_mk (s := St.new n m) (r1 := r1) (r2 := r2) (by unfold slo8; exact H.perm (by repeat' (first | (with_reducible exact List.Perm.refl _) | (with_reducible refine List.Perm.trans p0 (List.Perm.cons _ ?_)) | (with_reducible refine List.Perm.trans p1 (List.Perm.cons _ ?_)) | (with_reducible refine List.Perm.trans p2 (List.Perm.cons _ ?_)) | (with_reducible refine List.Perm.trans p3 (List.Perm.cons _ ?_)) | (with_reducible refine List.Perm.trans p4 (List.Perm.cons _ ?_)) | (with_reducible refine List.Perm.trans p5 (List.Perm.cons _ ?_)) | (with_reducible refine List.Perm.trans p6 (List.Perm.cons _ ?_)) | (with_reducible refine List.Perm.trans p7 (List.Perm.cons _ ?_)) | (with_reducible refine List.Perm.trans p8 (List.Perm.cons _ ?_)) | (with_reducible refine List.Perm.trans p9 (List.Perm.cons _ ?_)) | (with_reducible refine List.Perm.trans p10 (List.Perm.cons _ ?_)) | (with_reducible refine List.Perm.trans p11 (List.Perm.cons _ ?_)))))
theorem sy_small (H : Sat z w As) (n m : Nat) (hn0 : 0 < n) (hn : n ≤ 64) (hm0 : 0 < m) (hm : m ≤ 64) : Spec cf 65 #[.int .i64 n, .int .i64 m] w fun e w' => ∃ bx : Nat, e = .pointer (some ⟨bx, 0, none⟩) ∧ Sat z w' (syP bx (St.new n m) :: As) := by
  refine enter (l := [.int .i64 n, .int .i64 m]) Tryd.func65 rfl rfl rfl rfl rfl ?_
  repeat' (first | (refine zA ?_; first | refine zB ?_ | refine zC H ?_ | refine zD H ?_ | refine zE H fun _ _ H => ?_ | refine zF H fun _ _ H => ?_ | refine zG H fun _ H => ?_ | refine zH H fun _ H => ?_) | (refine zI ?_; first | refine zJ ?_ | refine zK ?_ | refine zL ?_ | refine zM ?_ | refine zN ?_ | refine zO ?_ | refine zP ?_ | refine zQ ?_ | refine zR ?_) | refine zS ?_)
  refine OpsW.call rfl rfl rfl (sy_new H n m hn0 hn hm0 hm) ?_
  rintro _ w ⟨bx, rfl, H⟩
  repeat' (first | (refine zA ?_; first | refine zB ?_ | refine zC H ?_ | refine zD H ?_ | refine zE H fun _ _ H => ?_ | refine zF H fun _ _ H => ?_ | refine zG H fun _ H => ?_ | refine zH H fun _ H => ?_) | (refine zI ?_; first | refine zJ ?_ | refine zK ?_ | refine zL ?_ | refine zM ?_ | refine zN ?_ | refine zO ?_ | refine zP ?_ | refine zQ ?_ | refine zR ?_) | refine zS ?_)
  exact ret1 rfl ⟨bx, rfl, H⟩
set_option maxRecDepth 20000 in
theorem take8_ {b n cap : Nat} {f : Nat → Pl} {r : List Value} (H : Sat z w (slo8 b n r f :: As)) (hn : n ≤ 64) : Spec cf 101 #[.slice (some ⟨b, 0, none⟩) n cap] w fun e w' => e = .int .i64 (match fst_ n f with | some q => (q : Int) | none => -1) ∧ Sat z w' (slo8 b n r f :: As) := by
  refine enter (l := [.slice (some ⟨b, 0, none⟩) n cap]) Tryd.func101 rfl rfl rfl rfl rfl ?_
  repeat' (first | (refine zA ?_; first | refine zB ?_ | refine zC H ?_ | refine zD H ?_ | refine zE H fun _ _ H => ?_ | refine zF H fun _ _ H => ?_ | refine zG H fun _ H => ?_ | refine zH H fun _ H => ?_) | (refine zI ?_; first | refine zJ ?_ | refine zK ?_ | refine zL ?_ | refine zM ?_ | refine zN ?_ | refine zO ?_ | refine zP ?_ | refine zQ ?_ | refine zR ?_) | refine zS ?_)
  refine CW.loopF (X := Nat) (fun j => Nat.ble 3 j) (fun i => [(3, .int .i64 (i : Int))]) (fun i w => (i ≤ n ∧ ∀ j, j < i → (f j).free = false) ∧ Sat z w (slo8 b n r f :: As)) (fun i => n - i) 0 ⟨rfl, trivial⟩ ⟨⟨Nat.zero_le _, fun j hj => absurd hj (Nat.not_lt_zero j)⟩, H⟩ ?_
  clear H
  rintro i τ w ⟨⟨hi, hb⟩, H⟩
  repeat' (first | (refine zA ?_; first | refine zB ?_ | refine zC H ?_ | refine zD H ?_ | refine zE H fun _ _ H => ?_ | refine zF H fun _ _ H => ?_ | refine zG H fun _ H => ?_ | refine zH H fun _ H => ?_) | (refine zI ?_; first | refine zJ ?_ | refine zK ?_ | refine zL ?_ | refine zM ?_ | refine zN ?_ | refine zO ?_ | refine zP ?_ | refine zQ ?_ | refine zR ?_) | refine zS ?_)
  refine CW.cond rfl (fun h => ?_) (fun h => ?_)
  · have hin : i < n := by have := of_decide_eq_true h; omega
    have hg0 := sl8_get (f := f) (r := r) 0 hin (by decide)
    have hg1 := sl8_get (f := f) (r := r) 1 hin (by decide)
    replace hg0 : ((mk n f).flatMap sl8 ++ r)[0 + i * 4 + 0]? = some (.bool (f i).there) := hg0
    replace hg1 : ((mk n f).flatMap sl8 ++ r)[0 + i * 4 + 1]? = some (.bool (f i).gone) := hg1
    have hfree : (f i).free = (!(f i).there && !(f i).gone) := rfl
    unfold slo8 at H
    repeat' (first | (refine zA ?_; first | refine zB ?_ | refine zC H ?_ | refine zD H ?_ | refine zE H fun _ _ H => ?_ | refine zF H fun _ _ H => ?_ | refine zG H fun _ H => ?_ | refine zH H fun _ H => ?_) | (refine zI ?_; first | refine zJ ?_ | refine zK ?_ | refine zL ?_ | refine zM ?_ | refine zN ?_ | refine zO ?_ | refine zP ?_ | refine zQ ?_ | refine zR ?_) | refine zS ?_)
    refine OpsW.ix (n := i) rfl rfl rfl rfl rfl rfl rfl hin rfl ?_
    repeat' (first | (refine zA ?_; first | refine zB ?_ | refine zC H ?_ | refine zD H ?_ | refine zE H fun _ _ H => ?_ | refine zF H fun _ _ H => ?_ | refine zG H fun _ H => ?_ | refine zH H fun _ H => ?_) | (refine zI ?_; first | refine zJ ?_ | refine zK ?_ | refine zL ?_ | refine zM ?_ | refine zN ?_ | refine zO ?_ | refine zP ?_ | refine zQ ?_ | refine zR ?_) | refine zS ?_)
    refine OpsW.ld H p0 rfl rfl rfl rfl hg0 rfl ?_
    cases ht : (f i).there
    · repeat' (first | (refine zA ?_; first | refine zB ?_ | refine zC H ?_ | refine zD H ?_ | refine zE H fun _ _ H => ?_ | refine zF H fun _ _ H => ?_ | refine zG H fun _ H => ?_ | refine zH H fun _ H => ?_) | (refine zI ?_; first | refine zJ ?_ | refine zK ?_ | refine zL ?_ | refine zM ?_ | refine zN ?_ | refine zO ?_ | refine zP ?_ | refine zQ ?_ | refine zR ?_) | refine zS ?_)
      refine OpsW.ix (n := i) rfl rfl rfl rfl rfl rfl rfl hin rfl ?_
      repeat' (first | (refine zA ?_; first | refine zB ?_ | refine zC H ?_ | refine zD H ?_ | refine zE H fun _ _ H => ?_ | refine zF H fun _ _ H => ?_ | refine zG H fun _ H => ?_ | refine zH H fun _ H => ?_) | (refine zI ?_; first | refine zJ ?_ | refine zK ?_ | refine zL ?_ | refine zM ?_ | refine zN ?_ | refine zO ?_ | refine zP ?_ | refine zQ ?_ | refine zR ?_) | refine zS ?_)
      refine OpsW.ld H p0 rfl rfl rfl rfl hg1 rfl ?_
      cases hgn : (f i).gone
      · repeat' (first | (refine zA ?_; first | refine zB ?_ | refine zC H ?_ | refine zD H ?_ | refine zE H fun _ _ H => ?_ | refine zF H fun _ _ H => ?_ | refine zG H fun _ H => ?_ | refine zH H fun _ H => ?_) | (refine zI ?_; first | refine zJ ?_ | refine zK ?_ | refine zL ?_ | refine zM ?_ | refine zN ?_ | refine zO ?_ | refine zP ?_ | refine zQ ?_ | refine zR ?_) | refine zS ?_)
        have hq : fst_ n f = some i := fst_is hin (by rw [hfree, ht, hgn]; rfl) hb
        exact ret1 rfl ⟨by rw [hq], by unfold slo8; exact H⟩
      · repeat' (first | (refine zA ?_; first | refine zB ?_ | refine zC H ?_ | refine zD H ?_ | refine zE H fun _ _ H => ?_ | refine zF H fun _ _ H => ?_ | refine zG H fun _ H => ?_ | refine zH H fun _ H => ?_) | (refine zI ?_; first | refine zJ ?_ | refine zK ?_ | refine zL ?_ | refine zM ?_ | refine zN ?_ | refine zO ?_ | refine zP ?_ | refine zQ ?_ | refine zR ?_) | refine zS ?_)
        refine ⟨i + 1, (by (repeat (first | (with_reducible exact Agree.refl _ _) | (with_reducible refine Agree.trim (by assumption) ?_) | refine Agree.upd ?_ rfl | exact Agree.mix' | refine Agree.mixL ?_ (fun j h => by simp only [Bool.or_eq_true, Bool.and_eq_true, Nat.beq_eq, Nat.ble_eq] at h ⊢; omega) rfl))), ⟨nat_succ (n := n) hin (by omega), trivial⟩, ⟨⟨hin, fun j hj => ?_⟩, by unfold slo8; exact H⟩, by omega⟩
        rcases (show j < i ∨ j = i by omega) with h1 | rfl
        · exact hb j h1
        · rw [hfree, ht, hgn]; rfl
    · repeat' (first | (refine zA ?_; first | refine zB ?_ | refine zC H ?_ | refine zD H ?_ | refine zE H fun _ _ H => ?_ | refine zF H fun _ _ H => ?_ | refine zG H fun _ H => ?_ | refine zH H fun _ H => ?_) | (refine zI ?_; first | refine zJ ?_ | refine zK ?_ | refine zL ?_ | refine zM ?_ | refine zN ?_ | refine zO ?_ | refine zP ?_ | refine zQ ?_ | refine zR ?_) | refine zS ?_)
      refine ⟨i + 1, (by (repeat (first | (with_reducible exact Agree.refl _ _) | (with_reducible refine Agree.trim (by assumption) ?_) | refine Agree.upd ?_ rfl | exact Agree.mix' | refine Agree.mixL ?_ (fun j h => by simp only [Bool.or_eq_true, Bool.and_eq_true, Nat.beq_eq, Nat.ble_eq] at h ⊢; omega) rfl))), ⟨nat_succ (n := n) hin (by omega), trivial⟩, ⟨⟨hin, fun j hj => ?_⟩, by unfold slo8; exact H⟩, by omega⟩
      rcases (show j < i ∨ j = i by omega) with h1 | rfl
      · exact hb j h1
      · rw [hfree, ht]; rfl
  · have : i = n := by have := of_decide_eq_false h; omega
    subst this
    repeat' (first | (refine zA ?_; first | refine zB ?_ | refine zC H ?_ | refine zD H ?_ | refine zE H fun _ _ H => ?_ | refine zF H fun _ _ H => ?_ | refine zG H fun _ H => ?_ | refine zH H fun _ H => ?_) | (refine zI ?_; first | refine zJ ?_ | refine zK ?_ | refine zL ?_ | refine zM ?_ | refine zN ?_ | refine zO ?_ | refine zP ?_ | refine zQ ?_ | refine zR ?_) | refine zS ?_)
    have hq : fst_ i f = none := by
      unfold fst_
      rw [List.find?_eq_none]
      intro j hj
      rw [hb j (List.mem_range.1 hj)]; decide
    exact ret1 rfl ⟨by rw [hq], H⟩
set_option maxRecDepth 20000 in
theorem sy_makePage (H : Sat z w (syP bx s :: As)) (hM : s.M ≤ 64) (v : Value) (l : List Int) (hl : l.length ≤ 32) (hv : SlR As v 1 l.length (l.map (.int .u32))) (q : Nat) (hq : fst_ s.M s.g = some q) :
    Spec cf 66 #[.pointer (some ⟨bx, 0, none⟩), v] w fun e w' => e = .tuple #[.int .i64 q, .int .i64 0] ∧ Sat z w' (syP bx (s.newP q l) :: As) := by
  obtain ⟨a, cap, rfl⟩ := lenW hv
  obtain ⟨p, H2⟩ := sy_open H
  replace H := H2
  clear H2
  obtain ⟨hqM, -, -⟩ := fst_some hq
  refine enter (l := [.pointer (some ⟨bx, 0, none⟩), .slice a l.length cap]) Tryd.func66 rfl rfl rfl rfl rfl ?_
  repeat' (first | (refine zA ?_; first | refine zB ?_ | refine zC H ?_ | refine zD H ?_ | refine zE H fun _ _ H => ?_ | refine zF H fun _ _ H => ?_ | refine zG H fun _ H => ?_ | refine zH H fun _ H => ?_) | (refine zI ?_; first | refine zJ ?_ | refine zK ?_ | refine zL ?_ | refine zM ?_ | refine zN ?_ | refine zO ?_ | refine zP ?_ | refine zQ ?_ | refine zR ?_) | refine zS ?_)
  refine CW.cond rfl (fun h => absurd (of_decide_eq_true h) (by omega)) (fun h => ?_)
  repeat' (first | (refine zA ?_; first | refine zB ?_ | refine zC H ?_ | refine zD H ?_ | refine zE H fun _ _ H => ?_ | refine zF H fun _ _ H => ?_ | refine zG H fun _ H => ?_ | refine zH H fun _ H => ?_) | (refine zI ?_; first | refine zJ ?_ | refine zK ?_ | refine zL ?_ | refine zM ?_ | refine zN ?_ | refine zO ?_ | refine zP ?_ | refine zQ ?_ | refine zR ?_) | refine zS ?_)
  refine OpsW.call rfl rfl rfl (via H (by exact pS p0) fun H => take8_ H hM) ?_
  rw [hq]
  rintro _ w ⟨rfl, H⟩
  unfold slo8 at H
  repeat' (first | (refine zA ?_; first | refine zB ?_ | refine zC H ?_ | refine zD H ?_ | refine zE H fun _ _ H => ?_ | refine zF H fun _ _ H => ?_ | refine zG H fun _ H => ?_ | refine zH H fun _ H => ?_) | (refine zI ?_; first | refine zJ ?_ | refine zK ?_ | refine zL ?_ | refine zM ?_ | refine zN ?_ | refine zO ?_ | refine zP ?_ | refine zQ ?_ | refine zR ?_) | refine zS ?_)
  refine OpsW.ix (n := q) rfl rfl rfl rfl rfl rfl rfl hqM rfl ?_
  repeat' (first | (refine zA ?_; first | refine zB ?_ | refine zC H ?_ | refine zD H ?_ | refine zE H fun _ _ H => ?_ | refine zF H fun _ _ H => ?_ | refine zG H fun _ H => ?_ | refine zH H fun _ H => ?_) | (refine zI ?_; first | refine zJ ?_ | refine zK ?_ | refine zL ?_ | refine zM ?_ | refine zN ?_ | refine zO ?_ | refine zP ?_ | refine zQ ?_ | refine zR ?_) | refine zS ?_)
  refine OpsW.str H (pS p0) rfl rfl rfl rfl rfl rfl (by rw [sl8_len4]; omega) fun w H => ?_
  rw [sl8_put hqM] at H
  repeat' (first | (refine zA ?_; first | refine zB ?_ | refine zC H ?_ | refine zD H ?_ | refine zE H fun _ _ H => ?_ | refine zF H fun _ _ H => ?_ | refine zG H fun _ H => ?_ | refine zH H fun _ H => ?_) | (refine zI ?_; first | refine zJ ?_ | refine zK ?_ | refine zL ?_ | refine zM ?_ | refine zN ?_ | refine zO ?_ | refine zP ?_ | refine zQ ?_ | refine zR ?_) | refine zS ?_)
  refine OpsW.ix (n := q) rfl rfl rfl rfl rfl rfl rfl hqM rfl ?_
  repeat' (first | (refine zA ?_; first | refine zB ?_ | refine zC H ?_ | refine zD H ?_ | refine zE H fun _ _ H => ?_ | refine zF H fun _ _ H => ?_ | refine zG H fun _ H => ?_ | refine zH H fun _ H => ?_) | refine zS ?_)
  refine OpsW.strA (vs := wds fun _ => 0) H (pS (pS (pS p0))) rfl rfl ((forceL_eq _ _).trans (congrArg some wds0)) (wds_scal _) rfl (by rw [wds_len]; rfl) (by rw [pgs_len, wds_len]; show 0 + q * 32 + 32 ≤ s.M * 32; omega) fun w H => ?_
  rw [pgs_splice hqM] at H
  repeat' (first | (refine zA ?_; first | refine zB ?_ | refine zC H ?_ | refine zD H ?_ | refine zE H fun _ _ H => ?_ | refine zF H fun _ _ H => ?_ | refine zG H fun _ H => ?_ | refine zH H fun _ H => ?_) | (refine zI ?_; first | refine zJ ?_ | refine zK ?_ | refine zL ?_ | refine zM ?_ | refine zN ?_ | refine zO ?_ | refine zP ?_ | refine zQ ?_ | refine zR ?_) | refine zS ?_)
  obtain ⟨A1, hA1⟩ : ∃ A1, A1 = blk p.s2 169 ((mk s.M fun j => if j = q then (s.g q).take else s.g j).flatMap sl8 ++ p.r2) := ⟨_, rfl⟩
  rw [← hA1] at H
  replace H : Sat z w (blk p.bP 106 (pgs s.M fun a => if a = q then (fun b => if b < 0 then l.getD b 0 else 0) else s.pg a) :: A1 :: blk bx 115 [.slice (some ⟨p.s1, 0, none⟩) s.N p.c1, .slice (some ⟨p.s2, 0, none⟩) s.M p.c2, p.v2, p.v3, p.v4, p.v5, .slice (some ⟨p.bN, 0, none⟩) s.N s.N, .slice (some ⟨p.bP, 0, none⟩) s.M s.M, p.v8, p.v9, p.va, p.vb, p.vc, p.vd, p.ve, p.vf] :: blk p.s1 169 ((mk s.N s.f).flatMap sl8 ++ p.r1) :: blk p.bN 68 (nds s.N s.nd) :: As) := by
    have e : (fun a => if a = q then (fun b : Nat => if b < 0 then l.getD b 0 else 0) else s.pg a) = fun a => if a = q then (fun _ : Nat => (0 : Int)) else s.pg a := by
      funext a b
      by_cases h : a = q <;> simp [h]
    rw [e]; exact H
  refine CW.loopF (X := Nat) (fun j => Nat.ble 7 j) (fun i => [(7, .int .i64 (i : Int))]) (fun i w => i ≤ l.length ∧ Sat z w (blk p.bP 106 (pgs s.M fun a => if a = q then (fun b => if b < i then l.getD b 0 else 0) else s.pg a) :: A1 :: blk bx 115 [.slice (some ⟨p.s1, 0, none⟩) s.N p.c1, .slice (some ⟨p.s2, 0, none⟩) s.M p.c2, p.v2, p.v3, p.v4, p.v5, .slice (some ⟨p.bN, 0, none⟩) s.N s.N, .slice (some ⟨p.bP, 0, none⟩) s.M s.M, p.v8, p.v9, p.va, p.vb, p.vc, p.vd, p.ve, p.vf] :: blk p.s1 169 ((mk s.N s.f).flatMap sl8 ++ p.r1) :: blk p.bN 68 (nds s.N s.nd) :: As)) (fun i => l.length - i) 0 ⟨rfl, trivial⟩ ⟨Nat.zero_le _, H⟩ ?_
  clear H
  rintro i τ w ⟨hi, H⟩
  repeat' (first | (refine zA ?_; first | refine zB ?_ | refine zC H ?_ | refine zD H ?_ | refine zE H fun _ _ H => ?_ | refine zF H fun _ _ H => ?_ | refine zG H fun _ H => ?_ | refine zH H fun _ H => ?_) | (refine zI ?_; first | refine zJ ?_ | refine zK ?_ | refine zL ?_ | refine zM ?_ | refine zN ?_ | refine zO ?_ | refine zP ?_ | refine zQ ?_ | refine zR ?_) | refine zS ?_)
  refine CW.cond rfl (fun h => ?_) (fun h => ?_)
  · have hil : i < l.length := by have := of_decide_eq_true h; omega
    obtain ⟨b0, off0, _, _, _, rfl, -, -⟩ := hv.at_ (show 0 < l.length by omega)
    have hgl : (l.map (Value.int .u32))[i]? = some (.int .u32 (l.getD i 0)) := by
      rw [List.getElem?_map, List.getElem?_eq_getElem hil, List.getD_eq_getElem?_getD, List.getElem?_eq_getElem hil]; rfl
    have hi32 : i < 32 := by omega
    repeat' (first | (refine zA ?_; first | refine zB ?_ | refine zC H ?_ | refine zD H ?_ | refine zE H fun _ _ H => ?_ | refine zF H fun _ _ H => ?_ | refine zG H fun _ H => ?_ | refine zH H fun _ H => ?_) | (refine zI ?_; first | refine zJ ?_ | refine zK ?_ | refine zL ?_ | refine CW.seqDc ?_ | refine CW.seqDb ?_ | refine CW.seqDl ?_ | refine CW.seqDs ?_ | refine CW.seqDk ?_ | refine zN ?_ | refine zO ?_ | refine zP ?_ | refine zQ ?_ | refine zR ?_) | refine zS ?_)
    (first | refine CW.seqDraw mo H [0, 1, 3, 7, 0, 0, 0, 0, 192, 448, 31, 2047, 4095] fun w H => ?_ | refine CW.draw mo H [0, 1, 3, 7, 0, 0, 0, 0, 192, 448, 31, 2047, 4095] fun w H => ?_); refine AnyW.seg (m := 11) (by kernel_rfl) (by kernel_rfl) H rfl ?_
    repeat' (first | (refine DrawP.nil ?_; intro w H) | (refine DrawP.go ?_; first | refine DrawP.cons rfl (fun τ w H => OpsW.st rfl (OpsW.nil ⟨rfl, H⟩)) ?_ | refine DrawP.cons rfl (fun τ w H => OpsW.ld H (by (first | exact p0 | exact p1 | exact p2 | exact p3 | exact p4 | exact p5 | exact p6 | exact p7)) rfl rfl rfl rfl (by rfl) rfl (OpsW.nil ⟨rfl, H⟩)) ?_ | refine DrawP.cons rfl (fun τ w H => OpsW.ldA H (by (first | exact p0 | exact p1 | exact p2 | exact p3 | exact p4 | exact p5 | exact p6 | exact p7)) rfl rfl rfl (by rfl) rfl (OpsW.nil ⟨rfl, H⟩)) ?_ | refine DrawP.cons rfl (fun τ w H => OpsW.ldS H hv.tail.tail.tail.tail.tail rfl rfl rfl rfl hil hgl rfl (OpsW.nil ⟨rfl, H⟩)) ?_ | refine DrawP.cons rfl (fun τ w H => OpsW.ix (n := i) rfl rfl rfl rfl rfl rfl rfl hil rfl (OpsW.nil ⟨rfl, H⟩)) ?_ | refine DrawP.cons rfl (fun τ w H => OpsW.ix (n := q) rfl rfl rfl rfl rfl rfl rfl hqM rfl (OpsW.nil ⟨rfl, H⟩)) ?_) | refine DrawP.split (fun h => ?_) (fun h => ?_))
    refine AnyW.one (by kernel_rfl) (by kernel_rfl) rfl ?_
    refine OpsW.ixA (n := i) rfl rfl rfl rfl rfl rfl rfl hi32 rfl ?_
    refine OpsW.nil ?_
    refine AnyW.one (by kernel_rfl) (by kernel_rfl) rfl ?_
    refine OpsW.str H p0 rfl rfl rfl rfl rfl rfl (by rw [pgs_len]; show 0 + q * 32 + i * 1 < s.M * 32; omega) fun w H => ?_
    rw [pgs_set hqM hi32] at H
    refine OpsW.nil ?_
    refine AnyW.done ?_
    repeat' (first | (refine zA ?_; first | refine zB ?_ | refine zC H ?_ | refine zD H ?_ | refine zE H fun _ _ H => ?_ | refine zF H fun _ _ H => ?_ | refine zG H fun _ H => ?_ | refine zH H fun _ H => ?_) | (refine zI ?_; first | refine zJ ?_ | refine zK ?_ | refine zL ?_ | refine zM ?_ | refine zN ?_ | refine zO ?_ | refine zP ?_ | refine zQ ?_ | refine zR ?_) | refine zS ?_)
    refine ⟨i + 1, (by (repeat (first | (with_reducible exact Agree.refl _ _) | (with_reducible refine Agree.trim (by assumption) ?_) | refine Agree.upd ?_ rfl | exact Agree.mix' | refine Agree.mixL ?_ (fun j h => by simp only [Bool.or_eq_true, Bool.and_eq_true, Nat.beq_eq, Nat.ble_eq] at h ⊢; omega) rfl))), ⟨nat_succ hil (by omega), trivial⟩, ⟨hil, ?_⟩, by omega⟩
    have e : (fun a => if a = q then (fun b => if b = i then l.getD i 0 else (if q = q then (fun b : Nat => if b < i then l.getD b 0 else 0) else s.pg q) b) else (if a = q then (fun b : Nat => if b < i then l.getD b 0 else 0) else s.pg a)) = fun a => if a = q then (fun b => if b < i + 1 then l.getD b 0 else 0) else s.pg a := by
      funext a b
      by_cases h : a = q
      · simp only [if_pos h, if_pos rfl, ite_true, if_true]
        by_cases h2 : b = i
        · subst h2; rw [if_pos rfl, if_pos (by omega)]
        · rw [if_neg h2]
          by_cases h3 : b < i
          · rw [if_pos h3, if_pos (by omega)]
          · rw [if_neg h3, if_neg (by omega)]
      · simp only [if_neg h]
    rw [e] at H
    exact H
  · have hil : i = l.length := by have := of_decide_eq_false h; omega
    subst hil
    repeat' (first | (refine zA ?_; first | refine zB ?_ | refine zC H ?_ | refine zD H ?_ | refine zE H fun _ _ H => ?_ | refine zF H fun _ _ H => ?_ | refine zG H fun _ H => ?_ | refine zH H fun _ H => ?_) | (refine zI ?_; first | refine zJ ?_ | refine zK ?_ | refine zL ?_ | refine zM ?_ | refine zN ?_ | refine zO ?_ | refine zP ?_ | refine zQ ?_ | refine zR ?_) | refine zS ?_)
    refine ret2 rfl rfl ⟨rfl, ?_⟩
    have e : (fun a => if a = q then (fun b => if b < l.length then l.getD b 0 else 0) else s.pg a) = fun a => if a = q then (fun b => l.getD b 0) else s.pg a := by
      funext a b
      by_cases h : a = q
      · simp only [if_pos h]
        by_cases h2 : b < l.length
        · rw [if_pos h2]
        · rw [if_neg h2, List.getD_eq_getElem?_getD, List.getElem?_eq_none (by omega)]; rfl
      · simp only [if_neg h]
    rw [e, hA1] at H
    exact sy_close (s := s.newP q l) (p := p) (by unfold slo8; exact H.perm (by repeat' (first | (with_reducible exact List.Perm.refl _) | (with_reducible refine List.Perm.trans p0 (List.Perm.cons _ ?_)) | (with_reducible refine List.Perm.trans p1 (List.Perm.cons _ ?_)) | (with_reducible refine List.Perm.trans p2 (List.Perm.cons _ ?_)) | (with_reducible refine List.Perm.trans p3 (List.Perm.cons _ ?_)) | (with_reducible refine List.Perm.trans p4 (List.Perm.cons _ ?_)) | (with_reducible refine List.Perm.trans p5 (List.Perm.cons _ ?_)) | (with_reducible refine List.Perm.trans p6 (List.Perm.cons _ ?_)) | (with_reducible refine List.Perm.trans p7 (List.Perm.cons _ ?_)) | (with_reducible refine List.Perm.trans p8 (List.Perm.cons _ ?_)) | (with_reducible refine List.Perm.trans p9 (List.Perm.cons _ ?_)) | (with_reducible refine List.Perm.trans p10 (List.Perm.cons _ ?_)) | (with_reducible refine List.Perm.trans p11 (List.Perm.cons _ ?_)))))
end
end Go.Proofs.YtnfefbhjdncccaaDoor.X
