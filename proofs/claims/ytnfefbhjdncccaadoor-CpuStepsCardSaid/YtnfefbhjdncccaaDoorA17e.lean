/- Contracts of chapter 17 (cpu): what an instruction does, part 2; conditions: none. -/
import Derived.Test.YtnfefbhjdncccaaDoorA17d
namespace Go.Proofs.YtnfefbhjdncccaaDoor.X
open Go Go.Proofs
set_option linter.unusedSimpArgs false
set_option linter.unusedVariables false
attribute [local irreducible] CW OpsW RetW Spec blk snap DrawP AnyW AnyM AnyN bits IntKind.wrap vec itr asc eA Dm.c nodesP pagesP cacheP mcP memP Ev.l St.load St.save St.saveS wdo
/-- A note as cells. -/
def noteL (o w0 w1 w2 : Int) (k0 k1 k2 : K) : List Value := [.int .u32 o, .int .u32 w0, .int .u32 w1, .int .u32 w2] ++ (k0.l ++ (k1.l ++ k2.l))
theorem note_bld (o : Int) (k0 k1 k2 : K) : pureF cf.T 77 [(0, .int .u32 o), (2, .agg (k0.l ++ (k1.l ++ k2.l)).toArray)] = some (.agg (noteL o 0 0 0 k0 k1 k2).toArray) := by kernel_rfl
theorem note_len (o w0 w1 w2 : Int) (k0 k1 k2 : K) : (noteL o w0 w1 w2 k0 k1 k2).length = 19 := rfl
theorem note_scl (o w0 w1 w2 : Int) (k0 k1 k2 : K) : (noteL o w0 w1 w2 k0 k1 k2).all scal = true := rfl
theorem note_all (o w0 w1 w2 : Int) (k0 k1 k2 : K) : takeK 19 ((noteL o w0 w1 w2 k0 k1 k2).drop 0) some = some (noteL o w0 w1 w2 k0 k1 k2) := by kernel_rfl
theorem note_put (o : Int) (k0 k1 k2 : K) (f : Nat → Int) : splice (noteL o 0 0 0 k0 k1 k2) (0 + 1) ((X.mk 7 fun j => Value.int .u32 (f (j + 1))).take (3 * 1)) = noteL o (f 1) (f 2) (f 3) k0 k1 k2 := by kernel_rfl
theorem ev_bld (a : Int) (k : K) (o w0 w1 w2 : Int) (k0 k1 k2 : K) : pureF cf.T 79 [(0, .int .i64 1), (1, .int .i64 a), (2, .agg k.l.toArray), (3, .agg (noteL o w0 w1 w2 k0 k1 k2).toArray)] = some (.agg (Ev.l ⟨1, a, k, o, w0, w1, w2, k0, k1, k2, 0, 0⟩).toArray) := by kernel_rfl
attribute [local irreducible] noteL
section
variable {z w : World} {As Rs : List HP} {ads : List Addr} {d : Dm} {bm bd hb : Nat} {size : Int} {s : St}
set_option maxHeartbeats 4000000 in
theorem cdo10_ (H : Sat z w (blk bd 70 d.c :: memP bm 4 s hb :: Rs)) (a b : Nat) (c imm : Int) (ha : a < 8) (hb16 : b < 16) :
    Spec cf 71 #[.pointer (some ⟨bm, 0, none⟩), .pointer (some ⟨bd, 0, none⟩), Ins.v ⟨10, a, b, c, imm⟩] w fun e w' => e = .agg (Ev.of 0).l.toArray ∧ Sat z w' (memP bm 4 s hb :: blk bd 70 (d.setR a (if (d.k b).kind = 1 then (d.k b).data else 0)).c :: Rs) := by
  refine enter (l := [.pointer (some ⟨bm, 0, none⟩), .pointer (some ⟨bd, 0, none⟩), Ins.v ⟨10, a, b, c, imm⟩]) Tryd.func71 rfl rfl rfl rfl rfl ?_
  repeat' (first | (refine zA ?_; first | refine zB ?_ | refine zC H ?_ | refine zD H ?_ | refine zE H fun _ _ H => ?_ | refine zF H fun _ _ H => ?_ | refine zG H fun _ H => ?_ | refine zH H fun _ H => ?_) | (refine zI ?_; first | refine zJ ?_ | refine zK ?_ | refine zL ?_ | refine CW.seqDc ?_ | refine CW.seqDb ?_ | refine CW.seqDl ?_ | refine CW.seqDs ?_ | refine CW.seqDk ?_ | refine zN ?_ | refine zO ?_ | refine zP ?_ | refine zQ ?_ | refine zR ?_) | refine zS ?_)
  (first | refine CW.seqDraw mo H [0, 0, 2, 1, 15, 31] fun w H => ?_ | refine CW.draw mo H [0, 0, 2, 1, 15, 31] fun w H => ?_); refine AnyW.seg (m := 5) (by kernel_rfl) (by kernel_rfl) H rfl ?_
  repeat' (first | (refine DrawP.nil ?_; intro w H) | (refine DrawP.go ?_; first | refine DrawP.cons rfl (fun τ w H => OpsW.st rfl (OpsW.nil ⟨rfl, H⟩)) ?_ | refine DrawP.cons rfl (fun τ w H => OpsW.ld H (by (first | exact p0 | exact p1 | exact p2 | exact p3 | exact p4 | exact p5 | exact p6 | exact p7)) rfl rfl rfl rfl (by rfl) rfl (OpsW.nil ⟨rfl, H⟩)) ?_ | refine DrawP.cons rfl (fun τ w H => OpsW.ldA H (by (first | exact p0 | exact p1 | exact p2 | exact p3 | exact p4 | exact p5 | exact p6 | exact p7)) rfl rfl rfl (by rfl) rfl (OpsW.nil ⟨rfl, H⟩)) ?_ | refine DrawP.cons rfl (fun τ w H => OpsW.ixA (n := a) rfl rfl rfl rfl rfl rfl rfl ha rfl (OpsW.nil ⟨rfl, H⟩)) ?_) | refine DrawP.split (fun h => ?_) (fun h => ?_))
  refine AnyW.one (by kernel_rfl) (by kernel_rfl) rfl ?_
  refine OpsW.str H p2 rfl rfl rfl rfl rfl rfl (by rw [Dm.len]; omega) fun w H => ?_
  rw [Dm.stR ha (by omega)] at H
  refine OpsW.nil ?_
  refine AnyW.done ?_
  repeat' (first | (refine zA ?_; first | refine zB ?_ | refine zC H ?_ | refine zD H ?_ | refine zE H fun _ _ H => ?_ | refine zF H fun _ _ H => ?_ | refine zG H fun _ H => ?_ | refine zH H fun _ H => ?_) | (refine zI ?_; first | refine zJ ?_ | refine zK ?_ | refine zL ?_ | refine CW.seqDc ?_ | refine CW.seqDb ?_ | refine CW.seqDl ?_ | refine CW.seqDs ?_ | refine CW.seqDk ?_ | refine zN ?_ | refine zO ?_ | refine zP ?_ | refine zQ ?_ | refine zR ?_) | refine zS ?_)
  (first | refine CW.seqDraw mo H [0, 0, 2, 1, 9, 31, 63, 0, 255] fun w H => ?_ | refine CW.draw mo H [0, 0, 2, 1, 9, 31, 63, 0, 255] fun w H => ?_); refine AnyW.segX (m := 8) (by kernel_rfl) (by kernel_rfl) H rfl ?_
  repeat' (refine DrawX.go ?_; first | refine DrawX.cons rfl (fun X τ w H => OpsW.st rfl (OpsW.nil ⟨rfl, H⟩)) ?_ | refine DrawX.cons rfl (fun X τ w H => OpsW.ixA (n := b) rfl rfl rfl rfl rfl rfl rfl hb16 rfl (OpsW.nil ⟨rfl, H⟩)) ?_ | refine DrawX.cons rfl (fun X τ w H => OpsW.ldA H p1 rfl rfl rfl (Dm.ldK hb16 (by omega)) rfl (OpsW.nil ⟨rfl, H⟩)) ?_ | refine DrawX.alloc (by kernel_rfl) rfl rfl rfl ?_ | refine DrawX.box (by kernel_rfl) (fun τ => rfl) rfl ?_ | refine DrawX.cons rfl (fun X τ w H => OpsW.ld H (by (first | exact p0 | exact p1 | exact p2 | exact p3 | exact p4 | exact p5 | exact p6 | exact p7)) rfl rfl rfl rfl (by rfl) rfl (OpsW.nil ⟨rfl, H⟩)) ?_ | refine DrawX.cons rfl (fun X τ w H => OpsW.ldA H (by (first | exact p0 | exact p1 | exact p2 | exact p3 | exact p4 | exact p5 | exact p6 | exact p7)) rfl rfl rfl (by rfl) rfl (OpsW.nil ⟨rfl, H⟩)) ?_)
  refine DrawX.nil1 (q := 7) (fun _ => rfl) (fun _ => rfl) fun bk w H => ?_
  dsimp only
  refine AnyW.one (by kernel_rfl) (by kernel_rfl) rfl ?_
  (first | (refine zA ?_; first | refine zB ?_ | refine zC H ?_ | refine zD H ?_ | refine zE H fun _ _ H => ?_ | refine zF H fun _ _ H => ?_ | refine zG H fun _ H => ?_ | refine zH H fun _ H => ?_) | (refine zI ?_; first | refine zJ ?_ | refine zK ?_ | refine zL ?_ | refine zM ?_ | refine zN ?_ | refine zO ?_ | refine zP ?_ | refine zQ ?_ | refine zR ?_) | refine zS ?_)
  replace H : Sat z _ (blk bk 43 (d.k b).l :: blk bd 70 (d.setR a 0).c :: _) := H
  refine OpsW.nil ?_
  refine AnyW.done ?_
  repeat' (first | (refine zA ?_; first | refine zB ?_ | refine zC H ?_ | refine zD H ?_ | refine zE H fun _ _ H => ?_ | refine zF H fun _ _ H => ?_ | refine zG H fun _ H => ?_ | refine zH H fun _ H => ?_) | (refine zI ?_; first | refine zJ ?_ | refine zK ?_ | refine zL ?_ | refine CW.seqDc ?_ | refine CW.seqDb ?_ | refine CW.seqDl ?_ | refine CW.seqDs ?_ | refine CW.seqDk ?_ | refine zN ?_ | refine zO ?_ | refine zP ?_ | refine zQ ?_ | refine zR ?_) | refine zS ?_)
  by_cases hk1 : (d.k b).kind = 1
  · rw [if_pos hk1]
    refine CW.cond rfl (fun _ => ?_) (fun h => absurd h (by simp [hk1, Dm.setR]))
    repeat' (first | (refine zA ?_; first | refine zB ?_ | refine zC H ?_ | refine zD H ?_ | refine zE H fun _ _ H => ?_ | refine zF H fun _ _ H => ?_ | refine zG H fun _ H => ?_ | refine zH H fun _ H => ?_) | (refine zI ?_; first | refine zJ ?_ | refine zK ?_ | refine zL ?_ | refine CW.seqDc ?_ | refine CW.seqDb ?_ | refine CW.seqDl ?_ | refine CW.seqDs ?_ | refine CW.seqDk ?_ | refine zN ?_ | refine zO ?_ | refine zP ?_ | refine zQ ?_ | refine zR ?_) | refine zS ?_)
    (first | refine CW.seqDraw mo H [0, 0, 2, 0, 8, 1, 63, 127] fun w H => ?_ | refine CW.draw mo H [0, 0, 2, 0, 8, 1, 63, 127] fun w H => ?_); refine AnyW.seg (m := 7) (by kernel_rfl) (by kernel_rfl) H rfl ?_
    repeat' (first | (refine DrawP.nil ?_; intro w H) | (refine DrawP.go ?_; first | refine DrawP.cons rfl (fun τ w H => OpsW.st rfl (OpsW.nil ⟨rfl, H⟩)) ?_ | refine DrawP.cons rfl (fun τ w H => OpsW.ld H (by (first | exact p0 | exact p1 | exact p2 | exact p3 | exact p4 | exact p5 | exact p6 | exact p7)) rfl rfl rfl rfl (by rfl) rfl (OpsW.nil ⟨rfl, H⟩)) ?_ | refine DrawP.cons rfl (fun τ w H => OpsW.ldA H (by (first | exact p0 | exact p1 | exact p2 | exact p3 | exact p4 | exact p5 | exact p6 | exact p7)) rfl rfl rfl (by rfl) rfl (OpsW.nil ⟨rfl, H⟩)) ?_ | refine DrawP.cons rfl (fun τ w H => OpsW.ixA (n := a) rfl rfl rfl rfl rfl rfl rfl ha rfl (OpsW.nil ⟨rfl, H⟩)) ?_) | refine DrawP.split (fun h => ?_) (fun h => ?_))
    refine AnyW.one (by kernel_rfl) (by kernel_rfl) rfl ?_
    refine OpsW.str H p1 rfl rfl rfl rfl rfl rfl (by rw [Dm.len]; omega) fun w H => ?_
    rw [Dm.stR ha (by omega), Dm.setR2] at H
    refine OpsW.nil ?_
    refine AnyW.done ?_
    repeat' (first | (refine zA ?_; first | refine zB ?_ | refine zC H ?_ | refine zD H ?_ | refine zE H fun _ _ H => ?_ | refine zF H fun _ _ H => ?_ | refine zG H fun _ H => ?_ | refine zH H fun _ H => ?_) | (refine zI ?_; first | refine zJ ?_ | refine zK ?_ | refine zL ?_ | refine CW.seqDc ?_ | refine CW.seqDb ?_ | refine CW.seqDl ?_ | refine CW.seqDs ?_ | refine CW.seqDk ?_ | refine zN ?_ | refine zO ?_ | refine zP ?_ | refine zQ ?_ | refine zR ?_) | refine zS ?_)
    replace H := evF (Ev.of 0) H (by with_unfolding_all rfl)
    exact ret1c (resA H p0 rfl rfl (Ev.all _)) ⟨rfl, ((((H.drop.perm p1).drop).perm p1).drop).perm p1⟩
  · rw [if_neg hk1]
    refine CW.cond rfl (fun h => absurd h (by simp [hk1, Dm.setR])) (fun _ => ?_)
    repeat' (first | (refine zA ?_; first | refine zB ?_ | refine zC H ?_ | refine zD H ?_ | refine zE H fun _ _ H => ?_ | refine zF H fun _ _ H => ?_ | refine zG H fun _ H => ?_ | refine zH H fun _ H => ?_) | (refine zI ?_; first | refine zJ ?_ | refine zK ?_ | refine zL ?_ | refine CW.seqDc ?_ | refine CW.seqDb ?_ | refine CW.seqDl ?_ | refine CW.seqDs ?_ | refine CW.seqDk ?_ | refine zN ?_ | refine zO ?_ | refine zP ?_ | refine zQ ?_ | refine zR ?_) | refine zS ?_)
    replace H := evF (Ev.of 0) H (by with_unfolding_all rfl)
    exact ret1c (resA H p0 rfl rfl (Ev.all _)) ⟨rfl, ((H.drop.drop.perm p1).drop).perm p1⟩
set_option maxHeartbeats 4000000 in
theorem cdo67_ (H : Sat z w (blk bd 70 d.c :: memP bm 4 s hb :: Rs)) (hm : MOk s hb) (hk : 0 ≤ d.mem.data) (op : Int) (a b : Nat) (c imm : Int) (ha : a < 8) (hb8 : b < 8) (hop : op = 6 ∨ op = 7) (h0 : 0 ≤ imm) (h1 : imm < 4096) :
    Spec cf 71 #[.pointer (some ⟨bm, 0, none⟩), .pointer (some ⟨bd, 0, none⟩), Ins.v ⟨op, a, b, c, imm⟩] w fun e w' => e = .agg (moveP s d ⟨op, a, b, c, imm⟩).1.l.toArray ∧ Sat z w' (memP bm 4 (moveP s d ⟨op, a, b, c, imm⟩).2.2 (hb + 1) :: blk bd 70 (moveP s d ⟨op, a, b, c, imm⟩).2.1.c :: Rs) := by
  refine enter (l := [.pointer (some ⟨bm, 0, none⟩), .pointer (some ⟨bd, 0, none⟩), Ins.v ⟨op, a, b, c, imm⟩]) Tryd.func71 rfl rfl rfl rfl rfl ?_
  rcases hop with rfl | rfl
  all_goals
    repeat' (first | (refine zA ?_; first | refine zB ?_ | refine zC H ?_ | refine zD H ?_ | refine zE H fun _ _ H => ?_ | refine zF H fun _ _ H => ?_ | refine zG H fun _ H => ?_ | refine zH H fun _ H => ?_) | (refine zI ?_; first | refine zJ ?_ | refine zK ?_ | refine zL ?_ | refine CW.seqDc ?_ | refine CW.seqDb ?_ | refine CW.seqDl ?_ | refine CW.seqDs ?_ | refine CW.seqDk ?_ | refine zN ?_ | refine zO ?_ | refine zP ?_ | refine zQ ?_ | refine zR ?_) | refine zS ?_)
    refine OpsW.call rfl rfl rfl (move_ ((H.perm p2).perm (p2.cons _)) hm hk _ a b c imm ha hb8 (by first | exact .inl rfl | exact .inr rfl) h0 h1) ?_
    rintro _ w ⟨rfl, H⟩
    refine OpsW.strF H p2 rfl rfl rfl (Ev.scl _) rfl (Ev.len _) (by rw [Ev.len]; decide) fun w H => ?_
    rw [splice_full (by rw [Ev.len]; rfl)] at H
    repeat' (first | (refine zA ?_; first | refine zB ?_ | refine zC H ?_ | refine zD H ?_ | refine zE H fun _ _ H => ?_ | refine zF H fun _ _ H => ?_ | refine zG H fun _ H => ?_ | refine zH H fun _ H => ?_) | (refine zI ?_; first | refine zJ ?_ | refine zK ?_ | refine zL ?_ | refine CW.seqDc ?_ | refine CW.seqDb ?_ | refine CW.seqDl ?_ | refine CW.seqDs ?_ | refine CW.seqDk ?_ | refine zN ?_ | refine zO ?_ | refine zP ?_ | refine zQ ?_ | refine zR ?_) | refine zS ?_)
    exact ret1c (resA H p0 rfl rfl (Ev.all _)) ⟨rfl, by have := (H.drop.perm p2).drop; exact this⟩
set_option maxHeartbeats 4000000 in
theorem cdo11_ (H : Sat z w (blk bd 70 d.c :: memP bm 4 s hb :: Rs)) (a b c : Nat) (imm : Int) (ha : a < 3) (hb16 : b < 16) (hc16 : c < 16) :
    Spec cf 71 #[.pointer (some ⟨bm, 0, none⟩), .pointer (some ⟨bd, 0, none⟩), Ins.v ⟨11, a, b, c, imm⟩] w fun e w' => e = .agg (Ev.l ⟨1, a, d.k b, d.r 0, d.r 1, d.r 2, d.r 3, sentK d.k c 0, sentK d.k c 1, sentK d.k c 2, 0, 0⟩).toArray ∧ Sat z w' (memP bm 4 s hb :: blk bd 70 d.c :: Rs) := by
  refine enter (l := [.pointer (some ⟨bm, 0, none⟩), .pointer (some ⟨bd, 0, none⟩), Ins.v ⟨11, a, b, c, imm⟩]) Tryd.func71 rfl rfl rfl rfl rfl ?_
  repeat' (first | (refine zA ?_; first | refine zB ?_ | refine zC H ?_ | refine zD H ?_ | refine zE H fun _ _ H => ?_ | refine zF H fun _ _ H => ?_ | refine zG H fun _ H => ?_ | refine zH H fun _ H => ?_) | (refine zI ?_; first | refine zJ ?_ | refine zK ?_ | refine zL ?_ | refine CW.seqDc ?_ | refine CW.seqDb ?_ | refine CW.seqDl ?_ | refine CW.seqDs ?_ | refine CW.seqDk ?_ | refine zN ?_ | refine zO ?_ | refine zP ?_ | refine zQ ?_ | refine zR ?_) | refine zS ?_)
  (first | refine CW.seqDraw mo H [0, 1, 3, 7, 0, 16, 48, 0, 128, 496, 1023, 0, 4095] fun w H => ?_ | refine CW.draw mo H [0, 1, 3, 7, 0, 16, 48, 0, 128, 496, 1023, 0, 4095] fun w H => ?_); refine AnyW.segX (m := 12) (by kernel_rfl) (by kernel_rfl) H rfl ?_
  refine DrawX.cons rfl (fun X τ w H => OpsW.st rfl (OpsW.nil ⟨rfl, H⟩)) ?_
  refine DrawX.cons rfl (fun X τ w H => OpsW.st rfl (OpsW.nil ⟨rfl, H⟩)) ?_
  refine DrawX.cons rfl (fun X τ w H => OpsW.ixA (n := 0) rfl rfl rfl rfl rfl rfl rfl (by decide +kernel) rfl (OpsW.nil ⟨rfl, H⟩)) ?_
  refine DrawX.cons rfl (fun X τ w H => OpsW.ld H p3 rfl rfl rfl rfl (Dm.ldR (n := 0) (by decide) (by rfl)) rfl (OpsW.nil ⟨rfl, H⟩)) ?_
  refine DrawX.cons rfl (fun X τ w H => OpsW.st rfl (OpsW.nil ⟨rfl, H⟩)) ?_
  refine DrawX.cons rfl (fun X τ w H => OpsW.st rfl (OpsW.nil ⟨rfl, H⟩)) ?_
  refine DrawX.cons rfl (fun X τ w H => OpsW.ldA H p3 rfl rfl rfl Dm.all rfl (OpsW.nil ⟨rfl, H⟩)) ?_
  refine DrawX.cons rfl (fun X τ w H => OpsW.st rfl (OpsW.nil ⟨rfl, H⟩)) ?_
  refine DrawX.cons rfl (fun X τ w H => OpsW.ld H p2 rfl rfl rfl rfl (by rfl) rfl (OpsW.nil ⟨rfl, H⟩)) ?_
  refine DrawX.cons rfl (fun X τ w H => OpsW.call rfl rfl rfl (sent17_ H d c) fun _ w h => by obtain ⟨rfl, H⟩ := h; exact OpsW.nil ⟨rfl, H⟩) ?_
  refine DrawX.cons rfl (fun X τ w H => OpsW.bld rfl rfl (note_bld (d.r 0) _ _ _) rfl (OpsW.nil ⟨rfl, H⟩)) ?_
  refine DrawX.alloc (by kernel_rfl) rfl rfl rfl ?_
  refine DrawX.nil1 (q := 11) (fun _ => rfl) (fun _ => rfl) fun bk w H => ?_
  dsimp only
  refine AnyW.one (by kernel_rfl) (by kernel_rfl) rfl ?_
  refine OpsW.strF H p0 rfl rfl rfl (note_scl _ _ _ _ _ _ _) rfl (note_len _ _ _ _ _ _ _) (by rw [note_len]; decide) fun w H => ?_
  rw [splice_full (by rw [note_len]; rfl)] at H
  refine OpsW.nil ?_
  refine AnyW.done ?_
  (first | refine CW.seqDraw mo H [0, 1, 0, 4, 12, 31] fun w H => ?_ | refine CW.draw mo H [0, 1, 0, 4, 12, 31] fun w H => ?_); refine AnyW.seg (m := 5) (by kernel_rfl) (by kernel_rfl) H rfl ?_
  refine DrawP.cons rfl (fun τ w H => OpsW.st rfl (OpsW.nil ⟨rfl, H⟩)) ?_
  refine DrawP.cons rfl (fun τ w H => OpsW.slcA rfl rfl rfl rfl rfl rfl (OpsW.nil ⟨rfl, H⟩)) ?_
  refine DrawP.cons rfl (fun τ w H => OpsW.st rfl (OpsW.nil ⟨rfl, H⟩)) ?_
  refine DrawP.cons rfl (fun τ w H => OpsW.st rfl (OpsW.nil ⟨rfl, H⟩)) ?_
  refine DrawP.cons rfl (fun τ w H => OpsW.slcAF (k := 1) rfl rfl rfl rfl rfl rfl rfl rfl (by decide) rfl (OpsW.nil ⟨rfl, H⟩)) ?_
  refine DrawP.nil fun w H => ?_
  refine AnyW.one (by kernel_rfl) (by kernel_rfl) rfl ?_
  refine OpsW.cpyM (m := 3) (sz := 1) (v2 := .slice (some ⟨bd, 1, none⟩) 7 7) (c2 := X.mk 7 fun j => Value.int .u32 (d.r (j + 1))) H p0 (SlR.of_part p3 rfl (Nat.le_refl 7) (fun j hj => (Dm.ldR (d := d) (n := j + 1) (by omega) (by omega)).trans (mk_get? (N := 7) (f := fun j => Value.int .u32 (d.r (j + 1))) (by omega)).symm)) rfl rfl (by rw [note_len]; decide) rfl rfl rfl rfl rfl rfl rfl fun w H => ?_
  rw [note_put] at H
  refine OpsW.nil ?_
  refine AnyW.done ?_
  (first | refine CW.seqDraw mo H [0, 1, 0, 0, 8, 4, 36, 124, 252, 0, 1023, 2047] fun w H => ?_ | refine CW.draw mo H [0, 1, 0, 0, 8, 4, 36, 124, 252, 0, 1023, 2047] fun w H => ?_); refine AnyW.seg (m := 11) (by kernel_rfl) (by kernel_rfl) H rfl ?_
  refine DrawP.cons rfl (fun τ w H => OpsW.st rfl (OpsW.nil ⟨rfl, H⟩)) ?_
  refine DrawP.cons rfl (fun τ w H => OpsW.ld H p2 rfl rfl rfl rfl (by rfl) rfl (OpsW.nil ⟨rfl, H⟩)) ?_
  refine DrawP.cons rfl (fun τ w H => OpsW.st rfl (OpsW.nil ⟨rfl, H⟩)) ?_
  refine DrawP.cons rfl (fun τ w H => OpsW.st rfl (OpsW.nil ⟨rfl, H⟩)) ?_
  refine DrawP.cons rfl (fun τ w H => OpsW.ld H p2 rfl rfl rfl rfl (by rfl) rfl (OpsW.nil ⟨rfl, H⟩)) ?_
  refine DrawP.cons rfl (fun τ w H => OpsW.st rfl (OpsW.nil ⟨rfl, H⟩)) ?_
  refine DrawP.cons rfl (fun τ w H => OpsW.st rfl (OpsW.nil ⟨rfl, H⟩)) ?_
  refine DrawP.cons rfl (fun τ w H => OpsW.ixA (n := b) rfl rfl rfl rfl rfl rfl rfl hb16 rfl (OpsW.nil ⟨rfl, H⟩)) ?_
  refine DrawP.cons rfl (fun τ w H => OpsW.ldA H p3 rfl rfl rfl (Dm.ldK hb16 (by omega)) rfl (OpsW.nil ⟨rfl, H⟩)) ?_
  refine DrawP.cons rfl (fun τ w H => OpsW.ldA H p0 rfl rfl rfl (note_all _ _ _ _ _ _ _) rfl (OpsW.nil ⟨rfl, H⟩)) ?_
  refine DrawP.cons rfl (fun τ w H => OpsW.bld rfl rfl (ev_bld a (d.k b) _ _ _ _ _ _ _) rfl (OpsW.nil ⟨rfl, H⟩)) ?_
  refine DrawP.nil fun w H => ?_
  refine AnyW.one (by kernel_rfl) (by kernel_rfl) rfl ?_
  refine OpsW.strF H p1 rfl rfl rfl (Ev.scl _) rfl (Ev.len _) (by rw [Ev.len]; decide) fun w H => ?_
  rw [splice_full (by rw [Ev.len]; rfl)] at H
  refine OpsW.nil ?_
  refine AnyW.done ?_
  repeat' (first | (refine zA ?_; first | refine zB ?_ | refine zC H ?_ | refine zD H ?_ | refine zE H fun _ _ H => ?_ | refine zF H fun _ _ H => ?_ | refine zG H fun _ H => ?_ | refine zH H fun _ H => ?_) | (refine zI ?_; first | refine zJ ?_ | refine zK ?_ | refine zL ?_ | refine CW.seqDc ?_ | refine CW.seqDb ?_ | refine CW.seqDl ?_ | refine CW.seqDs ?_ | refine CW.seqDk ?_ | refine zN ?_ | refine zO ?_ | refine zP ?_ | refine zQ ?_ | refine zR ?_) | refine zS ?_)
  exact ret1c (resA H p0 rfl rfl (Ev.all _)) ⟨rfl, by have := (((H.drop.drop).drop).perm p1); exact this⟩
/-- What an instruction comes to: the event, the domain, the store. -/
def doP (s : St) (d : Dm) (i : Ins) : Ev × Dm × St :=
  if i.op = 1 then (Ev.of 0, d.setR i.a.toNat i.imm, s)
  else if i.op = 2 then (Ev.of 0, d.setR i.a.toNat ((4096 * d.r i.a.toNat + i.imm) % 4294967296), s)
  else if i.op = 3 then (Ev.of 0, d.setR i.a.toNat (wdo i.imm (d.r i.b.toNat) (d.r i.c.toNat)).1, s)
  else if i.op = 4 then (Ev.of 0, d.setPC i.imm, s)
  else if i.op = 5 then (Ev.of 0, if d.r i.a.toNat = 0 then d.setPC i.imm else d, s)
  else if i.op = 6 ∨ i.op = 7 then moveP s d i
  else if i.op = 8 then (Ev.of 0, d.setK i.a.toNat (d.k i.b.toNat), s)
  else if i.op = 9 then (Ev.of 0, d.setK i.a.toNat ⟨1, 0, 0, 0, d.r i.b.toNat⟩, s)
  else if i.op = 10 then (Ev.of 0, d.setR i.a.toNat (if (d.k i.b.toNat).kind = 1 then (d.k i.b.toNat).data else 0), s)
  else if i.op = 11 then (⟨1, i.a, d.k i.b.toNat, d.r 0, d.r 1, d.r 2, d.r 3, sentK d.k i.c 0, sentK d.k i.c 1, sentK d.k i.c 2, 0, 0⟩, d, s)
  else if i.op = 12 then (Ev.of 2, d, s)
  else (Ev.of 3, d, s)
theorem mm1 {w' : World} {d' : Dm} (H : Sat z w' (memP bm 4 s hb :: blk bd 70 d'.c :: Rs)) : Sat z w' (memP bm 4 s (hb + 1) :: blk bd 70 d'.c :: Rs) := memP_more H p0
theorem cdo_ (H : Sat z w (blk bd 70 d.c :: memP bm 4 s hb :: Rs)) (hm : MOk s hb) (hk : 0 ≤ d.mem.data) (hr : ∀ n, 0 ≤ d.r n) (i : Ins) (hi : i.ec = 0) :
    Spec cf 71 #[.pointer (some ⟨bm, 0, none⟩), .pointer (some ⟨bd, 0, none⟩), i.v] w fun e w' => e = .agg (doP s d i).1.l.toArray ∧ Sat z w' (memP bm 4 (doP s d i).2.2 (hb + 1) :: blk bd 70 (doP s d i).2.1.c :: Rs) := by
  have hR := ec_rng hi
  obtain ⟨op, a, b, c, imm⟩ := i
  obtain ⟨o1, o2, a1, a2, b1, b2, c1, c2, m1, m2⟩ := hR
  dsimp only at o1 o2 a1 a2 b1 b2 c1 c2 m1 m2
  obtain ⟨a, rfl⟩ := Int.eq_ofNat_of_zero_le a1
  obtain ⟨b, rfl⟩ := Int.eq_ofNat_of_zero_le b1
  obtain ⟨c, rfl⟩ := Int.eq_ofNat_of_zero_le c1
  have ta : ((a : Nat) : Int).toNat = a := rfl
  have tb : ((b : Nat) : Int).toNat = b := rfl
  have tc : ((c : Nat) : Int).toNat = c := rfl
  rcases (show op = 1 ∨ op = 2 ∨ op = 3 ∨ op = 4 ∨ op = 5 ∨ op = 6 ∨ op = 7 ∨ op = 8 ∨ op = 9 ∨ op = 10 ∨ op = 11 ∨ op = 12 ∨ op = 13 by omega) with rfl | rfl | rfl | rfl | rfl | rfl | rfl | rfl | rfl | rfl | rfl | rfl | rfl
  all_goals simp [Ins.ec, Ins.fit, inR] at hi
  · exact (cdo1_ H a b c imm (by omega) m1 m2).mono fun e w h => ⟨h.1, mm1 h.2⟩
  · exact (cdo2_ H a b c imm (by omega) m1 m2).mono fun e w h => ⟨h.1, mm1 h.2⟩
  · exact (cdo3_ H a b c imm (by omega) (by omega) (by omega) (hr _)).mono fun e w h => ⟨h.1, mm1 h.2⟩
  · exact (cdo4_ H a b c imm m1 m2).mono fun e w h => ⟨h.1, mm1 h.2⟩
  · exact (cdo5_ H a b c imm (by omega) m1 m2).mono fun e w h => ⟨h.1, mm1 h.2⟩
  · exact (cdo67_ H hm hk 6 a b c imm (by omega) (by omega) (.inl rfl) m1 m2)
  · exact (cdo67_ H hm hk 7 a b c imm (by omega) (by omega) (.inr rfl) m1 m2)
  · exact (cdo8_ H a b c imm (by omega) (by omega)).mono fun e w h => ⟨h.1, mm1 h.2⟩
  · exact (cdo9_ H a b c imm (by omega) (by omega)).mono fun e w h => ⟨h.1, mm1 h.2⟩
  · exact (cdo10_ H a b c imm (by omega) (by omega)).mono fun e w h => ⟨h.1, mm1 h.2⟩
  · exact (cdo11_ H a b c imm (by omega) (by omega) (by omega)).mono fun e w h => ⟨h.1, mm1 h.2⟩
  · exact (cdo12_ H a b c imm).mono fun e w h => ⟨h.1, mm1 h.2⟩
  · exact (cdo13_ H a b c imm).mono fun e w h => ⟨h.1, mm1 h.2⟩
end
end Go.Proofs.YtnfefbhjdncccaaDoor.X
