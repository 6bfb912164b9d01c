/- Contracts of chapter 17 (cpu): what an instruction does; conditions: none. -/
import Derived.Test.YtnfefbhjdncccaaDoorA17
import Derived.Test.YtnfefbhjdncccaaDoorX27
namespace Go.Proofs.YtnfefbhjdncccaaDoor.X
open Go Go.Proofs
set_option linter.unusedSimpArgs false
set_option linter.unusedVariables false
theorem Dm.setR2 {d : Dm} {n : Nat} {x y : Int} : (d.setR n x).setR n y = d.setR n y := by
  unfold Dm.setR
  congr 1
  funext j
  dsimp only
  split <;> rfl
attribute [local irreducible] CW OpsW RetW Spec blk snap DrawP AnyW AnyM AnyN bits IntKind.wrap vec itr asc eA Dm.c nodesP pagesP cacheP mcP memP Ev.l St.load St.save St.saveS wdo
section
variable {z w : World} {As Rs : List HP} {ads : List Addr} {d : Dm} {bm bd hb : Nat} {size : Int} {s : St}
theorem num_ (H : Sat z w As) (n : Int) : Spec cf 107 #[.int .u32 n] w fun e w' => e = K.v ⟨1, 0, 0, 0, n⟩ ∧ Sat z w' As := by
  refine enter (l := [.int .u32 n]) Tryd.func107 rfl rfl rfl rfl rfl ?_
  repeat' (first | (refine zA ?_; first | refine zB ?_ | refine zC H ?_ | refine zD H ?_ | refine zE H fun _ _ H => ?_ | refine zF H fun _ _ H => ?_ | refine zG H fun _ H => ?_ | refine zH H fun _ H => ?_) | (refine zI ?_; first | refine zJ ?_ | refine zK ?_ | refine zL ?_ | refine zM ?_ | refine zN ?_ | refine zO ?_ | refine zP ?_ | refine zQ ?_ | refine zR ?_) | refine zS ?_)
  exact ret1c (resA H (by (first | exact p0 | exact p1 | exact p2 | exact p3 | exact p4 | exact p5 | exact p6 | exact p7)) rfl rfl (by rfl)) ⟨rfl, by (first | exact H | exact H.drop | exact H.d2 | exact H.d3 | exact H.d4 | exact H.d5 | exact H.d6 | exact H.d7)⟩
set_option maxHeartbeats 4000000 in
theorem cdo1_ (H : Sat z w (blk bd 70 d.c :: memP bm 4 s hb :: Rs)) (a : Nat) (b c imm : Int) (ha : a < 8) (h0 : 0 ≤ imm) (h1 : imm < 4096) :
    Spec cf 71 #[.pointer (some ⟨bm, 0, none⟩), .pointer (some ⟨bd, 0, none⟩), Ins.v ⟨1, a, b, c, imm⟩] w fun e w' => e = .agg (Ev.of 0).l.toArray ∧ Sat z w' (memP bm 4 s hb :: blk bd 70 (d.setR a imm).c :: Rs) := by
  refine enter (l := [.pointer (some ⟨bm, 0, none⟩), .pointer (some ⟨bd, 0, none⟩), Ins.v ⟨1, a, b, c, imm⟩]) Tryd.func71 rfl rfl rfl rfl rfl ?_
  repeat' (first | (refine zA ?_; first | refine zB ?_ | refine zC H ?_ | refine zD H ?_ | refine zE H fun _ _ H => ?_ | refine zF H fun _ _ H => ?_ | refine zG H fun _ H => ?_ | refine zH H fun _ H => ?_) | (refine zI ?_; first | refine zJ ?_ | refine zK ?_ | refine zL ?_ | refine CW.seqDc ?_ | refine CW.seqDb ?_ | refine CW.seqDl ?_ | refine CW.seqDs ?_ | refine CW.seqDk ?_ | refine zN ?_ | refine zO ?_ | refine zP ?_ | refine zQ ?_ | refine zR ?_) | refine zS ?_)
  (first | refine CW.seqDraw mo H [0, 0, 2, 0, 8, 24, 1, 127, 255] fun w H => ?_ | refine CW.draw mo H [0, 0, 2, 0, 8, 24, 1, 127, 255] fun w H => ?_); refine AnyW.seg (m := 8) (by kernel_rfl) (by kernel_rfl) H rfl ?_
  repeat' (first | (refine DrawP.nil ?_; intro w H) | (refine DrawP.go ?_; first | refine DrawP.cons rfl (fun τ w H => OpsW.st rfl (OpsW.nil ⟨rfl, H⟩)) ?_ | refine DrawP.cons rfl (fun τ w H => OpsW.ld H (by (first | exact p0 | exact p1 | exact p2 | exact p3 | exact p4 | exact p5 | exact p6 | exact p7)) rfl rfl rfl rfl (by rfl) rfl (OpsW.nil ⟨rfl, H⟩)) ?_ | refine DrawP.cons rfl (fun τ w H => OpsW.ldA H (by (first | exact p0 | exact p1 | exact p2 | exact p3 | exact p4 | exact p5 | exact p6 | exact p7)) rfl rfl rfl (by rfl) rfl (OpsW.nil ⟨rfl, H⟩)) ?_ | refine DrawP.cons rfl (fun τ w H => OpsW.ixA (n := a) rfl rfl rfl rfl rfl rfl rfl ha rfl (OpsW.nil ⟨rfl, H⟩)) ?_) | refine DrawP.split (fun h => ?_) (fun h => ?_))
  rw [show IntKind.wrap .u32 (⟨1, a, b, c, imm⟩ : Ins).imm = imm by rw [wrapu32]; show imm % _ = imm; omega]
  refine AnyW.one (by kernel_rfl) (by kernel_rfl) rfl ?_
  refine OpsW.str H p2 rfl rfl rfl rfl rfl rfl (by rw [Dm.len]; omega) fun w H => ?_
  rw [Dm.stR ha (by omega)] at H
  refine OpsW.nil ?_
  refine AnyW.done ?_
  (repeat' (first | (refine zA ?_; first | refine zB ?_ | refine zC H ?_ | refine zD H ?_ | refine zE H fun _ _ H => ?_ | refine zF H fun _ _ H => ?_ | refine zG H fun _ H => ?_ | refine zH H fun _ H => ?_) | (refine zI ?_; first | refine zJ ?_ | refine zK ?_ | refine zL ?_ | refine CW.seqDc ?_ | refine CW.seqDb ?_ | refine CW.seqDl ?_ | refine CW.seqDs ?_ | refine CW.seqDk ?_ | refine zN ?_ | refine zO ?_ | refine zP ?_ | refine zQ ?_ | refine zR ?_) | refine zS ?_)); replace H := evF (Ev.of 0) H (by with_unfolding_all rfl); exact ret1c (resA H p0 rfl rfl (Ev.all _)) ⟨rfl, ((H.drop.perm p1).drop).perm p1⟩
set_option maxHeartbeats 4000000 in
theorem cdo2_ (H : Sat z w (blk bd 70 d.c :: memP bm 4 s hb :: Rs)) (a : Nat) (b c imm : Int) (ha : a < 8) (h0 : 0 ≤ imm) (h1 : imm < 4096) :
    Spec cf 71 #[.pointer (some ⟨bm, 0, none⟩), .pointer (some ⟨bd, 0, none⟩), Ins.v ⟨2, a, b, c, imm⟩] w fun e w' => e = .agg (Ev.of 0).l.toArray ∧ Sat z w' (memP bm 4 s hb :: blk bd 70 (d.setR a ((4096 * d.r a + imm) % 4294967296)).c :: Rs) := by
  refine enter (l := [.pointer (some ⟨bm, 0, none⟩), .pointer (some ⟨bd, 0, none⟩), Ins.v ⟨2, a, b, c, imm⟩]) Tryd.func71 rfl rfl rfl rfl rfl ?_
  repeat' (first | (refine zA ?_; first | refine zB ?_ | refine zC H ?_ | refine zD H ?_ | refine zE H fun _ _ H => ?_ | refine zF H fun _ _ H => ?_ | refine zG H fun _ H => ?_ | refine zH H fun _ H => ?_) | (refine zI ?_; first | refine zJ ?_ | refine zK ?_ | refine zL ?_ | refine CW.seqDc ?_ | refine CW.seqDb ?_ | refine CW.seqDl ?_ | refine CW.seqDs ?_ | refine CW.seqDk ?_ | refine zN ?_ | refine zO ?_ | refine zP ?_ | refine zQ ?_ | refine zR ?_) | refine zS ?_)
  (first | refine CW.seqDraw mo H [0, 0, 2, 0, 0, 16, 8, 120, 248, 504, 0, 1024, 3072, 8184, 1, 32767, 65535] fun w H => ?_ | refine CW.draw mo H [0, 0, 2, 0, 0, 16, 8, 120, 248, 504, 0, 1024, 3072, 8184, 1, 32767, 65535] fun w H => ?_); refine AnyW.seg (m := 16) (by kernel_rfl) (by kernel_rfl) H rfl ?_
  repeat' (first | (refine DrawP.nil ?_; intro w H) | (refine DrawP.go ?_; first | refine DrawP.cons rfl (fun τ w H => OpsW.st rfl (OpsW.nil ⟨rfl, H⟩)) ?_ | refine DrawP.cons rfl (fun τ w H => OpsW.ld H (by (first | exact p0 | exact p1 | exact p2 | exact p3 | exact p4 | exact p5 | exact p6 | exact p7)) rfl rfl rfl rfl (by rfl) rfl (OpsW.nil ⟨rfl, H⟩)) ?_ | refine DrawP.cons rfl (fun τ w H => OpsW.ldA H (by (first | exact p0 | exact p1 | exact p2 | exact p3 | exact p4 | exact p5 | exact p6 | exact p7)) rfl rfl rfl (by rfl) rfl (OpsW.nil ⟨rfl, H⟩)) ?_ | refine DrawP.cons rfl (fun τ w H => OpsW.ixA (n := a) rfl rfl rfl rfl rfl rfl rfl ha rfl (OpsW.nil ⟨rfl, H⟩)) ?_ | refine DrawP.cons rfl (fun τ w H => OpsW.ld H p2 rfl rfl rfl rfl (Dm.ldR ha (by omega)) rfl (OpsW.nil ⟨rfl, H⟩)) ?_) | refine DrawP.split (fun h => ?_) (fun h => ?_))
  rw [show IntKind.wrap .u32 (IntKind.wrap .u32 (d.r a * 4096) + IntKind.wrap .u32 (⟨2, a, b, c, imm⟩ : Ins).imm) = (4096 * d.r a + imm) % 4294967296 by rw [wrapu32, wrapu32, wrapu32]; show (_ + imm % _) % _ = _; omega]
  refine AnyW.one (by kernel_rfl) (by kernel_rfl) rfl ?_
  refine OpsW.str H p2 rfl rfl rfl rfl rfl rfl (by rw [Dm.len]; omega) fun w H => ?_
  rw [Dm.stR ha (by omega)] at H
  refine OpsW.nil ?_
  refine AnyW.done ?_
  (repeat' (first | (refine zA ?_; first | refine zB ?_ | refine zC H ?_ | refine zD H ?_ | refine zE H fun _ _ H => ?_ | refine zF H fun _ _ H => ?_ | refine zG H fun _ H => ?_ | refine zH H fun _ H => ?_) | (refine zI ?_; first | refine zJ ?_ | refine zK ?_ | refine zL ?_ | refine CW.seqDc ?_ | refine CW.seqDb ?_ | refine CW.seqDl ?_ | refine CW.seqDs ?_ | refine CW.seqDk ?_ | refine zN ?_ | refine zO ?_ | refine zP ?_ | refine zQ ?_ | refine zR ?_) | refine zS ?_)); replace H := evF (Ev.of 0) H (by with_unfolding_all rfl); exact ret1c (resA H p0 rfl rfl (Ev.all _)) ⟨rfl, ((H.drop.perm p1).drop).perm p1⟩
set_option maxHeartbeats 4000000 in
theorem cdo3_ (H : Sat z w (blk bd 70 d.c :: memP bm 4 s hb :: Rs)) (a b c : Nat) (imm : Int) (ha : a < 8) (hb8 : b < 8) (hc8 : c < 8) (hr : 0 ≤ d.r c) :
    Spec cf 71 #[.pointer (some ⟨bm, 0, none⟩), .pointer (some ⟨bd, 0, none⟩), Ins.v ⟨3, a, b, c, imm⟩] w fun e w' => e = .agg (Ev.of 0).l.toArray ∧ Sat z w' (memP bm 4 s hb :: blk bd 70 (d.setR a (wdo imm (d.r b) (d.r c)).1).c :: Rs) := by
  refine enter (l := [.pointer (some ⟨bm, 0, none⟩), .pointer (some ⟨bd, 0, none⟩), Ins.v ⟨3, a, b, c, imm⟩]) Tryd.func71 rfl rfl rfl rfl rfl ?_
  repeat' (first | (refine zA ?_; first | refine zB ?_ | refine zC H ?_ | refine zD H ?_ | refine zE H fun _ _ H => ?_ | refine zF H fun _ _ H => ?_ | refine zG H fun _ H => ?_ | refine zH H fun _ H => ?_) | (refine zI ?_; first | refine zJ ?_ | refine zK ?_ | refine zL ?_ | refine CW.seqDc ?_ | refine CW.seqDb ?_ | refine CW.seqDl ?_ | refine CW.seqDs ?_ | refine CW.seqDk ?_ | refine zN ?_ | refine zO ?_ | refine zP ?_ | refine zQ ?_ | refine zR ?_) | refine zS ?_)
  refine CW.draw mo H [0, 0, 2, 0, 8, 0, 0, 64, 32, 480, 992, 0, 0, 4096, 2048, 30720, 63488, 131064, 262136, 524280, 524280, 1, 3145727, 7340031] fun w H => ?_
  refine AnyW.segD (m := 23) (q := 20) (by kernel_rfl) (by kernel_rfl) rfl rfl (by kernel_rfl) H rfl ?_
  refine DrawP.cons rfl (fun τ w H => OpsW.st rfl (OpsW.nil ⟨rfl, H⟩)) ?_
  refine DrawP.cons rfl (fun τ w H => OpsW.st rfl (OpsW.nil ⟨rfl, H⟩)) ?_
  refine DrawP.cons rfl (fun τ w H => OpsW.ld H p1 rfl rfl rfl rfl rfl rfl (OpsW.nil ⟨rfl, H⟩)) ?_
  refine DrawP.cons rfl (fun τ w H => OpsW.st rfl (OpsW.nil ⟨rfl, H⟩)) ?_
  refine DrawP.cons rfl (fun τ w H => OpsW.ld H p1 rfl rfl rfl rfl rfl rfl (OpsW.nil ⟨rfl, H⟩)) ?_
  refine DrawP.cons rfl (fun τ w H => OpsW.st rfl (OpsW.nil ⟨rfl, H⟩)) ?_
  refine DrawP.cons rfl (fun τ w H => OpsW.st rfl (OpsW.nil ⟨rfl, H⟩)) ?_
  refine DrawP.cons rfl (fun τ w H => OpsW.ld H p1 rfl rfl rfl rfl rfl rfl (OpsW.nil ⟨rfl, H⟩)) ?_
  refine DrawP.cons rfl (fun τ w H => OpsW.st rfl (OpsW.nil ⟨rfl, H⟩)) ?_
  refine DrawP.cons rfl (fun τ w H => OpsW.ixA (n := b) rfl rfl rfl rfl rfl rfl rfl hb8 rfl (OpsW.nil ⟨rfl, H⟩)) ?_
  refine DrawP.cons rfl (fun τ w H => OpsW.ld H p2 rfl rfl rfl rfl (Dm.ldR hb8 (by omega)) rfl (OpsW.nil ⟨rfl, H⟩)) ?_
  refine DrawP.cons rfl (fun τ w H => OpsW.st rfl (OpsW.nil ⟨rfl, H⟩)) ?_
  refine DrawP.cons rfl (fun τ w H => OpsW.st rfl (OpsW.nil ⟨rfl, H⟩)) ?_
  refine DrawP.cons rfl (fun τ w H => OpsW.ld H p1 rfl rfl rfl rfl rfl rfl (OpsW.nil ⟨rfl, H⟩)) ?_
  refine DrawP.cons rfl (fun τ w H => OpsW.st rfl (OpsW.nil ⟨rfl, H⟩)) ?_
  refine DrawP.cons rfl (fun τ w H => OpsW.ixA (n := c) rfl rfl rfl rfl rfl rfl rfl hc8 rfl (OpsW.nil ⟨rfl, H⟩)) ?_
  refine DrawP.cons rfl (fun τ w H => OpsW.ld H p2 rfl rfl rfl rfl (Dm.ldR hc8 (by omega)) rfl (OpsW.nil ⟨rfl, H⟩)) ?_
  refine DrawP.cons rfl (fun τ w H => OpsW.call rfl rfl rfl (do_ _ _ _ H imm (d.r b) (d.r c) hr) fun _ w h => by obtain ⟨rfl, H⟩ := h; exact OpsW.nil ⟨rfl, H⟩) ?_
  refine DrawP.cons rfl (fun τ w H => OpsW.st rfl (OpsW.nil ⟨rfl, H⟩)) ?_
  refine DrawP.cons rfl (fun τ w H => OpsW.st rfl (OpsW.nil ⟨rfl, H⟩)) ?_
  refine DrawP.cons rfl (fun τ w H => OpsW.st rfl (OpsW.nil ⟨rfl, H⟩)) ?_
  refine DrawP.cons rfl (fun τ w H => OpsW.st rfl (OpsW.nil ⟨rfl, H⟩)) ?_
  refine DrawP.cons rfl (fun τ w H => OpsW.ixA (n := a) rfl rfl rfl rfl rfl rfl rfl ha rfl (OpsW.nil ⟨rfl, H⟩)) ?_
  refine DrawP.nil fun w H => ?_
  refine ⟨?_, fun τ => ⟨_, rfl, rfl⟩⟩
  refine AnyW.one (by kernel_rfl) (by kernel_rfl) rfl ?_
  refine OpsW.str H p2 rfl rfl rfl rfl rfl rfl (by rw [Dm.len]; omega) fun w H => ?_
  rw [Dm.stR ha (by omega)] at H
  refine OpsW.nil ?_
  refine AnyW.done ?_
  (repeat' (first | (refine zA ?_; first | refine zB ?_ | refine zC H ?_ | refine zD H ?_ | refine zE H fun _ _ H => ?_ | refine zF H fun _ _ H => ?_ | refine zG H fun _ H => ?_ | refine zH H fun _ H => ?_) | (refine zI ?_; first | refine zJ ?_ | refine zK ?_ | refine zL ?_ | refine CW.seqDc ?_ | refine CW.seqDb ?_ | refine CW.seqDl ?_ | refine CW.seqDs ?_ | refine CW.seqDk ?_ | refine zN ?_ | refine zO ?_ | refine zP ?_ | refine zQ ?_ | refine zR ?_) | refine zS ?_)); replace H := evF (Ev.of 0) H (by with_unfolding_all rfl); exact ret1c (resA H p0 rfl rfl (Ev.all _)) ⟨rfl, ((H.drop.perm p1).drop).perm p1⟩
set_option maxHeartbeats 4000000 in
theorem cdo4_ (H : Sat z w (blk bd 70 d.c :: memP bm 4 s hb :: Rs)) (a b c : Int) (imm : Int) (h0 : 0 ≤ imm) (h1 : imm < 4096) :
    Spec cf 71 #[.pointer (some ⟨bm, 0, none⟩), .pointer (some ⟨bd, 0, none⟩), Ins.v ⟨4, a, b, c, imm⟩] w fun e w' => e = .agg (Ev.of 0).l.toArray ∧ Sat z w' (memP bm 4 s hb :: blk bd 70 (d.setPC imm).c :: Rs) := by
  refine enter (l := [.pointer (some ⟨bm, 0, none⟩), .pointer (some ⟨bd, 0, none⟩), Ins.v ⟨4, a, b, c, imm⟩]) Tryd.func71 rfl rfl rfl rfl rfl ?_
  repeat' (first | (refine zA ?_; first | refine zB ?_ | refine zC H ?_ | refine zD H ?_ | refine zE H fun _ _ H => ?_ | refine zF H fun _ _ H => ?_ | refine zG H fun _ H => ?_ | refine zH H fun _ H => ?_) | (refine zI ?_; first | refine zJ ?_ | refine zK ?_ | refine zL ?_ | refine CW.seqDc ?_ | refine CW.seqDb ?_ | refine CW.seqDl ?_ | refine CW.seqDs ?_ | refine CW.seqDk ?_ | refine zN ?_ | refine zO ?_ | refine zP ?_ | refine zQ ?_ | refine zR ?_) | refine zS ?_)
  rw [show IntKind.wrap .u32 (⟨4, a, b, c, imm⟩ : Ins).imm = imm by rw [wrapu32]; show imm % _ = imm; omega]
  refine OpsW.str H p2 rfl rfl rfl rfl rfl rfl (by rw [Dm.len]; decide) fun w H => ?_
  replace H : Sat z w (blk bd 70 (d.c.set 8 (.int .u32 imm)) :: _) := H
  rw [Dm.stPC] at H
  (repeat' (first | (refine zA ?_; first | refine zB ?_ | refine zC H ?_ | refine zD H ?_ | refine zE H fun _ _ H => ?_ | refine zF H fun _ _ H => ?_ | refine zG H fun _ H => ?_ | refine zH H fun _ H => ?_) | (refine zI ?_; first | refine zJ ?_ | refine zK ?_ | refine zL ?_ | refine CW.seqDc ?_ | refine CW.seqDb ?_ | refine CW.seqDl ?_ | refine CW.seqDs ?_ | refine CW.seqDk ?_ | refine zN ?_ | refine zO ?_ | refine zP ?_ | refine zQ ?_ | refine zR ?_) | refine zS ?_)); replace H := evF (Ev.of 0) H (by with_unfolding_all rfl); exact ret1c (resA H p0 rfl rfl (Ev.all _)) ⟨rfl, ((H.drop.perm p1).drop).perm p1⟩
set_option maxHeartbeats 4000000 in
theorem cdo5_ (H : Sat z w (blk bd 70 d.c :: memP bm 4 s hb :: Rs)) (a : Nat) (b c : Int) (imm : Int) (ha : a < 8) (h0 : 0 ≤ imm) (h1 : imm < 4096) :
    Spec cf 71 #[.pointer (some ⟨bm, 0, none⟩), .pointer (some ⟨bd, 0, none⟩), Ins.v ⟨5, a, b, c, imm⟩] w fun e w' => e = .agg (Ev.of 0).l.toArray ∧ Sat z w' (memP bm 4 s hb :: blk bd 70 (if d.r a = 0 then d.setPC imm else d).c :: Rs) := by
  refine enter (l := [.pointer (some ⟨bm, 0, none⟩), .pointer (some ⟨bd, 0, none⟩), Ins.v ⟨5, a, b, c, imm⟩]) Tryd.func71 rfl rfl rfl rfl rfl ?_
  repeat' (first | (refine zA ?_; first | refine zB ?_ | refine zC H ?_ | refine zD H ?_ | refine zE H fun _ _ H => ?_ | refine zF H fun _ _ H => ?_ | refine zG H fun _ H => ?_ | refine zH H fun _ H => ?_) | (refine zI ?_; first | refine zJ ?_ | refine zK ?_ | refine zL ?_ | refine CW.seqDc ?_ | refine CW.seqDb ?_ | refine CW.seqDl ?_ | refine CW.seqDs ?_ | refine CW.seqDk ?_ | refine zN ?_ | refine zO ?_ | refine zP ?_ | refine zQ ?_ | refine zR ?_) | refine zS ?_)
  (first | refine CW.seqDraw mo H [0, 0, 2, 1, 15, 31, 63] fun w H => ?_ | refine CW.draw mo H [0, 0, 2, 1, 15, 31, 63] fun w H => ?_); refine AnyW.seg (m := 7) (by kernel_rfl) (by kernel_rfl) H rfl ?_
  repeat' (first | (refine DrawP.nil ?_; intro w H) | (refine DrawP.go ?_; first | refine DrawP.cons rfl (fun τ w H => OpsW.st rfl (OpsW.nil ⟨rfl, H⟩)) ?_ | refine DrawP.cons rfl (fun τ w H => OpsW.ld H (by (first | exact p0 | exact p1 | exact p2 | exact p3 | exact p4 | exact p5 | exact p6 | exact p7)) rfl rfl rfl rfl (by rfl) rfl (OpsW.nil ⟨rfl, H⟩)) ?_ | refine DrawP.cons rfl (fun τ w H => OpsW.ldA H (by (first | exact p0 | exact p1 | exact p2 | exact p3 | exact p4 | exact p5 | exact p6 | exact p7)) rfl rfl rfl (by rfl) rfl (OpsW.nil ⟨rfl, H⟩)) ?_ | refine DrawP.cons rfl (fun τ w H => OpsW.ixA (n := a) rfl rfl rfl rfl rfl rfl rfl ha rfl (OpsW.nil ⟨rfl, H⟩)) ?_ | refine DrawP.cons rfl (fun τ w H => OpsW.ld H p2 rfl rfl rfl rfl (Dm.ldR ha (by omega)) rfl (OpsW.nil ⟨rfl, H⟩)) ?_) | refine DrawP.split (fun h => ?_) (fun h => ?_))
  refine AnyW.done ?_
  by_cases h : d.r a = 0
  · rw [if_pos h, h]
    repeat' (first | (refine zA ?_; first | refine zB ?_ | refine zC H ?_ | refine zD H ?_ | refine zE H fun _ _ H => ?_ | refine zF H fun _ _ H => ?_ | refine zG H fun _ H => ?_ | refine zH H fun _ H => ?_) | (refine zI ?_; first | refine zJ ?_ | refine zK ?_ | refine zL ?_ | refine CW.seqDc ?_ | refine CW.seqDb ?_ | refine CW.seqDl ?_ | refine CW.seqDs ?_ | refine CW.seqDk ?_ | refine zN ?_ | refine zO ?_ | refine zP ?_ | refine zQ ?_ | refine zR ?_) | refine zS ?_)
    rw [show IntKind.wrap .u32 (⟨5, a, b, c, imm⟩ : Ins).imm = imm by rw [wrapu32]; show imm % _ = imm; omega]
    refine OpsW.str H p2 rfl rfl rfl rfl rfl rfl (by rw [Dm.len]; decide) fun w H => ?_
    replace H : Sat z w (blk bd 70 (d.c.set 8 (.int .u32 imm)) :: _) := H
    rw [Dm.stPC] at H
    (repeat' (first | (refine zA ?_; first | refine zB ?_ | refine zC H ?_ | refine zD H ?_ | refine zE H fun _ _ H => ?_ | refine zF H fun _ _ H => ?_ | refine zG H fun _ H => ?_ | refine zH H fun _ H => ?_) | (refine zI ?_; first | refine zJ ?_ | refine zK ?_ | refine zL ?_ | refine CW.seqDc ?_ | refine CW.seqDb ?_ | refine CW.seqDl ?_ | refine CW.seqDs ?_ | refine CW.seqDk ?_ | refine zN ?_ | refine zO ?_ | refine zP ?_ | refine zQ ?_ | refine zR ?_) | refine zS ?_)); replace H := evF (Ev.of 0) H (by with_unfolding_all rfl); exact ret1c (resA H p0 rfl rfl (Ev.all _)) ⟨rfl, ((H.drop.perm p1).drop).perm p1⟩
  · rw [if_neg h]
    refine CW.cond rfl (fun h2 => absurd h2 (by simp [h])) (fun _ => ?_)
    (repeat' (first | (refine zA ?_; first | refine zB ?_ | refine zC H ?_ | refine zD H ?_ | refine zE H fun _ _ H => ?_ | refine zF H fun _ _ H => ?_ | refine zG H fun _ H => ?_ | refine zH H fun _ H => ?_) | (refine zI ?_; first | refine zJ ?_ | refine zK ?_ | refine zL ?_ | refine CW.seqDc ?_ | refine CW.seqDb ?_ | refine CW.seqDl ?_ | refine CW.seqDs ?_ | refine CW.seqDk ?_ | refine zN ?_ | refine zO ?_ | refine zP ?_ | refine zQ ?_ | refine zR ?_) | refine zS ?_))
    replace H := evF (Ev.of 0) H (by with_unfolding_all rfl)
    exact ret1c (resA H p0 rfl rfl (Ev.all _)) ⟨rfl, ((H.drop.drop).perm p1)⟩
set_option maxHeartbeats 4000000 in
theorem cdo8_ (H : Sat z w (blk bd 70 d.c :: memP bm 4 s hb :: Rs)) (a b : Nat) (c imm : Int) (ha : a < 16) (hb16 : b < 16) :
    Spec cf 71 #[.pointer (some ⟨bm, 0, none⟩), .pointer (some ⟨bd, 0, none⟩), Ins.v ⟨8, a, b, c, imm⟩] w fun e w' => e = .agg (Ev.of 0).l.toArray ∧ Sat z w' (memP bm 4 s hb :: blk bd 70 (d.setK a (d.k b)).c :: Rs) := by
  refine enter (l := [.pointer (some ⟨bm, 0, none⟩), .pointer (some ⟨bd, 0, none⟩), Ins.v ⟨8, a, b, c, imm⟩]) Tryd.func71 rfl rfl rfl rfl rfl ?_
  repeat' (first | (refine zA ?_; first | refine zB ?_ | refine zC H ?_ | refine zD H ?_ | refine zE H fun _ _ H => ?_ | refine zF H fun _ _ H => ?_ | refine zG H fun _ H => ?_ | refine zH H fun _ H => ?_) | (refine zI ?_; first | refine zJ ?_ | refine zK ?_ | refine zL ?_ | refine CW.seqDc ?_ | refine CW.seqDb ?_ | refine CW.seqDl ?_ | refine CW.seqDs ?_ | refine CW.seqDk ?_ | refine zN ?_ | refine zO ?_ | refine zP ?_ | refine zQ ?_ | refine zR ?_) | refine zS ?_)
  (first | refine CW.seqDraw mo H [0, 0, 2, 0, 0, 16, 8, 72, 248, 504, 1, 1025, 4095, 8191] fun w H => ?_ | refine CW.draw mo H [0, 0, 2, 0, 0, 16, 8, 72, 248, 504, 1, 1025, 4095, 8191] fun w H => ?_); refine AnyW.seg (m := 13) (by kernel_rfl) (by kernel_rfl) H rfl ?_
  repeat' (first | (refine DrawP.nil ?_; intro w H) | (refine DrawP.go ?_; first | refine DrawP.cons rfl (fun τ w H => OpsW.st rfl (OpsW.nil ⟨rfl, H⟩)) ?_ | refine DrawP.cons rfl (fun τ w H => OpsW.ld H (by (first | exact p0 | exact p1 | exact p2 | exact p3 | exact p4 | exact p5 | exact p6 | exact p7)) rfl rfl rfl rfl (by rfl) rfl (OpsW.nil ⟨rfl, H⟩)) ?_ | refine DrawP.cons rfl (fun τ w H => OpsW.ldA H (by (first | exact p0 | exact p1 | exact p2 | exact p3 | exact p4 | exact p5 | exact p6 | exact p7)) rfl rfl rfl (by rfl) rfl (OpsW.nil ⟨rfl, H⟩)) ?_ | refine DrawP.cons rfl (fun τ w H => OpsW.ixA (n := a) rfl rfl rfl rfl rfl rfl rfl ha rfl (OpsW.nil ⟨rfl, H⟩)) ?_ | refine DrawP.cons rfl (fun τ w H => OpsW.ixA (n := b) rfl rfl rfl rfl rfl rfl rfl hb16 rfl (OpsW.nil ⟨rfl, H⟩)) ?_ | refine DrawP.cons rfl (fun τ w H => OpsW.ldA H p2 rfl rfl rfl (Dm.ldK hb16 (by omega)) rfl (OpsW.nil ⟨rfl, H⟩)) ?_) | refine DrawP.split (fun h => ?_) (fun h => ?_))
  refine AnyW.one (by kernel_rfl) (by kernel_rfl) rfl ?_
  refine OpsW.strF (vs := (d.k b).l) H p2 rfl rfl rfl rfl rfl rfl (by rw [Dm.len]; show _ + 5 ≤ 107; omega) fun w H => ?_
  rw [Dm.stK ha (by omega)] at H
  refine OpsW.nil ?_
  refine AnyW.done ?_
  (repeat' (first | (refine zA ?_; first | refine zB ?_ | refine zC H ?_ | refine zD H ?_ | refine zE H fun _ _ H => ?_ | refine zF H fun _ _ H => ?_ | refine zG H fun _ H => ?_ | refine zH H fun _ H => ?_) | (refine zI ?_; first | refine zJ ?_ | refine zK ?_ | refine zL ?_ | refine CW.seqDc ?_ | refine CW.seqDb ?_ | refine CW.seqDl ?_ | refine CW.seqDs ?_ | refine CW.seqDk ?_ | refine zN ?_ | refine zO ?_ | refine zP ?_ | refine zQ ?_ | refine zR ?_) | refine zS ?_)); replace H := evF (Ev.of 0) H (by with_unfolding_all rfl); exact ret1c (resA H p0 rfl rfl (Ev.all _)) ⟨rfl, ((H.drop.perm p1).drop).perm p1⟩
set_option maxHeartbeats 4000000 in
theorem cdo9_ (H : Sat z w (blk bd 70 d.c :: memP bm 4 s hb :: Rs)) (a b : Nat) (c imm : Int) (ha : a < 16) (hb8 : b < 8) :
    Spec cf 71 #[.pointer (some ⟨bm, 0, none⟩), .pointer (some ⟨bd, 0, none⟩), Ins.v ⟨9, a, b, c, imm⟩] w fun e w' => e = .agg (Ev.of 0).l.toArray ∧ Sat z w' (memP bm 4 s hb :: blk bd 70 (d.setK a ⟨1, 0, 0, 0, d.r b⟩).c :: Rs) := by
  refine enter (l := [.pointer (some ⟨bm, 0, none⟩), .pointer (some ⟨bd, 0, none⟩), Ins.v ⟨9, a, b, c, imm⟩]) Tryd.func71 rfl rfl rfl rfl rfl ?_
  repeat' (first | (refine zA ?_; first | refine zB ?_ | refine zC H ?_ | refine zD H ?_ | refine zE H fun _ _ H => ?_ | refine zF H fun _ _ H => ?_ | refine zG H fun _ H => ?_ | refine zH H fun _ H => ?_) | (refine zI ?_; first | refine zJ ?_ | refine zK ?_ | refine zL ?_ | refine CW.seqDc ?_ | refine CW.seqDb ?_ | refine CW.seqDl ?_ | refine CW.seqDs ?_ | refine CW.seqDk ?_ | refine zN ?_ | refine zO ?_ | refine zP ?_ | refine zQ ?_ | refine zR ?_) | refine zS ?_)
  (first | refine CW.seqDraw mo H [0, 0, 2, 0, 0, 16, 8, 120, 248, 504, 1, 1025, 4095, 8191] fun w H => ?_ | refine CW.draw mo H [0, 0, 2, 0, 0, 16, 8, 120, 248, 504, 1, 1025, 4095, 8191] fun w H => ?_); refine AnyW.seg (m := 13) (by kernel_rfl) (by kernel_rfl) H rfl ?_
  repeat' (first | (refine DrawP.nil ?_; intro w H) | (refine DrawP.go ?_; first | refine DrawP.cons rfl (fun τ w H => OpsW.st rfl (OpsW.nil ⟨rfl, H⟩)) ?_ | refine DrawP.cons rfl (fun τ w H => OpsW.ld H (by (first | exact p0 | exact p1 | exact p2 | exact p3 | exact p4 | exact p5 | exact p6 | exact p7)) rfl rfl rfl rfl (by rfl) rfl (OpsW.nil ⟨rfl, H⟩)) ?_ | refine DrawP.cons rfl (fun τ w H => OpsW.ldA H (by (first | exact p0 | exact p1 | exact p2 | exact p3 | exact p4 | exact p5 | exact p6 | exact p7)) rfl rfl rfl (by rfl) rfl (OpsW.nil ⟨rfl, H⟩)) ?_ | (refine DrawP.goCall ?_; first | refine DrawP.cons rfl (fun τ w H => OpsW.call rfl rfl rfl (num_ H (d.r b)) fun _ w h => by obtain ⟨rfl, H⟩ := h; exact OpsW.nil ⟨rfl, H⟩) ?_) | refine DrawP.cons rfl (fun τ w H => OpsW.ixA (n := a) rfl rfl rfl rfl rfl rfl rfl ha rfl (OpsW.nil ⟨rfl, H⟩)) ?_ | refine DrawP.cons rfl (fun τ w H => OpsW.ixA (n := b) rfl rfl rfl rfl rfl rfl rfl hb8 rfl (OpsW.nil ⟨rfl, H⟩)) ?_ | refine DrawP.cons rfl (fun τ w H => OpsW.ld H p2 rfl rfl rfl rfl (Dm.ldR hb8 (by omega)) rfl (OpsW.nil ⟨rfl, H⟩)) ?_) | refine DrawP.split (fun h => ?_) (fun h => ?_))
  refine AnyW.one (by kernel_rfl) (by kernel_rfl) rfl ?_
  refine OpsW.strF (vs := K.l ⟨1, 0, 0, 0, d.r b⟩) H p2 rfl rfl rfl rfl rfl rfl (by rw [Dm.len]; show _ + 5 ≤ 107; omega) fun w H => ?_
  rw [Dm.stK ha (by omega)] at H
  refine OpsW.nil ?_
  refine AnyW.done ?_
  (repeat' (first | (refine zA ?_; first | refine zB ?_ | refine zC H ?_ | refine zD H ?_ | refine zE H fun _ _ H => ?_ | refine zF H fun _ _ H => ?_ | refine zG H fun _ H => ?_ | refine zH H fun _ H => ?_) | (refine zI ?_; first | refine zJ ?_ | refine zK ?_ | refine zL ?_ | refine CW.seqDc ?_ | refine CW.seqDb ?_ | refine CW.seqDl ?_ | refine CW.seqDs ?_ | refine CW.seqDk ?_ | refine zN ?_ | refine zO ?_ | refine zP ?_ | refine zQ ?_ | refine zR ?_) | refine zS ?_)); replace H := evF (Ev.of 0) H (by with_unfolding_all rfl); exact ret1c (resA H p0 rfl rfl (Ev.all _)) ⟨rfl, ((H.drop.perm p1).drop).perm p1⟩
set_option maxHeartbeats 4000000 in
theorem cdo12_ (H : Sat z w (blk bd 70 d.c :: memP bm 4 s hb :: Rs)) (a b c imm : Int) :
    Spec cf 71 #[.pointer (some ⟨bm, 0, none⟩), .pointer (some ⟨bd, 0, none⟩), Ins.v ⟨12, a, b, c, imm⟩] w fun e w' => e = .agg (Ev.of 2).l.toArray ∧ Sat z w' (memP bm 4 s hb :: blk bd 70 d.c :: Rs) := by
  refine enter (l := [.pointer (some ⟨bm, 0, none⟩), .pointer (some ⟨bd, 0, none⟩), Ins.v ⟨12, a, b, c, imm⟩]) Tryd.func71 rfl rfl rfl rfl rfl ?_
  (repeat' (first | (refine zA ?_; first | refine zB ?_ | refine zC H ?_ | refine zD H ?_ | refine zE H fun _ _ H => ?_ | refine zF H fun _ _ H => ?_ | refine zG H fun _ H => ?_ | refine zH H fun _ H => ?_) | (refine zI ?_; first | refine zJ ?_ | refine zK ?_ | refine zL ?_ | refine CW.seqDc ?_ | refine CW.seqDb ?_ | refine CW.seqDl ?_ | refine CW.seqDs ?_ | refine CW.seqDk ?_ | refine zN ?_ | refine zO ?_ | refine zP ?_ | refine zQ ?_ | refine zR ?_) | refine zS ?_))
  replace H := evF (Ev.of 2) H (by with_unfolding_all rfl)
  exact ret1c (resA H p0 rfl rfl (Ev.all _)) ⟨rfl, ((H.drop.drop).perm p1)⟩
set_option maxHeartbeats 4000000 in
theorem cdo13_ (H : Sat z w (blk bd 70 d.c :: memP bm 4 s hb :: Rs)) (a b c imm : Int) :
    Spec cf 71 #[.pointer (some ⟨bm, 0, none⟩), .pointer (some ⟨bd, 0, none⟩), Ins.v ⟨13, a, b, c, imm⟩] w fun e w' => e = .agg (Ev.of 3).l.toArray ∧ Sat z w' (memP bm 4 s hb :: blk bd 70 d.c :: Rs) := by
  refine enter (l := [.pointer (some ⟨bm, 0, none⟩), .pointer (some ⟨bd, 0, none⟩), Ins.v ⟨13, a, b, c, imm⟩]) Tryd.func71 rfl rfl rfl rfl rfl ?_
  (repeat' (first | (refine zA ?_; first | refine zB ?_ | refine zC H ?_ | refine zD H ?_ | refine zE H fun _ _ H => ?_ | refine zF H fun _ _ H => ?_ | refine zG H fun _ H => ?_ | refine zH H fun _ H => ?_) | (refine zI ?_; first | refine zJ ?_ | refine zK ?_ | refine zL ?_ | refine CW.seqDc ?_ | refine CW.seqDb ?_ | refine CW.seqDl ?_ | refine CW.seqDs ?_ | refine CW.seqDk ?_ | refine zN ?_ | refine zO ?_ | refine zP ?_ | refine zQ ?_ | refine zR ?_) | refine zS ?_))
  replace H := evF (Ev.of 3) H (by with_unfolding_all rfl)
  exact ret1c (resA H p0 rfl rfl (Ev.all _)) ⟨rfl, ((H.drop.drop).perm p1)⟩
end
end Go.Proofs.YtnfefbhjdncccaaDoor.X
