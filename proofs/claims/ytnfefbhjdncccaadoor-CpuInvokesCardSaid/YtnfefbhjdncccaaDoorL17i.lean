/- The law CpuInvokes of chapter 17, walked; conditions: none. -/
import Derived.Test.YtnfefbhjdncccaaDoorP17d
import Derived.Test.YtnfefbhjdncccaaDoorL17j
namespace Go.Proofs.YtnfefbhjdncccaaDoor.X
open Go Go.Proofs
set_option linter.unusedSimpArgs false
set_option linter.unusedVariables false
def insI (h k f : Nat) : Ins := ⟨11, h, k, f, 0⟩
def wI (h k f : Nat) : List Int := [0, 0, (insI h k f).w]
theorem insI_ec : ∀ h : Nat, h < 3 → ∀ k : Nat, k < 16 → ∀ f : Nat, f < 16 → (insI h k f).ec = 0 := by decide +kernel
def evI (D : Dm) (h k f : Nat) : Ev := ⟨1, h, D.k k, D.r 0, D.r 1, D.r 2, D.r 3, sentK D.k f 0, sentK D.k f 1, sentK D.k f 2, 0, 0⟩
theorem doP_I (s : St) (D : Dm) (h k f : Nat) : doP s D (insI h k f) = (evI D h k f, D, s) := by
  simp [doP, insI, evI]
theorem stepI (D : Dm) (hM : D.mem = k17) (hp : D.pc = 2) (h k f : Nat) (h1 : h < 3) (h2 : k < 16) (h3 : f < 16) : stepP (t17 (g17 (wI h k f))) D = (evI D h k f, D.setPC 3, t17 (g17 (wI h k f))) := by
  have hl : (t17 (g17 (wI h k f))).load D.mem D.pc = ((insI h k f).w, 0) := by
    rw [hM, hp]; exact t17_load (g17 (wI h k f)) 0 2 (by decide)
  rw [stepP_ok hl (insI_ec h h1 k h2 f h3), hp, doP_I]
  rfl
theorem wI_rng (h k f : Nat) (h1 : h < 3) (h2 : k < 16) (h3 : f < 16) : ∀ n ∈ wI h k f, 0 ≤ n ∧ n < 4294967296 := fun n hn => by
  rcases List.mem_cons.1 hn with rfl | hn
  · decide
  rcases List.mem_cons.1 hn with rfl | hn
  · decide
  rcases List.mem_cons.1 hn with rfl | hn
  · exact w_rng (ec_rng (insI_ec h h1 k h2 f h3))
  · cases hn
theorem gI_rng (h k f : Nat) (h1 : h < 3) (h2 : k < 16) (h3 : f < 16) (p c : Nat) : 0 ≤ g17 (wI h k f) p c ∧ g17 (wI h k f) p c < 4294967296 := by
  have h := s17_m (wI h k f) (wI_rng h k f h1 h2 h3) 0 (by decide)
  exact ⟨h.w0 p c, h.w1 p c⟩
theorem Ev.how_ (e : Ev) : e.l[1]? = some (.int .i64 e.how) := rfl
theorem Ev.ord_ (e : Ev) : e.l[7]? = some (.int .u32 e.ord) := rfl
theorem Ev.key_ (e : Ev) : takeK 5 (e.l.drop 2) some = some e.key.l := rfl
theorem evI_word (D : Dm) (h k f i : Nat) (hi : i < 3) : (evI D h k f).l[8 + i * 1]? = some (.int .u32 (D.r (i + 1))) := by
  rcases (show i = 0 ∨ i = 1 ∨ i = 2 by omega) with rfl | rfl | rfl <;> rfl
theorem evI_keys (D : Dm) (h k f i : Nat) (hi : i < 3) : takeK 5 ((evI D h k f).l.drop (11 + i * 5)) some = some (sentK D.k f i).l := by
  rcases (show i = 0 ∨ i = 1 ∨ i = 2 by omega) with rfl | rfl | rfl <;> rfl
theorem wrapS {i : Nat} (hi : i < 3) : IntKind.wrap .i64 ((i : Int) + 1) = ((i + 1 : Nat) : Int) := by
  rw [wrap64_id (by omega) (by omega)]; omega
attribute [local irreducible] CW OpsW RetW Spec blk snap DrawP AnyW AnyM AnyN bits IntKind.wrap vec arena kds nds wds pgs eA nodesP pagesP cacheP wns mcP memP s17 t17 syP Dm.c Ev.l Ins.w sentK K.same
set_option maxHeartbeats 4000000 in
set_option maxRecDepth 20000 in
theorem cpuInvokes_ (W : World) (hEs : Errs W 237 [5, 1, 0, 2, 4]) (y : shDom17.T) (hy : shDom17.good W y) (how : Int) (hhw : (Lit.int .i64 how).wf = true) (k : Int) (hkw : (Lit.int .i64 k).wf = true) (fr : Int) (hfw : (Lit.int .i64 fr).wf = true) :
    Spec cf 8 #[.agg (shDom17.cells y).toArray, .int .i64 how, .int .i64 k, .int .i64 fr] W fun v w' => v = .bool true ∧ Sat W w' [snap W] := by
  have H := Sat.start W
  obtain ⟨ads, hE⟩ := errsC hEs
  have hD := toD17_ok y hy
  rw [toD17_c y hy]
  generalize toD17 y = d at *
  refine enter (l := [.agg d.c.toArray, .int .i64 how, .int .i64 k, .int .i64 fr]) Tryd.func8 rfl rfl rfl rfl rfl ?_
  repeat' (first | (refine OpsW.go ?_; first | refine OpsW.st rfl ?_ | refine OpsW.ld H (by (first | exact p0 | exact p1 | exact p2 | exact p3 | exact p4 | exact p5 | exact p6 | exact p7)) rfl rfl rfl rfl (by rfl) rfl ?_ | refine OpsW.ldA H (by (first | exact p0 | exact p1 | exact p2 | exact p3 | exact p4 | exact p5 | exact p6 | exact p7)) rfl rfl rfl (by rfl) rfl ?_ | refine OpsW.box H rfl rfl rfl fun _ _ H => ?_ | refine OpsW.alloc H rfl rfl rfl rfl fun _ _ H => ?_ | refine OpsW.str H (by (first | exact p0 | exact p1 | exact p2 | exact p3 | exact p4 | exact p5 | exact p6 | exact p7)) rfl rfl rfl rfl rfl rfl (by first | decide | (simp; done) | (simp; omega)) fun _ H => ?_ | refine OpsW.strA H (by (first | exact p0 | exact p1 | exact p2 | exact p3 | exact p4 | exact p5 | exact p6 | exact p7)) rfl rfl rfl rfl rfl rfl (by first | decide | (simp; done) | (simp; omega)) fun _ H => ?_) | (refine CW.go ?_; first | refine CW.condT rfl ?_ | refine CW.condF rfl ?_ | refine CW.seqR ?_ | refine CW.seqD ?_ | refine CW.block ?_ | refine CW.region ?_ | refine CW.ret ?_ | refine CW.exit ?_ | refine CW.skip ?_) | refine OpsW.nil ?_)
  refine OpsW.boxF H rfl rfl rfl fun bd w H => ?_
  repeat' (first | (refine OpsW.go ?_; first | refine OpsW.st rfl ?_ | refine OpsW.ld H (by (first | exact p0 | exact p1 | exact p2 | exact p3 | exact p4 | exact p5 | exact p6 | exact p7)) rfl rfl rfl rfl (by rfl) rfl ?_ | refine OpsW.ldA H (by (first | exact p0 | exact p1 | exact p2 | exact p3 | exact p4 | exact p5 | exact p6 | exact p7)) rfl rfl rfl (by rfl) rfl ?_ | refine OpsW.box H rfl rfl rfl fun _ _ H => ?_ | refine OpsW.alloc H rfl rfl rfl rfl fun _ _ H => ?_ | refine OpsW.str H (by (first | exact p0 | exact p1 | exact p2 | exact p3 | exact p4 | exact p5 | exact p6 | exact p7)) rfl rfl rfl rfl rfl rfl (by first | decide | (simp; done) | (simp; omega)) fun _ H => ?_ | refine OpsW.strA H (by (first | exact p0 | exact p1 | exact p2 | exact p3 | exact p4 | exact p5 | exact p6 | exact p7)) rfl rfl rfl rfl rfl rfl (by first | decide | (simp; done) | (simp; omega)) fun _ H => ?_) | (refine CW.go ?_; first | refine CW.condT rfl ?_ | refine CW.condF rfl ?_ | refine CW.seqR ?_ | refine CW.seqDc ?_ | refine CW.seqDb ?_ | refine CW.seqDl ?_ | refine CW.seqDs ?_ | refine CW.seqDk ?_ | refine CW.block ?_ | refine CW.region ?_ | refine CW.ret ?_ | refine CW.exit ?_ | refine CW.skip ?_) | refine OpsW.nil ?_)
  refine OpsW.call rfl rfl rfl (first17_ H hE.tail) ?_
  rintro _ w ⟨rfl, H⟩
  repeat' (first | (refine OpsW.go ?_; first | refine OpsW.st rfl ?_ | refine OpsW.ld H (by (first | exact p0 | exact p1 | exact p2 | exact p3 | exact p4 | exact p5 | exact p6 | exact p7)) rfl rfl rfl rfl (by rfl) rfl ?_ | refine OpsW.ldA H (by (first | exact p0 | exact p1 | exact p2 | exact p3 | exact p4 | exact p5 | exact p6 | exact p7)) rfl rfl rfl (by rfl) rfl ?_ | refine OpsW.box H rfl rfl rfl fun _ _ H => ?_ | refine OpsW.alloc H rfl rfl rfl rfl fun _ _ H => ?_ | refine OpsW.str H (by (first | exact p0 | exact p1 | exact p2 | exact p3 | exact p4 | exact p5 | exact p6 | exact p7)) rfl rfl rfl rfl rfl rfl (by first | decide | (simp; done) | (simp; omega)) fun _ H => ?_ | refine OpsW.strA H (by (first | exact p0 | exact p1 | exact p2 | exact p3 | exact p4 | exact p5 | exact p6 | exact p7)) rfl rfl rfl rfl rfl rfl (by first | decide | (simp; done) | (simp; omega)) fun _ H => ?_) | (refine CW.go ?_; first | refine CW.condT rfl ?_ | refine CW.condF rfl ?_ | refine CW.seqR ?_ | refine CW.seqDc ?_ | refine CW.seqDb ?_ | refine CW.seqDl ?_ | refine CW.seqDs ?_ | refine CW.seqDk ?_ | refine CW.block ?_ | refine CW.region ?_ | refine CW.ret ?_ | refine CW.exit ?_ | refine CW.skip ?_) | refine OpsW.nil ?_)
  refine OpsW.call rfl rfl rfl (number_ _ _ _ H how 3 (by decide) (by decide)) ?_
  rintro _ w ⟨rfl, H⟩
  obtain ⟨h0, hh0⟩ := Int.eq_ofNat_of_zero_le (Int.emod_nonneg how (show (3 : Int) ≠ 0 by decide))
  have hh3 : h0 < 3 := by have := Int.emod_lt_of_pos how (show (0 : Int) < 3 by decide); omega
  rw [hh0]
  repeat' (first | (refine OpsW.go ?_; first | refine OpsW.st rfl ?_ | refine OpsW.ld H (by (first | exact p0 | exact p1 | exact p2 | exact p3 | exact p4 | exact p5 | exact p6 | exact p7)) rfl rfl rfl rfl (by rfl) rfl ?_ | refine OpsW.ldA H (by (first | exact p0 | exact p1 | exact p2 | exact p3 | exact p4 | exact p5 | exact p6 | exact p7)) rfl rfl rfl (by rfl) rfl ?_ | refine OpsW.box H rfl rfl rfl fun _ _ H => ?_ | refine OpsW.alloc H rfl rfl rfl rfl fun _ _ H => ?_ | refine OpsW.str H (by (first | exact p0 | exact p1 | exact p2 | exact p3 | exact p4 | exact p5 | exact p6 | exact p7)) rfl rfl rfl rfl rfl rfl (by first | decide | (simp; done) | (simp; omega)) fun _ H => ?_ | refine OpsW.strA H (by (first | exact p0 | exact p1 | exact p2 | exact p3 | exact p4 | exact p5 | exact p6 | exact p7)) rfl rfl rfl rfl rfl rfl (by first | decide | (simp; done) | (simp; omega)) fun _ H => ?_) | (refine CW.go ?_; first | refine CW.condT rfl ?_ | refine CW.condF rfl ?_ | refine CW.seqR ?_ | refine CW.seqDc ?_ | refine CW.seqDb ?_ | refine CW.seqDl ?_ | refine CW.seqDs ?_ | refine CW.seqDk ?_ | refine CW.block ?_ | refine CW.region ?_ | refine CW.ret ?_ | refine CW.exit ?_ | refine CW.skip ?_) | refine OpsW.nil ?_)
  refine OpsW.call rfl rfl rfl (number_ _ _ _ H k 16 (by decide) (by decide)) ?_
  rintro _ w ⟨rfl, H⟩
  obtain ⟨k0, hk0⟩ := Int.eq_ofNat_of_zero_le (Int.emod_nonneg k (show (16 : Int) ≠ 0 by decide))
  have hk : k0 < 16 := by have := Int.emod_lt_of_pos k (show (0 : Int) < 16 by decide); omega
  rw [hk0]
  repeat' (first | (refine OpsW.go ?_; first | refine OpsW.st rfl ?_ | refine OpsW.ld H (by (first | exact p0 | exact p1 | exact p2 | exact p3 | exact p4 | exact p5 | exact p6 | exact p7)) rfl rfl rfl rfl (by rfl) rfl ?_ | refine OpsW.ldA H (by (first | exact p0 | exact p1 | exact p2 | exact p3 | exact p4 | exact p5 | exact p6 | exact p7)) rfl rfl rfl (by rfl) rfl ?_ | refine OpsW.box H rfl rfl rfl fun _ _ H => ?_ | refine OpsW.alloc H rfl rfl rfl rfl fun _ _ H => ?_ | refine OpsW.str H (by (first | exact p0 | exact p1 | exact p2 | exact p3 | exact p4 | exact p5 | exact p6 | exact p7)) rfl rfl rfl rfl rfl rfl (by first | decide | (simp; done) | (simp; omega)) fun _ H => ?_ | refine OpsW.strA H (by (first | exact p0 | exact p1 | exact p2 | exact p3 | exact p4 | exact p5 | exact p6 | exact p7)) rfl rfl rfl rfl rfl rfl (by first | decide | (simp; done) | (simp; omega)) fun _ H => ?_) | (refine CW.go ?_; first | refine CW.condT rfl ?_ | refine CW.condF rfl ?_ | refine CW.seqR ?_ | refine CW.seqDc ?_ | refine CW.seqDb ?_ | refine CW.seqDl ?_ | refine CW.seqDs ?_ | refine CW.seqDk ?_ | refine CW.block ?_ | refine CW.region ?_ | refine CW.ret ?_ | refine CW.exit ?_ | refine CW.skip ?_) | refine OpsW.nil ?_)
  refine OpsW.call rfl rfl rfl (number_ _ _ _ H fr 16 (by decide) (by decide)) ?_
  rintro _ w ⟨rfl, H⟩
  obtain ⟨f0, hf0⟩ := Int.eq_ofNat_of_zero_le (Int.emod_nonneg fr (show (16 : Int) ≠ 0 by decide))
  have hf : f0 < 16 := by have := Int.emod_lt_of_pos fr (show (0 : Int) < 16 by decide); omega
  rw [hf0]
  repeat' (first | (refine OpsW.go ?_; first | refine OpsW.st rfl ?_ | refine OpsW.ld H (by (first | exact p0 | exact p1 | exact p2 | exact p3 | exact p4 | exact p5 | exact p6 | exact p7)) rfl rfl rfl rfl (by rfl) rfl ?_ | refine OpsW.ldA H (by (first | exact p0 | exact p1 | exact p2 | exact p3 | exact p4 | exact p5 | exact p6 | exact p7)) rfl rfl rfl (by rfl) rfl ?_ | refine OpsW.box H rfl rfl rfl fun _ _ H => ?_ | refine OpsW.alloc H rfl rfl rfl rfl fun _ _ H => ?_ | refine OpsW.str H (by (first | exact p0 | exact p1 | exact p2 | exact p3 | exact p4 | exact p5 | exact p6 | exact p7)) rfl rfl rfl rfl rfl rfl (by first | decide | (simp; done) | (simp; omega)) fun _ H => ?_ | refine OpsW.strA H (by (first | exact p0 | exact p1 | exact p2 | exact p3 | exact p4 | exact p5 | exact p6 | exact p7)) rfl rfl rfl rfl rfl rfl (by first | decide | (simp; done) | (simp; omega)) fun _ H => ?_) | (refine CW.go ?_; first | refine CW.condT rfl ?_ | refine CW.condF rfl ?_ | refine CW.seqR ?_ | refine CW.seqDc ?_ | refine CW.seqDb ?_ | refine CW.seqDl ?_ | refine CW.seqDs ?_ | refine CW.seqDk ?_ | refine CW.block ?_ | refine CW.region ?_ | refine CW.ret ?_ | refine CW.exit ?_ | refine CW.skip ?_) | refine OpsW.nil ?_)
  refine OpsW.call rfl rfl rfl (cword_ (ads := ads) H hE.r.tail hE.w.tail (insI h0 k0 f0) (insI_ec h0 hh3 k0 hk f0 hf)) ?_
  rintro _ w ⟨rfl, H⟩
  repeat' (first | (refine OpsW.go ?_; first | refine OpsW.st rfl ?_ | refine OpsW.ld H (by (first | exact p0 | exact p1 | exact p2 | exact p3 | exact p4 | exact p5 | exact p6 | exact p7)) rfl rfl rfl rfl (by rfl) rfl ?_ | refine OpsW.ldA H (by (first | exact p0 | exact p1 | exact p2 | exact p3 | exact p4 | exact p5 | exact p6 | exact p7)) rfl rfl rfl (by rfl) rfl ?_ | refine OpsW.box H rfl rfl rfl fun _ _ H => ?_ | refine OpsW.alloc H rfl rfl rfl rfl fun _ _ H => ?_ | refine OpsW.str H (by (first | exact p0 | exact p1 | exact p2 | exact p3 | exact p4 | exact p5 | exact p6 | exact p7)) rfl rfl rfl rfl rfl rfl (by first | decide | (simp; done) | (simp; omega)) fun _ H => ?_ | refine OpsW.strA H (by (first | exact p0 | exact p1 | exact p2 | exact p3 | exact p4 | exact p5 | exact p6 | exact p7)) rfl rfl rfl rfl rfl rfl (by first | decide | (simp; done) | (simp; omega)) fun _ H => ?_) | (refine CW.go ?_; first | refine CW.condT rfl ?_ | refine CW.condF rfl ?_ | refine CW.seqR ?_ | refine CW.seqDc ?_ | refine CW.seqDb ?_ | refine CW.seqDl ?_ | refine CW.seqDs ?_ | refine CW.seqDk ?_ | refine CW.block ?_ | refine CW.region ?_ | refine CW.ret ?_ | refine CW.exit ?_ | refine CW.skip ?_) | refine OpsW.nil ?_)
  refine OpsW.bsl H rfl rfl rfl rfl rfl rfl rfl rfl fun bw w H => ?_
  repeat' (first | (refine OpsW.go ?_; first | refine OpsW.st rfl ?_ | refine OpsW.ld H (by (first | exact p0 | exact p1 | exact p2 | exact p3 | exact p4 | exact p5 | exact p6 | exact p7)) rfl rfl rfl rfl (by rfl) rfl ?_ | refine OpsW.ldA H (by (first | exact p0 | exact p1 | exact p2 | exact p3 | exact p4 | exact p5 | exact p6 | exact p7)) rfl rfl rfl (by rfl) rfl ?_ | refine OpsW.box H rfl rfl rfl fun _ _ H => ?_ | refine OpsW.alloc H rfl rfl rfl rfl fun _ _ H => ?_ | refine OpsW.str H (by (first | exact p0 | exact p1 | exact p2 | exact p3 | exact p4 | exact p5 | exact p6 | exact p7)) rfl rfl rfl rfl rfl rfl (by first | decide | (simp; done) | (simp; omega)) fun _ H => ?_ | refine OpsW.strA H (by (first | exact p0 | exact p1 | exact p2 | exact p3 | exact p4 | exact p5 | exact p6 | exact p7)) rfl rfl rfl rfl rfl rfl (by first | decide | (simp; done) | (simp; omega)) fun _ H => ?_) | (refine CW.go ?_; first | refine CW.condT rfl ?_ | refine CW.condF rfl ?_ | refine CW.seqR ?_ | refine CW.seqDc ?_ | refine CW.seqDb ?_ | refine CW.seqDl ?_ | refine CW.seqDs ?_ | refine CW.seqDk ?_ | refine CW.block ?_ | refine CW.region ?_ | refine CW.ret ?_ | refine CW.exit ?_ | refine CW.skip ?_) | refine OpsW.nil ?_)
  refine OpsW.call rfl rfl rfl (made17_ H hE.tail.tail _ (wI h0 k0 f0) (by show 3 ≤ 32; decide) (SlR.of_blk (r := []) rfl (Nat.le_refl 3))) ?_
  rintro _ w ⟨bm, bx, rfl, H⟩
  rw [s17_g] at H
  repeat' (first | (refine OpsW.go ?_; first | refine OpsW.st rfl ?_ | refine OpsW.ld H (by (first | exact p0 | exact p1 | exact p2 | exact p3 | exact p4 | exact p5 | exact p6 | exact p7)) rfl rfl rfl rfl (by rfl) rfl ?_ | refine OpsW.ldA H (by (first | exact p0 | exact p1 | exact p2 | exact p3 | exact p4 | exact p5 | exact p6 | exact p7)) rfl rfl rfl (by rfl) rfl ?_ | refine OpsW.box H rfl rfl rfl fun _ _ H => ?_ | refine OpsW.alloc H rfl rfl rfl rfl fun _ _ H => ?_ | refine OpsW.str H (by (first | exact p0 | exact p1 | exact p2 | exact p3 | exact p4 | exact p5 | exact p6 | exact p7)) rfl rfl rfl rfl rfl rfl (by first | decide | (simp; done) | (simp; omega)) fun _ H => ?_ | refine OpsW.strA H (by (first | exact p0 | exact p1 | exact p2 | exact p3 | exact p4 | exact p5 | exact p6 | exact p7)) rfl rfl rfl rfl rfl rfl (by first | decide | (simp; done) | (simp; omega)) fun _ H => ?_) | (refine CW.go ?_; first | refine CW.condT rfl ?_ | refine CW.condF rfl ?_ | refine CW.seqR ?_ | refine CW.seqDc ?_ | refine CW.seqDb ?_ | refine CW.seqDl ?_ | refine CW.seqDs ?_ | refine CW.seqDk ?_ | refine CW.block ?_ | refine CW.region ?_ | refine CW.ret ?_ | refine CW.exit ?_ | refine CW.skip ?_) | refine OpsW.nil ?_)
  rename_i bk _ _ _
  replace H : Sat W _ (blk bk 43 k17.l :: memP bm 4 (t17 (g17 (wI h0 k0 f0))) 0 :: syP bx (t17 (g17 (wI h0 k0 f0))) :: blk bd 70 d.c :: [snap W]) := ((H.perm p3).drop)
  refine OpsW.strF (vs := k17.l) H p3 rfl rfl rfl rfl rfl rfl (by rw [Dm.len]; decide) fun w H => ?_
  replace H : Sat W w (blk bd 70 (splice d.c 91 k17.l) :: _) := H
  rw [Dm.stM] at H
  repeat' (first | (refine OpsW.go ?_; first | refine OpsW.st rfl ?_ | refine OpsW.ld H (by (first | exact p0 | exact p1 | exact p2 | exact p3 | exact p4 | exact p5 | exact p6 | exact p7)) rfl rfl rfl rfl (by rfl) rfl ?_ | refine OpsW.ldA H (by (first | exact p0 | exact p1 | exact p2 | exact p3 | exact p4 | exact p5 | exact p6 | exact p7)) rfl rfl rfl (by rfl) rfl ?_ | refine OpsW.box H rfl rfl rfl fun _ _ H => ?_ | refine OpsW.alloc H rfl rfl rfl rfl fun _ _ H => ?_ | refine OpsW.str H (by (first | exact p0 | exact p1 | exact p2 | exact p3 | exact p4 | exact p5 | exact p6 | exact p7)) rfl rfl rfl rfl rfl rfl (by first | decide | (simp; done) | (simp; omega)) fun _ H => ?_ | refine OpsW.strA H (by (first | exact p0 | exact p1 | exact p2 | exact p3 | exact p4 | exact p5 | exact p6 | exact p7)) rfl rfl rfl rfl rfl rfl (by first | decide | (simp; done) | (simp; omega)) fun _ H => ?_) | (refine CW.go ?_; first | refine CW.condT rfl ?_ | refine CW.condF rfl ?_ | refine CW.seqR ?_ | refine CW.seqDc ?_ | refine CW.seqDb ?_ | refine CW.seqDl ?_ | refine CW.seqDs ?_ | refine CW.seqDk ?_ | refine CW.block ?_ | refine CW.region ?_ | refine CW.ret ?_ | refine CW.exit ?_ | refine CW.skip ?_) | refine OpsW.nil ?_)
  refine OpsW.str H p0 rfl rfl rfl rfl rfl rfl (by rw [Dm.len]; decide) fun w H => ?_
  replace H : Sat W w (blk bd 70 ((d.setM k17).c.set 8 (.int .u32 2)) :: _) := H
  rw [Dm.stPC] at H
  have hst0 := stepI ((d.setM k17).setPC 2) rfl rfl h0 k0 f0 hh3 hk hf
  have hD2 : DOk ((d.setM k17).setPC 2) := (hD.setM (by decide)).setPC (by decide) (by decide)
  generalize (d.setM k17).setPC 2 = D at *
  repeat' (first | (refine OpsW.go ?_; first | refine OpsW.st rfl ?_ | refine OpsW.ld H (by (first | exact p0 | exact p1 | exact p2 | exact p3 | exact p4 | exact p5 | exact p6 | exact p7)) rfl rfl rfl rfl (by rfl) rfl ?_ | refine OpsW.ldA H (by (first | exact p0 | exact p1 | exact p2 | exact p3 | exact p4 | exact p5 | exact p6 | exact p7)) rfl rfl rfl (by rfl) rfl ?_ | refine OpsW.box H rfl rfl rfl fun _ _ H => ?_ | refine OpsW.alloc H rfl rfl rfl rfl fun _ _ H => ?_ | refine OpsW.str H (by (first | exact p0 | exact p1 | exact p2 | exact p3 | exact p4 | exact p5 | exact p6 | exact p7)) rfl rfl rfl rfl rfl rfl (by first | decide | (simp; done) | (simp; omega)) fun _ H => ?_ | refine OpsW.strA H (by (first | exact p0 | exact p1 | exact p2 | exact p3 | exact p4 | exact p5 | exact p6 | exact p7)) rfl rfl rfl rfl rfl rfl (by first | decide | (simp; done) | (simp; omega)) fun _ H => ?_) | (refine CW.go ?_; first | refine CW.condT rfl ?_ | refine CW.condF rfl ?_ | refine CW.seqR ?_ | refine CW.seqDc ?_ | refine CW.seqDb ?_ | refine CW.seqDl ?_ | refine CW.seqDs ?_ | refine CW.seqDk ?_ | refine CW.block ?_ | refine CW.region ?_ | refine CW.ret ?_ | refine CW.exit ?_ | refine CW.skip ?_) | refine OpsW.nil ?_)
  refine OpsW.ldA H p0 rfl rfl rfl Dm.all rfl ?_
  refine OpsW.alloc H rfl rfl rfl rfl fun bs_ w H => ?_
  refine OpsW.strF H p0 rfl rfl rfl Dm.scl rfl Dm.len (by rw [Dm.len]; decide) fun w H => ?_
  rw [splice_full (by rw [Dm.len]; rfl)] at H
  repeat' (first | (refine OpsW.go ?_; first | refine OpsW.st rfl ?_ | refine OpsW.ld H (by (first | exact p0 | exact p1 | exact p2 | exact p3 | exact p4 | exact p5 | exact p6 | exact p7)) rfl rfl rfl rfl (by rfl) rfl ?_ | refine OpsW.ldA H (by (first | exact p0 | exact p1 | exact p2 | exact p3 | exact p4 | exact p5 | exact p6 | exact p7)) rfl rfl rfl (by rfl) rfl ?_ | refine OpsW.box H rfl rfl rfl fun _ _ H => ?_ | refine OpsW.alloc H rfl rfl rfl rfl fun _ _ H => ?_ | refine OpsW.str H (by (first | exact p0 | exact p1 | exact p2 | exact p3 | exact p4 | exact p5 | exact p6 | exact p7)) rfl rfl rfl rfl rfl rfl (by first | decide | (simp; done) | (simp; omega)) fun _ H => ?_ | refine OpsW.strA H (by (first | exact p0 | exact p1 | exact p2 | exact p3 | exact p4 | exact p5 | exact p6 | exact p7)) rfl rfl rfl rfl rfl rfl (by first | decide | (simp; done) | (simp; omega)) fun _ H => ?_) | (refine CW.go ?_; first | refine CW.condT rfl ?_ | refine CW.condF rfl ?_ | refine CW.seqR ?_ | refine CW.seqDc ?_ | refine CW.seqDb ?_ | refine CW.seqDl ?_ | refine CW.seqDs ?_ | refine CW.seqDk ?_ | refine CW.block ?_ | refine CW.region ?_ | refine CW.ret ?_ | refine CW.exit ?_ | refine CW.skip ?_) | refine OpsW.nil ?_)
  have hst := step_ ((H.perm p1).perm (p2.cons _)) (t17_m (gI_rng h0 k0 f0 hh3 hk hf) (hb := 0) (by decide)) (by decide) hD2 hE.r.tail.tail.tail hE.w.tail.tail.tail
  rw [hst0] at hst
  dsimp only at hst
  refine OpsW.call rfl rfl rfl hst ?_
  rintro _ w ⟨rfl, H⟩
  clear hst hst0
  refine OpsW.alloc H rfl rfl rfl rfl fun be w H => ?_
  refine OpsW.strF H p0 rfl rfl rfl (Ev.scl _) rfl (Ev.len _) (by rw [Ev.len]; decide) fun w H => ?_
  rw [splice_full (by rw [Ev.len]; rfl)] at H
  replace H : Sat W w (blk be 79 (evI D h0 k0 f0).l :: memP bm 4 (t17 (g17 (wI h0 k0 f0))) 2 :: blk bd 70 (D.setPC 3).c :: blk bs_ 70 D.c :: blk bk 43 k17.l :: syP bx (t17 (g17 (wI h0 k0 f0))) :: [snap W]) := H
  have hpc : (D.setPC 3).c[8]? = some (.int .u32 3) := Dm.ldPC
  have hSW : ∀ {w : World}, Sat W w (blk be 79 (evI D h0 k0 f0).l :: memP bm 4 (t17 (g17 (wI h0 k0 f0))) 2 :: blk bd 70 (D.setPC 3).c :: blk bs_ 70 D.c :: blk bk 43 k17.l :: syP bx (t17 (g17 (wI h0 k0 f0))) :: [snap W]) → Spec cf 33 #[.slice (some ⟨bd, 0, none⟩) 8 8, .slice (some ⟨bs_, 0, none⟩) 8 8] w fun e w' => e = .bool true ∧ Sat W w' (blk be 79 (evI D h0 k0 f0).l :: memP bm 4 (t17 (g17 (wI h0 k0 f0))) 2 :: blk bd 70 (D.setPC 3).c :: blk bs_ 70 D.c :: blk bk 43 k17.l :: syP bx (t17 (g17 (wI h0 k0 f0))) :: [snap W]) := fun {w} H => by
    have := sameWords_ H (X.mk 8 D.r) (X.mk 8 D.r) _ _ (by rw [mk_length]; decide) (by rw [mk_length]; decide) (slr_regs (d := D.setPC 3) p2) (slr_regs p3)
    rw [decide_eq_true rfl] at this; exact this
  have hSK : ∀ {w : World}, Sat W w (blk be 79 (evI D h0 k0 f0).l :: memP bm 4 (t17 (g17 (wI h0 k0 f0))) 2 :: blk bd 70 (D.setPC 3).c :: blk bs_ 70 D.c :: blk bk 43 k17.l :: syP bx (t17 (g17 (wI h0 k0 f0))) :: [snap W]) → Spec cf 34 #[.slice (some ⟨bd, 11, none⟩) 16 16, .slice (some ⟨bs_, 11, none⟩) 16 16] w fun e w' => e = .bool true ∧ Sat W w' (blk be 79 (evI D h0 k0 f0).l :: memP bm 4 (t17 (g17 (wI h0 k0 f0))) 2 :: blk bd 70 (D.setPC 3).c :: blk bs_ 70 D.c :: blk bk 43 k17.l :: syP bx (t17 (g17 (wI h0 k0 f0))) :: [snap W]) := fun {w} H =>
    sameKeysR_ H (X.mk 16 D.k) (by rw [mk_length]; decide) (slr_keys (d := D.setPC 3) p2) (slr_keys p3)
  have hK0 : ∀ {w : World}, Sat W w (blk be 79 (evI D h0 k0 f0).l :: memP bm 4 (t17 (g17 (wI h0 k0 f0))) 2 :: blk bd 70 (D.setPC 3).c :: blk bs_ 70 D.c :: blk bk 43 k17.l :: syP bx (t17 (g17 (wI h0 k0 f0))) :: [snap W]) → Spec cf 36 #[(D.k k0).v, (D.k k0).v] w fun e w' => e = .bool true ∧ Sat W w' (blk be 79 (evI D h0 k0 f0).l :: memP bm 4 (t17 (g17 (wI h0 k0 f0))) 2 :: blk bd 70 (D.setPC 3).c :: blk bs_ 70 D.c :: blk bk 43 k17.l :: syP bx (t17 (g17 (wI h0 k0 f0))) :: [snap W]) := fun {w} H => by
    have := sameKey _ _ _ H (D.k k0) (D.k k0)
    rw [(K.same_iff _ _).2 rfl] at this; exact this
  repeat' (first | (refine OpsW.go ?_; first | refine OpsW.st rfl ?_ | refine OpsW.ld H (by (first | exact p0 | exact p1 | exact p2 | exact p3 | exact p4 | exact p5 | exact p6 | exact p7)) rfl rfl rfl rfl (by rfl) rfl ?_ | refine OpsW.ldA H (by (first | exact p0 | exact p1 | exact p2 | exact p3 | exact p4 | exact p5 | exact p6 | exact p7)) rfl rfl rfl (by rfl) rfl ?_ | refine OpsW.box H rfl rfl rfl fun _ _ H => ?_ | refine OpsW.alloc H rfl rfl rfl rfl fun _ _ H => ?_ | refine OpsW.str H (by (first | exact p0 | exact p1 | exact p2 | exact p3 | exact p4 | exact p5 | exact p6 | exact p7)) rfl rfl rfl rfl rfl rfl (by first | decide | (simp; done) | (simp; omega)) fun _ H => ?_ | refine OpsW.strA H (by (first | exact p0 | exact p1 | exact p2 | exact p3 | exact p4 | exact p5 | exact p6 | exact p7)) rfl rfl rfl rfl rfl rfl (by first | decide | (simp; done) | (simp; omega)) fun _ H => ?_) | (refine CW.go ?_; first | refine CW.condT rfl ?_ | refine CW.condF rfl ?_ | refine CW.seqR ?_ | refine CW.seqDc ?_ | refine CW.seqDb ?_ | refine CW.seqDl ?_ | refine CW.seqDs ?_ | refine CW.seqDk ?_ | refine CW.block ?_ | refine CW.region ?_ | refine CW.ret ?_ | refine CW.exit ?_ | refine CW.skip ?_) | refine OpsW.nil ?_)
  (first | refine CW.seqDraw mo H [0, 1, 3, 7, 15, 31, 15, 127, 255, 511, 1023, 2047, 1023, 1023, 13311, 29695, 65535, 131071, 262143, 524287, 1048575, 2097151, 4194303, 1048575, 9437183, 26214399, 59768831, 134217727, 268435455, 536870911, 1073741823, 2147483647, 4294967295, 8589934591, 17179869183] fun w H => ?_ | refine CW.draw mo H [0, 1, 3, 7, 15, 31, 15, 127, 255, 511, 1023, 2047, 1023, 1023, 13311, 29695, 65535, 131071, 262143, 524287, 1048575, 2097151, 4194303, 1048575, 9437183, 26214399, 59768831, 134217727, 268435455, 536870911, 1073741823, 2147483647, 4294967295, 8589934591, 17179869183] fun w H => ?_); refine AnyW.seg (m := 35) (by kernel_rfl) (by kernel_rfl) H rfl ?_
  refine DrawP.cons rfl (fun τ w H => OpsW.st rfl (OpsW.nil ⟨rfl, H⟩)) ?_
  refine DrawP.cons rfl (fun τ w H => OpsW.ld H p0 rfl rfl rfl rfl (Ev.kind_ _) rfl (OpsW.nil ⟨rfl, H⟩)) ?_
  refine DrawP.cons rfl (fun τ w H => OpsW.st rfl (OpsW.nil ⟨rfl, H⟩)) ?_
  refine DrawP.cons rfl (fun τ w H => OpsW.st rfl (OpsW.nil ⟨rfl, H⟩)) ?_
  refine DrawP.cons rfl (fun τ w H => OpsW.st rfl (OpsW.nil ⟨rfl, H⟩)) ?_
  refine DrawP.cons rfl (fun τ w H => OpsW.ld H p0 rfl rfl rfl rfl (Ev.how_ _) rfl (OpsW.nil ⟨rfl, H⟩)) ?_
  refine DrawP.cons rfl (fun τ w H => OpsW.st rfl (OpsW.nil ⟨rfl, H⟩)) ?_
  refine DrawP.cons rfl (fun τ w H => OpsW.stV rfl (congrArg Value.bool (bne_self_eq_false ((h0 : Nat) : Int))) (OpsW.nil ⟨rfl, H⟩)) ?_
  refine DrawP.cons rfl (fun τ w H => OpsW.st rfl (OpsW.nil ⟨rfl, H⟩)) ?_
  refine DrawP.cons rfl (fun τ w H => OpsW.st rfl (OpsW.nil ⟨rfl, H⟩)) ?_
  refine DrawP.cons rfl (fun τ w H => OpsW.st rfl (OpsW.nil ⟨rfl, H⟩)) ?_
  refine DrawP.cons rfl (fun τ w H => OpsW.ldA H p0 rfl rfl rfl (Ev.key_ _) rfl (OpsW.nil ⟨rfl, H⟩)) ?_
  refine DrawP.cons rfl (fun τ w H => OpsW.st rfl (OpsW.nil ⟨rfl, H⟩)) ?_
  refine DrawP.cons rfl (fun τ w H => OpsW.st rfl (OpsW.nil ⟨rfl, H⟩)) ?_
  refine DrawP.cons rfl (fun τ w H => OpsW.ixA (n := k0) rfl rfl rfl rfl rfl rfl rfl hk rfl (OpsW.nil ⟨rfl, H⟩)) ?_
  refine DrawP.cons rfl (fun τ w H => OpsW.ldA H p3 rfl rfl rfl (Dm.ldK hk (by omega)) rfl (OpsW.nil ⟨rfl, H⟩)) ?_
  refine DrawP.cons rfl (fun τ w H => OpsW.call rfl rfl rfl (hK0 H) fun _ w h => by obtain ⟨rfl, H⟩ := h; exact OpsW.nil ⟨rfl, H⟩) ?_
  refine DrawP.cons rfl (fun τ w H => OpsW.st rfl (OpsW.nil ⟨rfl, H⟩)) ?_
  refine DrawP.cons rfl (fun τ w H => OpsW.st rfl (OpsW.nil ⟨rfl, H⟩)) ?_
  refine DrawP.cons rfl (fun τ w H => OpsW.st rfl (OpsW.nil ⟨rfl, H⟩)) ?_
  refine DrawP.cons rfl (fun τ w H => OpsW.st rfl (OpsW.nil ⟨rfl, H⟩)) ?_
  refine DrawP.cons rfl (fun τ w H => OpsW.st rfl (OpsW.nil ⟨rfl, H⟩)) ?_
  refine DrawP.cons rfl (fun τ w H => OpsW.ld H p0 rfl rfl rfl rfl (Ev.ord_ _) rfl (OpsW.nil ⟨rfl, H⟩)) ?_
  refine DrawP.cons rfl (fun τ w H => OpsW.st rfl (OpsW.nil ⟨rfl, H⟩)) ?_
  refine DrawP.cons rfl (fun τ w H => OpsW.st rfl (OpsW.nil ⟨rfl, H⟩)) ?_
  refine DrawP.cons rfl (fun τ w H => OpsW.ixA (n := 0) rfl rfl rfl rfl rfl rfl rfl (by decide +kernel) rfl (OpsW.nil ⟨rfl, H⟩)) ?_
  refine DrawP.cons rfl (fun τ w H => OpsW.ld H p3 rfl rfl rfl rfl (Dm.ldR (n := 0) (by decide) rfl) rfl (OpsW.nil ⟨rfl, H⟩)) ?_
  refine DrawP.cons rfl (fun τ w H => OpsW.stV rfl (congrArg Value.bool (bne_self_eq_false (D.r 0))) (OpsW.nil ⟨rfl, H⟩)) ?_
  refine DrawP.cons rfl (fun τ w H => OpsW.st rfl (OpsW.nil ⟨rfl, H⟩)) ?_
  refine DrawP.cons rfl (fun τ w H => OpsW.st rfl (OpsW.nil ⟨rfl, H⟩)) ?_
  refine DrawP.cons rfl (fun τ w H => OpsW.st rfl (OpsW.nil ⟨rfl, H⟩)) ?_
  refine DrawP.cons rfl (fun τ w H => OpsW.st rfl (OpsW.nil ⟨rfl, H⟩)) ?_
  refine DrawP.cons rfl (fun τ w H => OpsW.ld H p2 rfl rfl rfl rfl hpc rfl (OpsW.nil ⟨rfl, H⟩)) ?_
  refine DrawP.cons rfl (fun τ w H => OpsW.st rfl (OpsW.nil ⟨rfl, H⟩)) ?_
  refine DrawP.cons rfl (fun τ w H => OpsW.st rfl (OpsW.nil ⟨rfl, H⟩)) ?_
  refine DrawP.nil fun w H => ?_
  refine AnyW.done ?_
  repeat' (first | (refine OpsW.go ?_; first | refine OpsW.st rfl ?_ | refine OpsW.ld H (by (first | exact p0 | exact p1 | exact p2 | exact p3 | exact p4 | exact p5 | exact p6 | exact p7)) rfl rfl rfl rfl (by rfl) rfl ?_ | refine OpsW.ldA H (by (first | exact p0 | exact p1 | exact p2 | exact p3 | exact p4 | exact p5 | exact p6 | exact p7)) rfl rfl rfl (by rfl) rfl ?_ | refine OpsW.box H rfl rfl rfl fun _ _ H => ?_ | refine OpsW.alloc H rfl rfl rfl rfl fun _ _ H => ?_ | refine OpsW.str H (by (first | exact p0 | exact p1 | exact p2 | exact p3 | exact p4 | exact p5 | exact p6 | exact p7)) rfl rfl rfl rfl rfl rfl (by first | decide | (simp; done) | (simp; omega)) fun _ H => ?_ | refine OpsW.strA H (by (first | exact p0 | exact p1 | exact p2 | exact p3 | exact p4 | exact p5 | exact p6 | exact p7)) rfl rfl rfl rfl rfl rfl (by first | decide | (simp; done) | (simp; omega)) fun _ H => ?_) | (refine CW.go ?_; first | refine CW.condT rfl ?_ | refine CW.condF rfl ?_ | refine CW.seqR ?_ | refine CW.seqDc ?_ | refine CW.seqDb ?_ | refine CW.seqDl ?_ | refine CW.seqDs ?_ | refine CW.seqDk ?_ | refine CW.block ?_ | refine CW.region ?_ | refine CW.ret ?_ | refine CW.exit ?_ | refine CW.skip ?_) | refine OpsW.nil ?_)
  refine CW.loopF (X := Nat) (fun j => Nat.ble 17 j) (fun i => [(17, .int .i64 (i : Int))]) (fun i w => i ≤ 3 ∧ Sat W w (blk be 79 (evI D h0 k0 f0).l :: memP bm 4 (t17 (g17 (wI h0 k0 f0))) 2 :: blk bd 70 (D.setPC 3).c :: blk bs_ 70 D.c :: blk bk 43 k17.l :: syP bx (t17 (g17 (wI h0 k0 f0))) :: [snap W])) (fun i => 3 - i) 0 ⟨rfl, trivial⟩ ⟨Nat.zero_le _, H⟩ ?_
  clear H
  rintro i τ2 w ⟨hi, H⟩
  repeat' (first | (refine OpsW.go ?_; first | refine OpsW.st rfl ?_ | refine OpsW.ld H (by (first | exact p0 | exact p1 | exact p2 | exact p3 | exact p4 | exact p5 | exact p6 | exact p7)) rfl rfl rfl rfl (by rfl) rfl ?_ | refine OpsW.ldA H (by (first | exact p0 | exact p1 | exact p2 | exact p3 | exact p4 | exact p5 | exact p6 | exact p7)) rfl rfl rfl (by rfl) rfl ?_ | refine OpsW.box H rfl rfl rfl fun _ _ H => ?_ | refine OpsW.alloc H rfl rfl rfl rfl fun _ _ H => ?_ | refine OpsW.str H (by (first | exact p0 | exact p1 | exact p2 | exact p3 | exact p4 | exact p5 | exact p6 | exact p7)) rfl rfl rfl rfl rfl rfl (by first | decide | (simp; done) | (simp; omega)) fun _ H => ?_ | refine OpsW.strA H (by (first | exact p0 | exact p1 | exact p2 | exact p3 | exact p4 | exact p5 | exact p6 | exact p7)) rfl rfl rfl rfl rfl rfl (by first | decide | (simp; done) | (simp; omega)) fun _ H => ?_) | (refine CW.go ?_; first | refine CW.condT rfl ?_ | refine CW.condF rfl ?_ | refine CW.seqR ?_ | refine CW.seqD ?_ | refine CW.block ?_ | refine CW.region ?_ | refine CW.ret ?_ | refine CW.exit ?_ | refine CW.skip ?_) | refine OpsW.nil ?_)
  refine CW.cond rfl (fun h => ?_) (fun h => ?_)
  · have hi3 : i < 3 := by have := of_decide_eq_true h; omega
    have hsk : sentK D.k f0 i = D.k (((f0 : Int) + (i : Nat)) % 16).toNat := by unfold sentK; rw [if_pos ⟨by omega, by omega⟩]
    have hKi : ∀ {w : World}, Sat W w (blk be 79 (evI D h0 k0 f0).l :: memP bm 4 (t17 (g17 (wI h0 k0 f0))) 2 :: blk bd 70 (D.setPC 3).c :: blk bs_ 70 D.c :: blk bk 43 k17.l :: syP bx (t17 (g17 (wI h0 k0 f0))) :: [snap W]) → Spec cf 36 #[(sentK D.k f0 i).v, (D.k (((f0 : Int) + (i : Nat)) % 16).toNat).v] w fun e w' => e = .bool true ∧ Sat W w' (blk be 79 (evI D h0 k0 f0).l :: memP bm 4 (t17 (g17 (wI h0 k0 f0))) 2 :: blk bd 70 (D.setPC 3).c :: blk bs_ 70 D.c :: blk bk 43 k17.l :: syP bx (t17 (g17 (wI h0 k0 f0))) :: [snap W]) := fun {w} H => by
      have := sameKey _ _ _ H (sentK D.k f0 i) (D.k (((f0 : Int) + (i : Nat)) % 16).toNat)
      rw [(K.same_iff _ _).2 hsk] at this; exact this
    repeat' (first | (refine OpsW.go ?_; first | refine OpsW.st rfl ?_ | refine OpsW.ld H (by (first | exact p0 | exact p1 | exact p2 | exact p3 | exact p4 | exact p5 | exact p6 | exact p7)) rfl rfl rfl rfl (by rfl) rfl ?_ | refine OpsW.ldA H (by (first | exact p0 | exact p1 | exact p2 | exact p3 | exact p4 | exact p5 | exact p6 | exact p7)) rfl rfl rfl (by rfl) rfl ?_ | refine OpsW.box H rfl rfl rfl fun _ _ H => ?_ | refine OpsW.alloc H rfl rfl rfl rfl fun _ _ H => ?_ | refine OpsW.str H (by (first | exact p0 | exact p1 | exact p2 | exact p3 | exact p4 | exact p5 | exact p6 | exact p7)) rfl rfl rfl rfl rfl rfl (by first | decide | (simp; done) | (simp; omega)) fun _ H => ?_ | refine OpsW.strA H (by (first | exact p0 | exact p1 | exact p2 | exact p3 | exact p4 | exact p5 | exact p6 | exact p7)) rfl rfl rfl rfl rfl rfl (by first | decide | (simp; done) | (simp; omega)) fun _ H => ?_) | (refine CW.go ?_; first | refine CW.condT rfl ?_ | refine CW.condF rfl ?_ | refine CW.seqR ?_ | refine CW.seqDc ?_ | refine CW.seqDb ?_ | refine CW.seqDl ?_ | refine CW.seqDs ?_ | refine CW.seqDk ?_ | refine CW.block ?_ | refine CW.region ?_ | refine CW.ret ?_ | refine CW.exit ?_ | refine CW.skip ?_) | refine OpsW.nil ?_)
    (first | refine CW.seqDraw mo H [0, 0, 2, 7, 15, 0, 32, 0, 128, 480, 992, 2047, 4095, 8191, 8191, 24575, 65535, 131071, 8191, 8191, 794623, 1843199, 8191, 8134655, 16523263, 33554431, 67108863, 134217727] fun w H => ?_ | refine CW.draw mo H [0, 0, 2, 7, 15, 0, 32, 0, 128, 480, 992, 2047, 4095, 8191, 8191, 24575, 65535, 131071, 8191, 8191, 794623, 1843199, 8191, 8134655, 16523263, 33554431, 67108863, 134217727] fun w H => ?_); refine AnyW.seg (m := 28) (by kernel_rfl) (by kernel_rfl) H rfl ?_
    refine DrawP.cons rfl (fun τ w H => OpsW.st rfl (OpsW.nil ⟨rfl, H⟩)) ?_
    refine DrawP.cons rfl (fun τ w H => OpsW.st rfl (OpsW.nil ⟨rfl, H⟩)) ?_
    refine DrawP.cons rfl (fun τ w H => OpsW.st rfl (OpsW.nil ⟨rfl, H⟩)) ?_
    refine DrawP.cons rfl (fun τ w H => OpsW.ixA (n := i) rfl rfl rfl rfl rfl rfl rfl hi3 rfl (OpsW.nil ⟨rfl, H⟩)) ?_
    refine DrawP.cons rfl (fun τ w H => OpsW.ld H p0 rfl rfl rfl rfl (evI_word D h0 k0 f0 i hi3) rfl (OpsW.nil ⟨rfl, H⟩)) ?_
    refine DrawP.cons rfl (fun τ w H => OpsW.st rfl (OpsW.nil ⟨rfl, H⟩)) ?_
    refine DrawP.cons rfl (fun τ w H => OpsW.st rfl (OpsW.nil ⟨rfl, H⟩)) ?_
    refine DrawP.cons rfl (fun τ w H => OpsW.st rfl (OpsW.nil ⟨rfl, H⟩)) ?_
    refine DrawP.cons rfl (fun τ w H => OpsW.st rfl (OpsW.nil ⟨rfl, H⟩)) ?_
    refine DrawP.cons rfl (fun τ w H => OpsW.ixA (n := i + 1) rfl rfl rfl rfl rfl rfl (wrapS hi3) (by show i + 1 < 8; omega) rfl (OpsW.nil ⟨rfl, H⟩)) ?_
    refine DrawP.cons rfl (fun τ w H => OpsW.ld H p3 rfl rfl rfl rfl (Dm.ldR (n := i + 1) (by omega) (by omega)) rfl (OpsW.nil ⟨rfl, H⟩)) ?_
    refine DrawP.cons rfl (fun τ w H => OpsW.stV rfl (congrArg Value.bool (bne_self_eq_false (D.r (i + 1)))) (OpsW.nil ⟨rfl, H⟩)) ?_
    refine DrawP.cons rfl (fun τ w H => OpsW.st rfl (OpsW.nil ⟨rfl, H⟩)) ?_
    refine DrawP.cons rfl (fun τ w H => OpsW.st rfl (OpsW.nil ⟨rfl, H⟩)) ?_
    refine DrawP.cons rfl (fun τ w H => OpsW.st rfl (OpsW.nil ⟨rfl, H⟩)) ?_
    refine DrawP.cons rfl (fun τ w H => OpsW.st rfl (OpsW.nil ⟨rfl, H⟩)) ?_
    refine DrawP.cons rfl (fun τ w H => OpsW.ixA (n := i) rfl rfl rfl rfl rfl rfl rfl hi3 rfl (OpsW.nil ⟨rfl, H⟩)) ?_
    refine DrawP.cons rfl (fun τ w H => OpsW.ldA H p0 rfl rfl rfl (evI_keys D h0 k0 f0 i hi3) rfl (OpsW.nil ⟨rfl, H⟩)) ?_
    refine DrawP.cons rfl (fun τ w H => OpsW.st rfl (OpsW.nil ⟨rfl, H⟩)) ?_
    refine DrawP.cons rfl (fun τ w H => OpsW.st rfl (OpsW.nil ⟨rfl, H⟩)) ?_
    refine DrawP.cons rfl (fun τ w H => OpsW.st rfl (OpsW.nil ⟨rfl, H⟩)) ?_
    refine DrawP.cons rfl (fun τ w H => OpsW.st rfl (OpsW.nil ⟨rfl, H⟩)) ?_
    refine DrawP.cons rfl (fun τ w H => OpsW.st rfl (OpsW.nil ⟨rfl, H⟩)) ?_
    refine DrawP.cons rfl (fun τ w H => OpsW.ixA (n := (((f0 : Int) + (i : Nat)) % 16).toNat) rfl rfl rfl rfl rfl rfl (sIx (by omega) (by omega) rfl hi3) (by show _ < 16; omega) rfl (OpsW.nil ⟨rfl, H⟩)) ?_
    refine DrawP.cons rfl (fun τ w H => OpsW.ldA H p3 rfl rfl rfl (Dm.ldK (n := (((f0 : Int) + (i : Nat)) % 16).toNat) (by omega) (by omega)) rfl (OpsW.nil ⟨rfl, H⟩)) ?_
    refine DrawP.cons rfl (fun τ w H => OpsW.call rfl rfl rfl (hKi H) fun _ w h => by obtain ⟨rfl, H⟩ := h; exact OpsW.nil ⟨rfl, H⟩) ?_
    refine DrawP.cons rfl (fun τ w H => OpsW.st rfl (OpsW.nil ⟨rfl, H⟩)) ?_
    refine DrawP.cons rfl (fun τ w H => OpsW.st rfl (OpsW.nil ⟨rfl, H⟩)) ?_
    refine DrawP.nil fun w H => ?_
    refine AnyW.done ?_
    repeat' (first | (refine OpsW.go ?_; first | refine OpsW.st rfl ?_ | refine OpsW.ld H (by (first | exact p0 | exact p1 | exact p2 | exact p3 | exact p4 | exact p5 | exact p6 | exact p7)) rfl rfl rfl rfl (by rfl) rfl ?_ | refine OpsW.ldA H (by (first | exact p0 | exact p1 | exact p2 | exact p3 | exact p4 | exact p5 | exact p6 | exact p7)) rfl rfl rfl (by rfl) rfl ?_ | refine OpsW.box H rfl rfl rfl fun _ _ H => ?_ | refine OpsW.alloc H rfl rfl rfl rfl fun _ _ H => ?_ | refine OpsW.str H (by (first | exact p0 | exact p1 | exact p2 | exact p3 | exact p4 | exact p5 | exact p6 | exact p7)) rfl rfl rfl rfl rfl rfl (by first | decide | (simp; done) | (simp; omega)) fun _ H => ?_ | refine OpsW.strA H (by (first | exact p0 | exact p1 | exact p2 | exact p3 | exact p4 | exact p5 | exact p6 | exact p7)) rfl rfl rfl rfl rfl rfl (by first | decide | (simp; done) | (simp; omega)) fun _ H => ?_) | (refine CW.go ?_; first | refine CW.condT rfl ?_ | refine CW.condF rfl ?_ | refine CW.seqR ?_ | refine CW.seqDc ?_ | refine CW.seqDb ?_ | refine CW.seqDl ?_ | refine CW.seqDs ?_ | refine CW.seqDk ?_ | refine CW.block ?_ | refine CW.region ?_ | refine CW.ret ?_ | refine CW.exit ?_ | refine CW.skip ?_) | refine OpsW.nil ?_)
    exact ⟨i + 1, (by (repeat (first | (with_reducible exact Agree.refl _ _) | (with_reducible refine Agree.trim (by assumption) ?_) | refine Agree.upd ?_ rfl | exact Agree.mix' | refine Agree.mixL ?_ (fun j h => by simp only [Bool.or_eq_true, Bool.and_eq_true, Nat.beq_eq, Nat.ble_eq] at h ⊢; omega) rfl))), ⟨nat_succ (n := 3) hi3 (by omega), trivial⟩, ⟨hi3, H⟩, by omega⟩
  repeat' (first | (refine OpsW.go ?_; first | refine OpsW.st rfl ?_ | refine OpsW.ld H (by (first | exact p0 | exact p1 | exact p2 | exact p3 | exact p4 | exact p5 | exact p6 | exact p7)) rfl rfl rfl rfl (by rfl) rfl ?_ | refine OpsW.ldA H (by (first | exact p0 | exact p1 | exact p2 | exact p3 | exact p4 | exact p5 | exact p6 | exact p7)) rfl rfl rfl (by rfl) rfl ?_ | refine OpsW.box H rfl rfl rfl fun _ _ H => ?_ | refine OpsW.alloc H rfl rfl rfl rfl fun _ _ H => ?_ | refine OpsW.str H (by (first | exact p0 | exact p1 | exact p2 | exact p3 | exact p4 | exact p5 | exact p6 | exact p7)) rfl rfl rfl rfl rfl rfl (by first | decide | (simp; done) | (simp; omega)) fun _ H => ?_ | refine OpsW.strA H (by (first | exact p0 | exact p1 | exact p2 | exact p3 | exact p4 | exact p5 | exact p6 | exact p7)) rfl rfl rfl rfl rfl rfl (by first | decide | (simp; done) | (simp; omega)) fun _ H => ?_) | (refine CW.go ?_; first | refine CW.condT rfl ?_ | refine CW.condF rfl ?_ | refine CW.seqR ?_ | refine CW.seqDc ?_ | refine CW.seqDb ?_ | refine CW.seqDl ?_ | refine CW.seqDs ?_ | refine CW.seqDk ?_ | refine CW.block ?_ | refine CW.region ?_ | refine CW.ret ?_ | refine CW.exit ?_ | refine CW.skip ?_) | refine OpsW.nil ?_)
  (first | refine CW.seqDraw mo H [0, 1, 3, 7, 15, 3, 35, 99, 255, 511, 1023, 2047, 4095, 2047, 10239, 32767, 65535, 131071] fun w H => ?_ | refine CW.draw mo H [0, 1, 3, 7, 15, 3, 35, 99, 255, 511, 1023, 2047, 4095, 2047, 10239, 32767, 65535, 131071] fun w H => ?_); refine AnyW.seg (m := 18) (by kernel_rfl) (by kernel_rfl) H rfl ?_
  refine DrawP.cons rfl (fun τ w H => OpsW.st rfl (OpsW.nil ⟨rfl, H⟩)) ?_
  refine DrawP.cons rfl (fun τ w H => OpsW.st rfl (OpsW.nil ⟨rfl, H⟩)) ?_
  refine DrawP.cons rfl (fun τ w H => OpsW.st rfl (OpsW.nil ⟨rfl, H⟩)) ?_
  refine DrawP.cons rfl (fun τ w H => OpsW.st rfl (OpsW.nil ⟨rfl, H⟩)) ?_
  refine DrawP.cons rfl (fun τ w H => OpsW.slcA rfl rfl rfl rfl rfl rfl (OpsW.nil ⟨rfl, H⟩)) ?_
  refine DrawP.cons rfl (fun τ w H => OpsW.st rfl (OpsW.nil ⟨rfl, H⟩)) ?_
  refine DrawP.cons rfl (fun τ w H => OpsW.st rfl (OpsW.nil ⟨rfl, H⟩)) ?_
  refine DrawP.cons rfl (fun τ w H => OpsW.slcA rfl rfl rfl rfl rfl rfl (OpsW.nil ⟨rfl, H⟩)) ?_
  refine DrawP.cons rfl (fun τ w H => OpsW.call rfl rfl rfl (hSW H) fun _ w h => by obtain ⟨rfl, H⟩ := h; exact OpsW.nil ⟨rfl, H⟩) ?_
  refine DrawP.cons rfl (fun τ w H => OpsW.st rfl (OpsW.nil ⟨rfl, H⟩)) ?_
  refine DrawP.cons rfl (fun τ w H => OpsW.st rfl (OpsW.nil ⟨rfl, H⟩)) ?_
  refine DrawP.cons rfl (fun τ w H => OpsW.st rfl (OpsW.nil ⟨rfl, H⟩)) ?_
  refine DrawP.cons rfl (fun τ w H => OpsW.slcA rfl rfl rfl rfl rfl rfl (OpsW.nil ⟨rfl, H⟩)) ?_
  refine DrawP.cons rfl (fun τ w H => OpsW.st rfl (OpsW.nil ⟨rfl, H⟩)) ?_
  refine DrawP.cons rfl (fun τ w H => OpsW.slcA rfl rfl rfl rfl rfl rfl (OpsW.nil ⟨rfl, H⟩)) ?_
  refine DrawP.cons rfl (fun τ w H => OpsW.call rfl rfl rfl (hSK H) fun _ w h => by obtain ⟨rfl, H⟩ := h; exact OpsW.nil ⟨rfl, H⟩) ?_
  refine DrawP.cons rfl (fun τ w H => OpsW.st rfl (OpsW.nil ⟨rfl, H⟩)) ?_
  refine DrawP.cons rfl (fun τ w H => OpsW.st rfl (OpsW.nil ⟨rfl, H⟩)) ?_
  refine DrawP.nil fun w H => ?_
  refine AnyW.done ?_
  repeat' (first | (refine OpsW.go ?_; first | refine OpsW.st rfl ?_ | refine OpsW.ld H (by (first | exact p0 | exact p1 | exact p2 | exact p3 | exact p4 | exact p5 | exact p6 | exact p7)) rfl rfl rfl rfl (by rfl) rfl ?_ | refine OpsW.ldA H (by (first | exact p0 | exact p1 | exact p2 | exact p3 | exact p4 | exact p5 | exact p6 | exact p7)) rfl rfl rfl (by rfl) rfl ?_ | refine OpsW.box H rfl rfl rfl fun _ _ H => ?_ | refine OpsW.alloc H rfl rfl rfl rfl fun _ _ H => ?_ | refine OpsW.str H (by (first | exact p0 | exact p1 | exact p2 | exact p3 | exact p4 | exact p5 | exact p6 | exact p7)) rfl rfl rfl rfl rfl rfl (by first | decide | (simp; done) | (simp; omega)) fun _ H => ?_ | refine OpsW.strA H (by (first | exact p0 | exact p1 | exact p2 | exact p3 | exact p4 | exact p5 | exact p6 | exact p7)) rfl rfl rfl rfl rfl rfl (by first | decide | (simp; done) | (simp; omega)) fun _ H => ?_) | (refine CW.go ?_; first | refine CW.condT rfl ?_ | refine CW.condF rfl ?_ | refine CW.seqR ?_ | refine CW.seqDc ?_ | refine CW.seqDb ?_ | refine CW.seqDl ?_ | refine CW.seqDs ?_ | refine CW.seqDk ?_ | refine CW.block ?_ | refine CW.region ?_ | refine CW.ret ?_ | refine CW.exit ?_ | refine CW.skip ?_) | refine OpsW.nil ?_)
  exact ret1 rfl ⟨rfl, by (first | exact H | exact H.drop | exact H.d2 | exact H.d3 | exact H.d4 | exact H.d5 | exact H.d6 | exact H.d7)⟩
end Go.Proofs.YtnfefbhjdncccaaDoor.X
