/- Contracts of chapter 17: what a domain takes, in the program and in the document's account; conditions: none. -/
import Derived.Test.YtnfefbhjdncccaaDoorP17d
import Derived.Test.YtnfefbhjdncccaaDoorA17e
namespace Go.Proofs.YtnfefbhjdncccaaDoor.X
open Go Go.Proofs
set_option linter.unusedSimpArgs false
set_option linter.unusedVariables false
/-- The document's domain, as cells. -/
def eD (d : Dm) : List Value := d.c ++ [.slice none 0 0]
/-- The frame of a domain. -/
def frL (d : Dm) : List Value := (X.mk 8 d.r).map (.int .u32) ++ [.int .u32 d.pc, .int .i64 d.st, .int .i64 d.ft]
def ksL (d : Dm) : List Value := (X.mk 16 d.k).flatMap K.l
theorem frL_ld (d : Dm) : takeK 11 (d.c.drop 0) some = some (frL d) := rfl
theorem ksL_ld (d : Dm) : takeK 80 (d.c.drop 11) some = some (ksL d) := by kernel_rfl
theorem eD_fr (d : Dm) : takeK 11 ((eD d).drop 0) some = some (frL d) := rfl
theorem eD_ks (d : Dm) : takeK 80 ((eD d).drop 11) some = some (ksL d) := by kernel_rfl
theorem dm_ld91 (d : Dm) : takeK 5 (d.c.drop 91) some = some d.mem.l := rfl
theorem dm_ld96 (d : Dm) : takeK 5 (d.c.drop 96) some = some d.meter.l := rfl
theorem dm_ld101 (d : Dm) : takeK 5 (d.c.drop 101) some = some d.keeper.l := rfl
theorem dm_ld106 (d : Dm) : d.c[106]? = some (.int .i64 d.wait) := rfl
theorem eD_ld91 (d : Dm) : takeK 5 ((eD d).drop 91) some = some d.mem.l := rfl
theorem eD_ld96 (d : Dm) : takeK 5 ((eD d).drop 96) some = some d.meter.l := rfl
theorem eD_ld101 (d : Dm) : takeK 5 ((eD d).drop 101) some = some d.keeper.l := rfl
theorem eD_ld106 (d : Dm) : (eD d)[106]? = some (.int .i64 d.wait) := rfl
theorem eD_len (d : Dm) : (eD d).length = 108 := rfl
theorem eD_scl (d : Dm) : (eD d).all scal = true := rfl
set_option maxRecDepth 100000 in
theorem eD_all (d : Dm) : takeK 108 ((eD d).drop 0) some = some (eD d) := by kernel_rfl
theorem eD_bld (d : Dm) : pureF cf.T 93 [(0, .agg (frL d).toArray), (1, .agg (ksL d).toArray), (2, .agg d.mem.l.toArray), (3, .agg d.meter.l.toArray), (4, .agg d.keeper.l.toArray), (5, .int .i64 d.wait)] = some (.agg (eD d).toArray) := by kernel_rfl
theorem eD_stR {d : Dm} {n off : Nat} {x : Int} (h : n < 8) (ho : off = n) : (eD d).set off (.int .u32 x) = eD (d.setR n x) := by
  unfold eD
  rw [List.set_append_left _ _ (by rw [Dm.len]; omega), Dm.stR h ho]
theorem splice_left : ∀ (m l r : List Value) (off : Nat), off + m.length ≤ l.length → splice (l ++ r) off m = splice l off m ++ r
  | [], l, r, off, h => rfl
  | v :: m, l, r, off, h => by
    have h' : off + (m.length + 1) ≤ l.length := h
    show splice ((l ++ r).set off v) (off + 1) m = splice (l.set off v) (off + 1) m ++ r
    rw [List.set_append_left _ _ (by omega)]
    exact splice_left m (l.set off v) r (off + 1) (by rw [List.length_set]; omega)
theorem eD_stK {d : Dm} {n off : Nat} {x : K} (h : n < 16) (ho : off = 11 + n * 5) : splice (eD d) off x.l = eD (d.setK n x) := by
  unfold eD
  rw [splice_left _ _ _ _ (by rw [Dm.len]; show off + 5 ≤ 107; omega), Dm.stK h ho]
theorem eD_ldK {d : Dm} {n off : Nat} (h : n < 16) (ho : off = 11 + n * 5) : takeK 5 ((eD d).drop off) some = some (d.k n).l := by
  subst ho
  rcases case16 h with rfl | rfl | rfl | rfl | rfl | rfl | rfl | rfl | rfl | rfl | rfl | rfl | rfl | rfl | rfl | rfl <;> rfl
/-- What a domain is, after it has taken a note. -/
def takeD (d : Dm) (o w0 w1 w2 : Int) (k0 k1 k2 : K) (bg : Int) (b : K) : Dm :=
  ((((((((d.setR 0 o).setR 1 w0).setR 2 w1).setR 3 w2).setR 4 bg).setK 12 k0).setK 13 k1).setK 14 k2).setK 15 b
section
variable {d : Dm}
theorem setK_set {d : Dm} {n : Nat} {x y : K} : (d.setK n x).setK n y = d.setK n y := by
  unfold Dm.setK
  congr 1
  funext j
  dsimp only
  split <;> rfl
theorem setR3_eq {d : Dm} {a b c : Int} : splice d.c 1 [.int .u32 a, .int .u32 b, .int .u32 c] = (((d.setR 1 a).setR 2 b).setR 3 c).c := by
  show ((d.c.set 1 (.int .u32 a)).set 2 (.int .u32 b)).set 3 (.int .u32 c) = _
  rw [Dm.stR (by decide) rfl, Dm.stR (by decide) rfl, Dm.stR (by decide) rfl]
theorem splice_cat : ∀ (m m' l : List Value) (off : Nat), splice l off (m ++ m') = splice (splice l off m) (off + m.length) m'
  | [], m', l, off => rfl
  | v :: m, m', l, off => by
    show splice (l.set off v) (off + 1) (m ++ m') = splice (splice (l.set off v) (off + 1) m) (off + (m.length + 1)) m'
    rw [splice_cat m m' _ _, show off + (m.length + 1) = off + 1 + m.length by omega]
theorem setK3_eq {d : Dm} {a b c : K} : splice d.c 71 (a.l ++ (b.l ++ c.l)) = (((d.setK 12 a).setK 13 b).setK 14 c).c := by
  rw [splice_cat, splice_cat]
  show splice (splice (splice d.c 71 a.l) 76 b.l) 81 c.l = _
  rw [Dm.stK (n := 12) (by decide) rfl, Dm.stK (n := 13) (by decide) rfl, Dm.stK (n := 14) (by decide) rfl]
/-- A note, its parts. -/
theorem note_o (o w0 w1 w2 : Int) (k0 k1 k2 : K) : (noteL o w0 w1 w2 k0 k1 k2)[0]? = some (.int .u32 o) := rfl
theorem note_w (o w0 w1 w2 : Int) (k0 k1 k2 : K) (j : Nat) (h : j < 3 * 1) : (noteL o w0 w1 w2 k0 k1 k2)[1 + j]? = ([.int .u32 w0, .int .u32 w1, .int .u32 w2] : List Value)[j]? := by
  have : j = 0 ∨ j = 1 ∨ j = 2 := by omega
  rcases this with rfl | rfl | rfl <;> rfl
theorem note_k (o w0 w1 w2 : Int) (k0 k1 k2 : K) (j : Nat) (h : j < 3 * 5) : (noteL o w0 w1 w2 k0 k1 k2)[4 + j]? = (k0.l ++ (k1.l ++ k2.l))[j]? := by
  unfold noteL
  rw [List.getElem?_append_right (by show 4 ≤ 4 + j; omega)]
  show (k0.l ++ (k1.l ++ k2.l))[4 + j - 4]? = _
  rw [show 4 + j - 4 = j by omega]
theorem note_kl (o w0 w1 w2 : Int) (k0 k1 k2 : K) : takeK 5 ((noteL o w0 w1 w2 k0 k1 k2).drop 4) some = some k0.l ∧ takeK 5 ((noteL o w0 w1 w2 k0 k1 k2).drop 9) some = some k1.l ∧ takeK 5 ((noteL o w0 w1 w2 k0 k1 k2).drop 14) some = some k2.l := ⟨rfl, rfl, rfl⟩
theorem note_wl (o w0 w1 w2 : Int) (k0 k1 k2 : K) : (noteL o w0 w1 w2 k0 k1 k2)[1]? = some (.int .u32 w0) ∧ (noteL o w0 w1 w2 k0 k1 k2)[2]? = some (.int .u32 w1) ∧ (noteL o w0 w1 w2 k0 k1 k2)[3]? = some (.int .u32 w2) := ⟨rfl, rfl, rfl⟩
end
attribute [local irreducible] CW OpsW RetW Spec blk snap DrawP AnyW AnyM AnyN bits IntKind.wrap vec itr asc eA Dm.c eD frL ksL noteL
section
variable {z w : World} {As Rs : List HP} {d : Dm} {bd : Nat}
theorem other17_ (H : Sat z w As) (d : Dm) : Spec cf 37 #[.agg d.c.toArray] w fun e w' => e = .agg (eD d).toArray ∧ Sat z w' As := by
  refine enter (l := [.agg d.c.toArray]) Tryd.func37 rfl rfl rfl rfl rfl ?_
  repeat' (first | (refine OpsW.go ?_; first | refine OpsW.st rfl ?_) | (refine CW.go ?_; first | refine CW.condT rfl ?_ | refine CW.condF rfl ?_ | refine CW.seqR ?_ | refine CW.seqD ?_ | refine CW.block ?_ | refine CW.region ?_ | refine CW.ret ?_ | refine CW.exit ?_ | refine CW.skip ?_) | refine OpsW.nil ?_)
  refine OpsW.boxF H rfl rfl rfl fun b w H => ?_
  repeat' (first | (refine OpsW.go ?_; first | refine OpsW.st rfl ?_ | refine OpsW.ld H (by (first | exact p0 | exact p1 | exact p2 | exact p3 | exact p4 | exact p5 | exact p6 | exact p7)) rfl rfl rfl rfl (by rfl) rfl ?_ | refine OpsW.ldA H (by (first | exact p0 | exact p1 | exact p2 | exact p3 | exact p4 | exact p5 | exact p6 | exact p7)) rfl rfl rfl (by rfl) rfl ?_ | refine OpsW.box H rfl rfl rfl fun _ _ H => ?_ | refine OpsW.alloc H rfl rfl rfl rfl fun _ _ H => ?_ | refine OpsW.str H (by (first | exact p0 | exact p1 | exact p2 | exact p3 | exact p4 | exact p5 | exact p6 | exact p7)) rfl rfl rfl rfl rfl rfl (by first | decide | (simp; done) | (simp; omega)) fun _ H => ?_ | refine OpsW.strA H (by (first | exact p0 | exact p1 | exact p2 | exact p3 | exact p4 | exact p5 | exact p6 | exact p7)) rfl rfl rfl rfl rfl rfl (by first | decide | (simp; done) | (simp; omega)) fun _ H => ?_) | (refine CW.go ?_; first | refine CW.condT rfl ?_ | refine CW.condF rfl ?_ | refine CW.seqR ?_ | refine CW.seqD ?_ | refine CW.block ?_ | refine CW.region ?_ | refine CW.ret ?_ | refine CW.exit ?_ | refine CW.skip ?_) | refine OpsW.nil ?_)
  refine OpsW.ldA H p1 rfl rfl rfl (frL_ld d) rfl ?_
  repeat' (refine OpsW.go ?_; refine OpsW.st rfl ?_)
  refine OpsW.ldA H p1 rfl rfl rfl (ksL_ld d) rfl ?_
  repeat' (refine OpsW.go ?_; refine OpsW.st rfl ?_)
  refine OpsW.ldA H p1 rfl rfl rfl (dm_ld91 d) rfl ?_
  repeat' (refine OpsW.go ?_; refine OpsW.st rfl ?_)
  refine OpsW.ldA H p1 rfl rfl rfl (dm_ld96 d) rfl ?_
  repeat' (refine OpsW.go ?_; refine OpsW.st rfl ?_)
  refine OpsW.ldA H p1 rfl rfl rfl (dm_ld101 d) rfl ?_
  repeat' (refine OpsW.go ?_; refine OpsW.st rfl ?_)
  refine OpsW.ld H p1 rfl rfl rfl rfl (dm_ld106 d) rfl ?_
  repeat' (refine OpsW.go ?_; refine OpsW.st rfl ?_)
  refine OpsW.bld rfl rfl (eD_bld d) rfl ?_
  refine OpsW.strF H p0 rfl rfl rfl (eD_scl d) rfl (eD_len d) (by rw [eD_len]; decide) fun w H => ?_
  rw [splice_full (by rw [eD_len]; rfl)] at H
  repeat' (first | (refine OpsW.go ?_; first | refine OpsW.st rfl ?_) | (refine CW.go ?_; first | refine CW.condT rfl ?_ | refine CW.condF rfl ?_ | refine CW.seqR ?_ | refine CW.seqD ?_ | refine CW.block ?_ | refine CW.region ?_ | refine CW.ret ?_ | refine CW.exit ?_ | refine CW.skip ?_) | refine OpsW.nil ?_)
  exact ret1c (resA H p0 rfl rfl (eD_all d)) ⟨rfl, by (first | exact H | exact H.drop | exact H.d2 | exact H.d3 | exact H.d4 | exact H.d5 | exact H.d6 | exact H.d7)⟩
set_option maxHeartbeats 2000000 in
theorem take17_ (H : Sat z w (blk bd 70 d.c :: Rs)) (o w0 w1 w2 : Int) (k0 k1 k2 : K) (bg : Int) (v : Value) (l : List K) (hl : l.length ≤ 5) (hv : SlR Rs v 5 l.length (l.flatMap K.l)) :
    Spec cf 40 #[.pointer (some ⟨bd, 0, none⟩), .agg (noteL o w0 w1 w2 k0 k1 k2).toArray, .int .u32 bg, v] w fun e w' => Sat z w' (blk bd 70 (takeD d o w0 w1 w2 k0 k1 k2 bg (l.headD K.void)).c :: Rs) := by
  obtain ⟨a, cap, rfl⟩ := lenW hv
  refine enter (l := [.pointer (some ⟨bd, 0, none⟩), .agg (noteL o w0 w1 w2 k0 k1 k2).toArray, .int .u32 bg, .slice a l.length cap]) Tryd.func40 rfl rfl rfl rfl rfl ?_
  repeat' (first | (refine OpsW.go ?_; first | refine OpsW.st rfl ?_) | (refine CW.go ?_; first | refine CW.condT rfl ?_ | refine CW.condF rfl ?_ | refine CW.seqR ?_ | refine CW.seqD ?_ | refine CW.block ?_ | refine CW.region ?_ | refine CW.ret ?_ | refine CW.exit ?_ | refine CW.skip ?_) | refine OpsW.nil ?_)
  refine OpsW.boxF H rfl rfl rfl fun b w H => ?_
  repeat' (first | (refine OpsW.go ?_; first | refine OpsW.st rfl ?_) | (refine CW.go ?_; first | refine CW.condT rfl ?_ | refine CW.condF rfl ?_ | refine CW.seqR ?_ | refine CW.seqD ?_ | refine CW.block ?_ | refine CW.region ?_ | refine CW.ret ?_ | refine CW.exit ?_ | refine CW.skip ?_) | refine OpsW.nil ?_)
  (first | refine CW.seqDraw mo H [0, 0, 2, 1, 9, 25, 63, 127] fun w H => ?_ | refine CW.draw mo H [0, 0, 2, 1, 9, 25, 63, 127] fun w H => ?_); refine AnyW.seg (m := 7) (by kernel_rfl) (by kernel_rfl) H rfl ?_
  repeat' (first | (refine DrawP.nil ?_; intro w H) | (refine DrawP.go ?_; first | refine DrawP.cons rfl (fun τ w H => OpsW.st rfl (OpsW.nil ⟨rfl, H⟩)) ?_ | refine DrawP.cons rfl (fun τ w H => OpsW.ld H (by (first | exact p0 | exact p1 | exact p2 | exact p3 | exact p4 | exact p5 | exact p6 | exact p7)) rfl rfl rfl rfl (by rfl) rfl (OpsW.nil ⟨rfl, H⟩)) ?_ | refine DrawP.cons rfl (fun τ w H => OpsW.ldA H (by (first | exact p0 | exact p1 | exact p2 | exact p3 | exact p4 | exact p5 | exact p6 | exact p7)) rfl rfl rfl (by rfl) rfl (OpsW.nil ⟨rfl, H⟩)) ?_ | refine DrawP.cons rfl (fun τ w H => OpsW.ixA (n := 0) rfl rfl rfl rfl rfl rfl rfl (by decide +kernel) rfl (OpsW.nil ⟨rfl, H⟩)) ?_ | refine DrawP.cons rfl (fun τ w H => OpsW.ld H p0 rfl rfl rfl rfl (note_o o w0 w1 w2 k0 k1 k2) rfl (OpsW.nil ⟨rfl, H⟩)) ?_) | refine DrawP.split (fun h => ?_) (fun h => ?_))
  refine AnyW.one (by kernel_rfl) (by kernel_rfl) rfl ?_
  refine OpsW.str H p1 rfl rfl rfl rfl rfl rfl (by rw [Dm.len]; decide) fun w H => ?_
  rw [Dm.stR (n := 0) (by decide) rfl] at H
  refine OpsW.nil ?_
  refine AnyW.done ?_
  repeat' (first | (refine OpsW.go ?_; first | refine OpsW.st rfl ?_) | (refine CW.go ?_; first | refine CW.condT rfl ?_ | refine CW.condF rfl ?_ | refine CW.seqR ?_ | refine CW.seqD ?_ | refine CW.block ?_ | refine CW.region ?_ | refine CW.ret ?_ | refine CW.exit ?_ | refine CW.skip ?_) | refine OpsW.nil ?_)
  (first | refine CW.seqDraw mo H [0, 1, 3, 7, 15, 0, 32, 127] fun w H => ?_ | refine CW.draw mo H [0, 1, 3, 7, 15, 0, 32, 127] fun w H => ?_); refine AnyW.seg (m := 7) (by kernel_rfl) (by kernel_rfl) H rfl ?_
  iterate 4 (refine .cons rfl (fun τ w H => .st rfl (.nil ⟨rfl, H⟩)) ?_)
  refine .cons rfl (fun τ w H => .slcAF (k := 1) (sz := 1) rfl rfl rfl rfl rfl rfl rfl rfl (by decide) rfl (.nil ⟨rfl, H⟩)) ?_
  refine .cons rfl (fun τ w H => .st rfl (.nil ⟨rfl, H⟩)) ?_
  refine .cons rfl (fun τ w H => .slcA rfl rfl rfl rfl rfl rfl (.nil ⟨rfl, H⟩)) ?_
  refine DrawP.nil fun w H => ?_
  refine AnyW.one (by kernel_rfl) (by kernel_rfl) rfl ?_
  refine OpsW.cpy (n2 := 3) (sz := 1) (c2 := [.int .u32 w0, .int .u32 w1, .int .u32 w2]) H p0 (SlR.of_part p1 rfl (Nat.le_refl 3) (note_w o w0 w1 w2 k0 k1 k2)) rfl (by decide) (by rw [Dm.len]; decide) rfl rfl rfl rfl rfl rfl rfl fun w H => ?_
  replace H : Sat z w (blk bd 70 (splice (d.setR 0 o).c 1 [.int .u32 w0, .int .u32 w1, .int .u32 w2]) :: blk b 77 (noteL o w0 w1 w2 k0 k1 k2) :: Rs) := H
  rw [setR3_eq] at H
  refine OpsW.nil ?_
  refine AnyW.done ?_
  repeat' (first | (refine OpsW.go ?_; first | refine OpsW.st rfl ?_) | (refine CW.go ?_; first | refine CW.condT rfl ?_ | refine CW.condF rfl ?_ | refine CW.seqR ?_ | refine CW.seqD ?_ | refine CW.block ?_ | refine CW.region ?_ | refine CW.ret ?_ | refine CW.exit ?_ | refine CW.skip ?_) | refine OpsW.nil ?_)
  refine OpsW.ixA (n := 4) rfl rfl rfl rfl rfl rfl rfl (by decide +kernel) rfl ?_
  refine OpsW.str H p0 rfl rfl rfl rfl rfl rfl (by rw [Dm.len]; decide) fun w H => ?_
  rw [Dm.stR (n := 4) (by decide) rfl] at H
  repeat' (first | (refine OpsW.go ?_; first | refine OpsW.st rfl ?_) | (refine CW.go ?_; first | refine CW.condT rfl ?_ | refine CW.condF rfl ?_ | refine CW.seqR ?_ | refine CW.seqD ?_ | refine CW.block ?_ | refine CW.region ?_ | refine CW.ret ?_ | refine CW.exit ?_ | refine CW.skip ?_) | refine OpsW.nil ?_)
  (first | refine CW.seqDraw mo H [0, 1, 3, 7, 0, 16, 63] fun w H => ?_ | refine CW.draw mo H [0, 1, 3, 7, 0, 16, 63] fun w H => ?_); refine AnyW.seg (m := 6) (by kernel_rfl) (by kernel_rfl) H rfl ?_
  iterate 3 (refine .cons rfl (fun τ w H => .st rfl (.nil ⟨rfl, H⟩)) ?_)
  refine .cons rfl (fun τ w H => .slcAF (k := 12) (sz := 5) rfl rfl rfl rfl rfl rfl rfl rfl (by decide) rfl (.nil ⟨rfl, H⟩)) ?_
  refine .cons rfl (fun τ w H => .st rfl (.nil ⟨rfl, H⟩)) ?_
  refine .cons rfl (fun τ w H => .slcA rfl rfl rfl rfl rfl rfl (.nil ⟨rfl, H⟩)) ?_
  refine DrawP.nil fun w H => ?_
  refine AnyW.one (by kernel_rfl) (by kernel_rfl) rfl ?_
  refine OpsW.cpy (n2 := 3) (sz := 5) (c2 := k0.l ++ (k1.l ++ k2.l)) H p0 (SlR.of_part p1 rfl (Nat.le_refl 3) (note_k o w0 w1 w2 k0 k1 k2)) rfl (by decide) (by rw [Dm.len]; decide) rfl rfl rfl rfl rfl rfl rfl fun w H => ?_
  replace H : Sat z w (blk bd 70 (splice (((((d.setR 0 o).setR 1 w0).setR 2 w1).setR 3 w2).setR 4 bg).c 71 (k0.l ++ (k1.l ++ k2.l))) :: blk b 77 (noteL o w0 w1 w2 k0 k1 k2) :: Rs) := H
  rw [setK3_eq] at H
  refine OpsW.nil ?_
  refine AnyW.done ?_
  repeat' (first | (refine OpsW.go ?_; first | refine OpsW.st rfl ?_) | (refine CW.go ?_; first | refine CW.condT rfl ?_ | refine CW.condF rfl ?_ | refine CW.seqR ?_ | refine CW.seqD ?_ | refine CW.block ?_ | refine CW.region ?_ | refine CW.ret ?_ | refine CW.exit ?_ | refine CW.skip ?_) | refine OpsW.nil ?_)
  refine OpsW.ixA (n := 15) rfl rfl rfl rfl rfl rfl rfl (by decide +kernel) rfl ?_
  refine OpsW.strF (vs := K.void.l) H p0 rfl rfl rfl rfl rfl rfl (by rw [Dm.len]; decide) fun w H => ?_
  rw [Dm.stK (n := 15) (by decide) rfl] at H
  repeat' (first | (refine OpsW.go ?_; first | refine OpsW.st rfl ?_) | (refine CW.go ?_; first | refine CW.condT rfl ?_ | refine CW.condF rfl ?_ | refine CW.seqR ?_ | refine CW.seqD ?_ | refine CW.block ?_ | refine CW.region ?_ | refine CW.ret ?_ | refine CW.exit ?_ | refine CW.skip ?_) | refine OpsW.nil ?_)
  cases l with
  | nil =>
    refine CW.cond rfl (fun h => absurd (of_decide_eq_true h) (by decide)) (fun _ => ?_)
    repeat' (first | (refine OpsW.go ?_; first | refine OpsW.st rfl ?_) | (refine CW.go ?_; first | refine CW.condT rfl ?_ | refine CW.condF rfl ?_ | refine CW.seqR ?_ | refine CW.seqD ?_ | refine CW.block ?_ | refine CW.region ?_ | refine CW.ret ?_ | refine CW.exit ?_ | refine CW.skip ?_) | refine OpsW.nil ?_)
    exact ret0 ((H.perm p1).drop)
  | cons k l =>
    refine CW.cond rfl (fun _ => ?_) (fun h => absurd h (by simp))
    repeat' (first | (refine OpsW.go ?_; first | refine OpsW.st rfl ?_) | (refine CW.go ?_; first | refine CW.condT rfl ?_ | refine CW.condF rfl ?_ | refine CW.seqR ?_ | refine CW.seqD ?_ | refine CW.block ?_ | refine CW.region ?_ | refine CW.ret ?_ | refine CW.exit ?_ | refine CW.skip ?_) | refine OpsW.nil ?_)
    obtain ⟨b1, o1, m1, E1, f1, rfl, hb1, hm1⟩ := hv.at_ (Nat.succ_pos _)
    (first | refine CW.seqDraw mo H [0, 0, 2, 6, 1, 17, 63, 127] fun w H => ?_ | refine CW.draw mo H [0, 0, 2, 6, 1, 17, 63, 127] fun w H => ?_); refine AnyW.seg (m := 7) (by kernel_rfl) (by kernel_rfl) H rfl ?_
    iterate 2 (refine .cons rfl (fun τ w H => .st rfl (.nil ⟨rfl, H⟩)) ?_)
    refine .cons rfl (fun τ w H => .ix (n := 0) rfl rfl rfl rfl rfl rfl rfl (Nat.succ_pos _) rfl (.nil ⟨rfl, H⟩)) ?_
    refine .cons rfl (fun τ w H => .ldSA (k := 0) (sz := 5) (vs := k.l) H hv.tail.tail rfl rfl rfl rfl (Nat.succ_pos _) rfl rfl (.nil ⟨rfl, H⟩)) ?_
    iterate 2 (refine .cons rfl (fun τ w H => .st rfl (.nil ⟨rfl, H⟩)) ?_)
    refine .cons rfl (fun τ w H => .ixA (n := 15) rfl rfl rfl rfl rfl rfl rfl (by decide +kernel) rfl (.nil ⟨rfl, H⟩)) ?_
    refine DrawP.nil fun w H => ?_
    refine AnyW.one (by kernel_rfl) (by kernel_rfl) rfl ?_
    refine OpsW.strF (vs := k.l) H p0 rfl rfl rfl rfl rfl rfl (by rw [Dm.len]; show _ + 5 ≤ 107; decide) fun w H => ?_
    rw [Dm.stK (n := 15) (by decide) rfl, setK_set] at H
    refine OpsW.nil ?_
    refine AnyW.done ?_
    repeat' (first | (refine OpsW.go ?_; first | refine OpsW.st rfl ?_) | (refine CW.go ?_; first | refine CW.condT rfl ?_ | refine CW.condF rfl ?_ | refine CW.seqR ?_ | refine CW.seqD ?_ | refine CW.block ?_ | refine CW.region ?_ | refine CW.ret ?_ | refine CW.exit ?_ | refine CW.skip ?_) | refine OpsW.nil ?_)
    exact ret0 ((H.perm p1).drop)
theorem sentR17_ (H : Sat z w (blk bd 93 (eD d) :: Rs)) (fr : Int) : Spec cf 39 #[.pointer (some ⟨bd, 0, none⟩), .int .i64 fr] w fun e w' => e = .agg ((sentK d.k fr 0).l ++ ((sentK d.k fr 1).l ++ (sentK d.k fr 2).l)).toArray ∧ Sat z w' (blk bd 93 (eD d) :: Rs) := by
  refine enter (l := [.pointer (some ⟨bd, 0, none⟩), .int .i64 fr]) Tryd.func39 rfl rfl rfl rfl rfl ?_
  repeat' (first | (refine OpsW.go ?_; first | refine OpsW.st rfl ?_ | refine OpsW.ld H (by (first | exact p0 | exact p1 | exact p2 | exact p3 | exact p4 | exact p5 | exact p6 | exact p7)) rfl rfl rfl rfl (by rfl) rfl ?_ | refine OpsW.ldA H (by (first | exact p0 | exact p1 | exact p2 | exact p3 | exact p4 | exact p5 | exact p6 | exact p7)) rfl rfl rfl (by rfl) rfl ?_ | refine OpsW.box H rfl rfl rfl fun _ _ H => ?_ | refine OpsW.alloc H rfl rfl rfl rfl fun _ _ H => ?_ | refine OpsW.str H (by (first | exact p0 | exact p1 | exact p2 | exact p3 | exact p4 | exact p5 | exact p6 | exact p7)) rfl rfl rfl rfl rfl rfl (by first | decide | (simp; done) | (simp; omega)) fun _ H => ?_ | refine OpsW.strA H (by (first | exact p0 | exact p1 | exact p2 | exact p3 | exact p4 | exact p5 | exact p6 | exact p7)) rfl rfl rfl rfl rfl rfl (by first | decide | (simp; done) | (simp; omega)) fun _ H => ?_) | (refine CW.go ?_; first | refine CW.condT rfl ?_ | refine CW.condF rfl ?_ | refine CW.seqR ?_ | refine CW.seqD ?_ | refine CW.block ?_ | refine CW.region ?_ | refine CW.ret ?_ | refine CW.exit ?_ | refine CW.skip ?_) | refine OpsW.nil ?_)
  refine OpsW.gs rfl rfl rfl (fun h => ?_) (fun h => ?_)
  · repeat' (first | (refine OpsW.go ?_; first | refine OpsW.st rfl ?_ | refine OpsW.ld H (by (first | exact p0 | exact p1 | exact p2 | exact p3 | exact p4 | exact p5 | exact p6 | exact p7)) rfl rfl rfl rfl (by rfl) rfl ?_ | refine OpsW.ldA H (by (first | exact p0 | exact p1 | exact p2 | exact p3 | exact p4 | exact p5 | exact p6 | exact p7)) rfl rfl rfl (by rfl) rfl ?_ | refine OpsW.box H rfl rfl rfl fun _ _ H => ?_ | refine OpsW.alloc H rfl rfl rfl rfl fun _ _ H => ?_ | refine OpsW.str H (by (first | exact p0 | exact p1 | exact p2 | exact p3 | exact p4 | exact p5 | exact p6 | exact p7)) rfl rfl rfl rfl rfl rfl (by first | decide | (simp; done) | (simp; omega)) fun _ H => ?_ | refine OpsW.strA H (by (first | exact p0 | exact p1 | exact p2 | exact p3 | exact p4 | exact p5 | exact p6 | exact p7)) rfl rfl rfl rfl rfl rfl (by first | decide | (simp; done) | (simp; omega)) fun _ H => ?_) | (refine CW.go ?_; first | refine CW.condT rfl ?_ | refine CW.condF rfl ?_ | refine CW.seqR ?_ | refine CW.seqD ?_ | refine CW.block ?_ | refine CW.region ?_ | refine CW.ret ?_ | refine CW.exit ?_ | refine CW.skip ?_) | refine OpsW.nil ?_)
    refine ret1c (resA H (by (first | exact p0 | exact p1 | exact p2 | exact p3 | exact p4 | exact p5 | exact p6 | exact p7)) rfl rfl (by rfl)) ⟨?_, H.drop.drop⟩
    rw [show sentK d.k fr 0 = K.void from if_neg (by simp at h; omega), show sentK d.k fr 1 = K.void from if_neg (by simp at h; omega), show sentK d.k fr 2 = K.void from if_neg (by simp at h; omega)]
    rfl
  · repeat' (first | (refine OpsW.go ?_; first | refine OpsW.st rfl ?_ | refine OpsW.ld H (by (first | exact p0 | exact p1 | exact p2 | exact p3 | exact p4 | exact p5 | exact p6 | exact p7)) rfl rfl rfl rfl (by rfl) rfl ?_ | refine OpsW.ldA H (by (first | exact p0 | exact p1 | exact p2 | exact p3 | exact p4 | exact p5 | exact p6 | exact p7)) rfl rfl rfl (by rfl) rfl ?_ | refine OpsW.box H rfl rfl rfl fun _ _ H => ?_ | refine OpsW.alloc H rfl rfl rfl rfl fun _ _ H => ?_ | refine OpsW.str H (by (first | exact p0 | exact p1 | exact p2 | exact p3 | exact p4 | exact p5 | exact p6 | exact p7)) rfl rfl rfl rfl rfl rfl (by first | decide | (simp; done) | (simp; omega)) fun _ H => ?_ | refine OpsW.strA H (by (first | exact p0 | exact p1 | exact p2 | exact p3 | exact p4 | exact p5 | exact p6 | exact p7)) rfl rfl rfl rfl rfl rfl (by first | decide | (simp; done) | (simp; omega)) fun _ H => ?_) | (refine CW.go ?_; first | refine CW.condT rfl ?_ | refine CW.condF rfl ?_ | refine CW.seqR ?_ | refine CW.seqD ?_ | refine CW.block ?_ | refine CW.region ?_ | refine CW.ret ?_ | refine CW.exit ?_ | refine CW.skip ?_) | refine OpsW.nil ?_)
    refine CW.cond rfl (fun h1 => ?_) (fun h1 => ?_)
    · repeat' (first | (refine OpsW.go ?_; first | refine OpsW.st rfl ?_ | refine OpsW.ld H (by (first | exact p0 | exact p1 | exact p2 | exact p3 | exact p4 | exact p5 | exact p6 | exact p7)) rfl rfl rfl rfl (by rfl) rfl ?_ | refine OpsW.ldA H (by (first | exact p0 | exact p1 | exact p2 | exact p3 | exact p4 | exact p5 | exact p6 | exact p7)) rfl rfl rfl (by rfl) rfl ?_ | refine OpsW.box H rfl rfl rfl fun _ _ H => ?_ | refine OpsW.alloc H rfl rfl rfl rfl fun _ _ H => ?_ | refine OpsW.str H (by (first | exact p0 | exact p1 | exact p2 | exact p3 | exact p4 | exact p5 | exact p6 | exact p7)) rfl rfl rfl rfl rfl rfl (by first | decide | (simp; done) | (simp; omega)) fun _ H => ?_ | refine OpsW.strA H (by (first | exact p0 | exact p1 | exact p2 | exact p3 | exact p4 | exact p5 | exact p6 | exact p7)) rfl rfl rfl rfl rfl rfl (by first | decide | (simp; done) | (simp; omega)) fun _ H => ?_) | (refine CW.go ?_; first | refine CW.condT rfl ?_ | refine CW.condF rfl ?_ | refine CW.seqR ?_ | refine CW.seqD ?_ | refine CW.block ?_ | refine CW.region ?_ | refine CW.ret ?_ | refine CW.exit ?_ | refine CW.skip ?_) | refine OpsW.nil ?_)
      refine ret1c (resA H (by (first | exact p0 | exact p1 | exact p2 | exact p3 | exact p4 | exact p5 | exact p6 | exact p7)) rfl rfl (by rfl)) ⟨?_, H.drop.drop⟩
      rw [show sentK d.k fr 0 = K.void from if_neg (by simp at h1; omega), show sentK d.k fr 1 = K.void from if_neg (by simp at h1; omega), show sentK d.k fr 2 = K.void from if_neg (by simp at h1; omega)]
      rfl
    repeat' (first | (refine OpsW.go ?_; first | refine OpsW.st rfl ?_ | refine OpsW.ld H (by (first | exact p0 | exact p1 | exact p2 | exact p3 | exact p4 | exact p5 | exact p6 | exact p7)) rfl rfl rfl rfl (by rfl) rfl ?_ | refine OpsW.ldA H (by (first | exact p0 | exact p1 | exact p2 | exact p3 | exact p4 | exact p5 | exact p6 | exact p7)) rfl rfl rfl (by rfl) rfl ?_ | refine OpsW.box H rfl rfl rfl fun _ _ H => ?_ | refine OpsW.alloc H rfl rfl rfl rfl fun _ _ H => ?_ | refine OpsW.str H (by (first | exact p0 | exact p1 | exact p2 | exact p3 | exact p4 | exact p5 | exact p6 | exact p7)) rfl rfl rfl rfl rfl rfl (by first | decide | (simp; done) | (simp; omega)) fun _ H => ?_ | refine OpsW.strA H (by (first | exact p0 | exact p1 | exact p2 | exact p3 | exact p4 | exact p5 | exact p6 | exact p7)) rfl rfl rfl rfl rfl rfl (by first | decide | (simp; done) | (simp; omega)) fun _ H => ?_) | (refine CW.go ?_; first | refine CW.condT rfl ?_ | refine CW.condF rfl ?_ | refine CW.seqR ?_ | refine CW.seqD ?_ | refine CW.block ?_ | refine CW.region ?_ | refine CW.ret ?_ | refine CW.exit ?_ | refine CW.skip ?_) | refine OpsW.nil ?_)
    refine CW.unroll 4 (Un.go ?_)
    repeat' (first | (refine OpsW.go ?_; first | refine OpsW.st rfl ?_) | (refine CW.go ?_; first | refine CW.condT rfl ?_ | refine CW.condF rfl ?_ | refine CW.seqR ?_ | refine CW.seqD ?_ | refine CW.block ?_ | refine CW.region ?_ | refine CW.ret ?_ | refine CW.exit ?_ | refine CW.skip ?_) | refine OpsW.nil ?_)
    have h0 : 0 ≤ fr := by simp at h; omega
    have h2 : fr < 16 := by simp at h1; omega
    refine OpsW.ixA (n := ((fr + (0 : Nat)) % 16).toNat) rfl rfl rfl rfl rfl rfl (sIx h0 h2 rfl (by decide)) (by show _ < 16; omega) rfl ?_
    refine OpsW.ldA H p2 rfl rfl rfl (eD_ldK (n := ((fr + (0 : Nat)) % 16).toNat) (by omega) (by omega)) rfl ?_
    repeat' (first | (refine OpsW.go ?_; first | refine OpsW.st rfl ?_) | (refine CW.go ?_; first | refine CW.condT rfl ?_ | refine CW.condF rfl ?_ | refine CW.seqR ?_ | refine CW.seqD ?_ | refine CW.block ?_ | refine CW.region ?_ | refine CW.ret ?_ | refine CW.exit ?_ | refine CW.skip ?_) | refine OpsW.nil ?_)
    refine OpsW.ixA (n := 0) rfl rfl rfl rfl rfl rfl rfl (by decide +kernel) rfl ?_
    refine .strA H p0 rfl rfl rfl rfl rfl rfl (by show _ + 5 ≤ 15; decide) fun _ H => ?_
    repeat' (first | (refine OpsW.go ?_; first | refine OpsW.st rfl ?_) | (refine CW.go ?_; first | refine CW.condT rfl ?_ | refine CW.condF rfl ?_ | refine CW.seqR ?_ | refine CW.seqD ?_ | refine CW.block ?_ | refine CW.region ?_ | refine CW.ret ?_ | refine CW.exit ?_ | refine CW.skip ?_) | refine OpsW.nil ?_)
    rw [show IntKind.wrap .i64 (0 + 1) = 1 by decide +kernel]
    repeat' (first | (refine OpsW.go ?_; first | refine OpsW.st rfl ?_) | (refine CW.go ?_; first | refine CW.condT rfl ?_ | refine CW.condF rfl ?_ | refine CW.seqR ?_ | refine CW.seqD ?_ | refine CW.block ?_ | refine CW.region ?_ | refine CW.ret ?_ | refine CW.exit ?_ | refine CW.skip ?_) | refine OpsW.nil ?_)
    replace H : Sat z _ (blk _ 75 ((d.k ((fr + (0 : Nat)) % 16).toNat).l ++ (K.void.l ++ K.void.l)) :: _) := H
    refine OpsW.ixA (n := ((fr + (1 : Nat)) % 16).toNat) rfl rfl rfl rfl rfl rfl (sIx h0 h2 rfl (by decide)) (by show _ < 16; omega) rfl ?_
    refine OpsW.ldA H p2 rfl rfl rfl (eD_ldK (n := ((fr + (1 : Nat)) % 16).toNat) (by omega) (by omega)) rfl ?_
    repeat' (first | (refine OpsW.go ?_; first | refine OpsW.st rfl ?_) | (refine CW.go ?_; first | refine CW.condT rfl ?_ | refine CW.condF rfl ?_ | refine CW.seqR ?_ | refine CW.seqD ?_ | refine CW.block ?_ | refine CW.region ?_ | refine CW.ret ?_ | refine CW.exit ?_ | refine CW.skip ?_) | refine OpsW.nil ?_)
    refine OpsW.ixA (n := 1) rfl rfl rfl rfl rfl rfl rfl (by decide +kernel) rfl ?_
    refine .strA H p0 rfl rfl rfl rfl rfl rfl (by show _ + 5 ≤ 15; decide) fun _ H => ?_
    repeat' (first | (refine OpsW.go ?_; first | refine OpsW.st rfl ?_) | (refine CW.go ?_; first | refine CW.condT rfl ?_ | refine CW.condF rfl ?_ | refine CW.seqR ?_ | refine CW.seqD ?_ | refine CW.block ?_ | refine CW.region ?_ | refine CW.ret ?_ | refine CW.exit ?_ | refine CW.skip ?_) | refine OpsW.nil ?_)
    rw [show IntKind.wrap .i64 (1 + 1) = 2 by decide +kernel]
    repeat' (first | (refine OpsW.go ?_; first | refine OpsW.st rfl ?_) | (refine CW.go ?_; first | refine CW.condT rfl ?_ | refine CW.condF rfl ?_ | refine CW.seqR ?_ | refine CW.seqD ?_ | refine CW.block ?_ | refine CW.region ?_ | refine CW.ret ?_ | refine CW.exit ?_ | refine CW.skip ?_) | refine OpsW.nil ?_)
    replace H : Sat z _ (blk _ 75 ((d.k ((fr + (0 : Nat)) % 16).toNat).l ++ ((d.k ((fr + (1 : Nat)) % 16).toNat).l ++ K.void.l)) :: _) := H
    refine OpsW.ixA (n := ((fr + (2 : Nat)) % 16).toNat) rfl rfl rfl rfl rfl rfl (sIx h0 h2 rfl (by decide)) (by show _ < 16; omega) rfl ?_
    refine OpsW.ldA H p2 rfl rfl rfl (eD_ldK (n := ((fr + (2 : Nat)) % 16).toNat) (by omega) (by omega)) rfl ?_
    repeat' (first | (refine OpsW.go ?_; first | refine OpsW.st rfl ?_) | (refine CW.go ?_; first | refine CW.condT rfl ?_ | refine CW.condF rfl ?_ | refine CW.seqR ?_ | refine CW.seqD ?_ | refine CW.block ?_ | refine CW.region ?_ | refine CW.ret ?_ | refine CW.exit ?_ | refine CW.skip ?_) | refine OpsW.nil ?_)
    refine OpsW.ixA (n := 2) rfl rfl rfl rfl rfl rfl rfl (by decide +kernel) rfl ?_
    refine .strA H p0 rfl rfl rfl rfl rfl rfl (by show _ + 5 ≤ 15; decide) fun _ H => ?_
    repeat' (first | (refine OpsW.go ?_; first | refine OpsW.st rfl ?_) | (refine CW.go ?_; first | refine CW.condT rfl ?_ | refine CW.condF rfl ?_ | refine CW.seqR ?_ | refine CW.seqD ?_ | refine CW.block ?_ | refine CW.region ?_ | refine CW.ret ?_ | refine CW.exit ?_ | refine CW.skip ?_) | refine OpsW.nil ?_)
    rw [show IntKind.wrap .i64 (2 + 1) = 3 by decide +kernel]
    repeat' (first | (refine OpsW.go ?_; first | refine OpsW.st rfl ?_ | refine OpsW.ld H (by (first | exact p0 | exact p1 | exact p2 | exact p3 | exact p4 | exact p5 | exact p6 | exact p7)) rfl rfl rfl rfl (by rfl) rfl ?_ | refine OpsW.ldA H (by (first | exact p0 | exact p1 | exact p2 | exact p3 | exact p4 | exact p5 | exact p6 | exact p7)) rfl rfl rfl (by rfl) rfl ?_ | refine OpsW.box H rfl rfl rfl fun _ _ H => ?_ | refine OpsW.alloc H rfl rfl rfl rfl fun _ _ H => ?_ | refine OpsW.str H (by (first | exact p0 | exact p1 | exact p2 | exact p3 | exact p4 | exact p5 | exact p6 | exact p7)) rfl rfl rfl rfl rfl rfl (by first | decide | (simp; done) | (simp; omega)) fun _ H => ?_ | refine OpsW.strA H (by (first | exact p0 | exact p1 | exact p2 | exact p3 | exact p4 | exact p5 | exact p6 | exact p7)) rfl rfl rfl rfl rfl rfl (by first | decide | (simp; done) | (simp; omega)) fun _ H => ?_) | (refine CW.go ?_; first | refine CW.condT rfl ?_ | refine CW.condF rfl ?_ | refine CW.seqR ?_ | refine CW.seqD ?_ | refine CW.block ?_ | refine CW.region ?_ | refine CW.ret ?_ | refine CW.exit ?_ | refine CW.skip ?_) | refine OpsW.nil ?_)
    refine ret1c (resA H (by (first | exact p0 | exact p1 | exact p2 | exact p3 | exact p4 | exact p5 | exact p6 | exact p7)) rfl rfl (by rfl)) ⟨?_, H.drop.drop⟩
    unfold sentK
    rw [if_pos ⟨h0, h2⟩, if_pos ⟨h0, h2⟩, if_pos ⟨h0, h2⟩]
    rfl
set_option maxHeartbeats 2000000 in
theorem takeR17_ (H : Sat z w (blk bd 93 (eD d) :: Rs)) (o w0 w1 w2 : Int) (k0 k1 k2 : K) (bg : Int) (k : K) :
    Spec cf 41 #[.pointer (some ⟨bd, 0, none⟩), .agg (noteL o w0 w1 w2 k0 k1 k2).toArray, .int .u32 bg, k.v] w fun e w' => Sat z w' (blk bd 93 (eD (takeD d o w0 w1 w2 k0 k1 k2 bg k)) :: Rs) := by
  refine enter (l := [.pointer (some ⟨bd, 0, none⟩), .agg (noteL o w0 w1 w2 k0 k1 k2).toArray, .int .u32 bg, k.v]) Tryd.func41 rfl rfl rfl rfl rfl ?_
  repeat' (first | (refine OpsW.go ?_; first | refine OpsW.st rfl ?_) | (refine CW.go ?_; first | refine CW.condT rfl ?_ | refine CW.condF rfl ?_ | refine CW.seqR ?_ | refine CW.seqD ?_ | refine CW.block ?_ | refine CW.region ?_ | refine CW.ret ?_ | refine CW.exit ?_ | refine CW.skip ?_) | refine OpsW.nil ?_)
  refine OpsW.boxF H rfl rfl rfl fun b w H => ?_
  repeat' (first | (refine OpsW.go ?_; first | refine OpsW.st rfl ?_ | refine OpsW.ld H (by (first | exact p0 | exact p1 | exact p2 | exact p3 | exact p4 | exact p5 | exact p6 | exact p7)) rfl rfl rfl rfl (by rfl) rfl ?_ | refine OpsW.ldA H (by (first | exact p0 | exact p1 | exact p2 | exact p3 | exact p4 | exact p5 | exact p6 | exact p7)) rfl rfl rfl (by rfl) rfl ?_ | refine OpsW.box H rfl rfl rfl fun _ _ H => ?_ | refine OpsW.alloc H rfl rfl rfl rfl fun _ _ H => ?_ | refine OpsW.str H (by (first | exact p0 | exact p1 | exact p2 | exact p3 | exact p4 | exact p5 | exact p6 | exact p7)) rfl rfl rfl rfl rfl rfl (by first | decide | (simp; done) | (simp; omega)) fun _ H => ?_ | refine OpsW.strA H (by (first | exact p0 | exact p1 | exact p2 | exact p3 | exact p4 | exact p5 | exact p6 | exact p7)) rfl rfl rfl rfl rfl rfl (by first | decide | (simp; done) | (simp; omega)) fun _ H => ?_) | (refine CW.go ?_; first | refine CW.condT rfl ?_ | refine CW.condF rfl ?_ | refine CW.seqR ?_ | refine CW.seqD ?_ | refine CW.block ?_ | refine CW.region ?_ | refine CW.ret ?_ | refine CW.exit ?_ | refine CW.skip ?_) | refine OpsW.nil ?_)
  rename_i b2 _
  replace H : Sat z _ (blk bd 93 (eD d) :: blk b 77 (noteL o w0 w1 w2 k0 k1 k2) :: blk b2 43 k.l :: Rs) := H.perm (p2.trans ((List.Perm.swap _ _ _).cons _))
  (first | refine CW.seqDraw mo H [0, 0, 2, 1, 9, 25, 63, 127] fun w H => ?_ | refine CW.draw mo H [0, 0, 2, 1, 9, 25, 63, 127] fun w H => ?_); refine AnyW.seg (m := 7) (by kernel_rfl) (by kernel_rfl) H rfl ?_
  repeat' (first | (refine DrawP.nil ?_; intro w H) | (refine DrawP.go ?_; first | refine DrawP.cons rfl (fun τ w H => OpsW.st rfl (OpsW.nil ⟨rfl, H⟩)) ?_ | refine DrawP.cons rfl (fun τ w H => OpsW.ld H (by (first | exact p0 | exact p1 | exact p2 | exact p3 | exact p4 | exact p5 | exact p6 | exact p7)) rfl rfl rfl rfl (by rfl) rfl (OpsW.nil ⟨rfl, H⟩)) ?_ | refine DrawP.cons rfl (fun τ w H => OpsW.ldA H (by (first | exact p0 | exact p1 | exact p2 | exact p3 | exact p4 | exact p5 | exact p6 | exact p7)) rfl rfl rfl (by rfl) rfl (OpsW.nil ⟨rfl, H⟩)) ?_ | refine DrawP.cons rfl (fun τ w H => OpsW.ixA (n := 0) rfl rfl rfl rfl rfl rfl rfl (by decide +kernel) rfl (OpsW.nil ⟨rfl, H⟩)) ?_ | refine DrawP.cons rfl (fun τ w H => OpsW.ld H p1 rfl rfl rfl rfl (note_o o w0 w1 w2 k0 k1 k2) rfl (OpsW.nil ⟨rfl, H⟩)) ?_) | refine DrawP.split (fun h => ?_) (fun h => ?_))
  refine AnyW.one (by kernel_rfl) (by kernel_rfl) rfl ?_
  refine OpsW.str H p0 rfl rfl rfl rfl rfl rfl (by rw [eD_len]; decide) fun w H => ?_
  rw [eD_stR (n := 0) (by decide) rfl] at H
  refine OpsW.nil ?_
  refine AnyW.done ?_
  repeat' (first | (refine OpsW.go ?_; first | refine OpsW.st rfl ?_) | (refine CW.go ?_; first | refine CW.condT rfl ?_ | refine CW.condF rfl ?_ | refine CW.seqR ?_ | refine CW.seqD ?_ | refine CW.block ?_ | refine CW.region ?_ | refine CW.ret ?_ | refine CW.exit ?_ | refine CW.skip ?_) | refine OpsW.nil ?_)
  refine CW.unroll 4 (Un.go ?_)
  repeat' (first | (refine OpsW.go ?_; first | refine OpsW.st rfl ?_) | (refine CW.go ?_; first | refine CW.condT rfl ?_ | refine CW.condF rfl ?_ | refine CW.seqR ?_ | refine CW.seqD ?_ | refine CW.block ?_ | refine CW.region ?_ | refine CW.ret ?_ | refine CW.exit ?_ | refine CW.skip ?_) | refine OpsW.nil ?_)
  (first | refine CW.seqDraw mo H [0, 0, 2, 0, 0, 24, 56, 1, 129, 385, 1023, 2047] fun w H => ?_ | refine CW.draw mo H [0, 0, 2, 0, 0, 24, 56, 1, 129, 385, 1023, 2047] fun w H => ?_); refine AnyW.seg (m := 11) (by kernel_rfl) (by kernel_rfl) H rfl ?_
  iterate 2 (refine .cons rfl (fun τ w H => .st rfl (.nil ⟨rfl, H⟩)) ?_)
  refine .cons rfl (fun τ w H => .stV rfl (congrArg (Value.int .i64) (show IntKind.wrap .i64 (0 + 1) = 1 by decide +kernel)) (.nil ⟨rfl, H⟩)) ?_
  iterate 2 (refine .cons rfl (fun τ w H => .st rfl (.nil ⟨rfl, H⟩)) ?_)
  refine .cons rfl (fun τ w H => .ixA (n := 0) rfl rfl rfl rfl rfl rfl rfl (by decide +kernel) rfl (.nil ⟨rfl, H⟩)) ?_
  refine .cons rfl (fun τ w H => .ld H p1 rfl rfl rfl rfl (note_wl o w0 w1 w2 k0 k1 k2).1 rfl (.nil ⟨rfl, H⟩)) ?_
  iterate 3 (refine .cons rfl (fun τ w H => .st rfl (.nil ⟨rfl, H⟩)) ?_)
  refine .cons rfl (fun τ w H => .ixA (n := 1) rfl rfl rfl rfl rfl rfl rfl (by decide +kernel) rfl (.nil ⟨rfl, H⟩)) ?_
  refine DrawP.nil fun w H => ?_
  refine AnyW.one (by kernel_rfl) (by kernel_rfl) rfl ?_
  refine OpsW.str H p0 rfl rfl rfl rfl rfl rfl (by rw [eD_len]; decide) fun w H => ?_
  rw [eD_stR (n := 1) (by decide) rfl] at H
  refine OpsW.nil ?_
  refine AnyW.done ?_
  repeat' (first | (refine OpsW.go ?_; first | refine OpsW.st rfl ?_) | (refine CW.go ?_; first | refine CW.condT rfl ?_ | refine CW.condF rfl ?_ | refine CW.seqR ?_ | refine CW.seqD ?_ | refine CW.block ?_ | refine CW.region ?_ | refine CW.ret ?_ | refine CW.exit ?_ | refine CW.skip ?_) | refine OpsW.nil ?_)
  (first | refine CW.seqDraw mo H [0, 0, 2, 0, 0, 24, 56, 1, 129, 511, 1023] fun w H => ?_ | refine CW.draw mo H [0, 0, 2, 0, 0, 24, 56, 1, 129, 511, 1023] fun w H => ?_); refine AnyW.seg (m := 10) (by kernel_rfl) (by kernel_rfl) H rfl ?_
  iterate 2 (refine .cons rfl (fun τ w H => .st rfl (.nil ⟨rfl, H⟩)) ?_)
  refine .cons rfl (fun τ w H => .stV rfl (congrArg (Value.int .i64) (show IntKind.wrap .i64 (12 + 0) = 12 by decide +kernel)) (.nil ⟨rfl, H⟩)) ?_
  iterate 2 (refine .cons rfl (fun τ w H => .st rfl (.nil ⟨rfl, H⟩)) ?_)
  refine .cons rfl (fun τ w H => .ixA (n := 0) rfl rfl rfl rfl rfl rfl rfl (by decide +kernel) rfl (.nil ⟨rfl, H⟩)) ?_
  refine .cons rfl (fun τ w H => .ldA H p1 rfl rfl rfl (note_kl o w0 w1 w2 k0 k1 k2).1 rfl (.nil ⟨rfl, H⟩)) ?_
  iterate 2 (refine .cons rfl (fun τ w H => .st rfl (.nil ⟨rfl, H⟩)) ?_)
  refine .cons rfl (fun τ w H => .ixA (n := 12) rfl rfl rfl rfl rfl rfl rfl (by decide +kernel) rfl (.nil ⟨rfl, H⟩)) ?_
  refine DrawP.nil fun w H => ?_
  refine AnyW.one (by kernel_rfl) (by kernel_rfl) rfl ?_
  refine OpsW.strF (vs := k0.l) H p0 rfl rfl rfl rfl rfl rfl (by rw [eD_len]; show _ + 5 ≤ 108; decide) fun w H => ?_
  rw [eD_stK (n := 12) (by decide) rfl] at H
  refine OpsW.nil ?_
  refine AnyW.done ?_
  repeat' (first | (refine OpsW.go ?_; first | refine OpsW.st rfl ?_) | (refine CW.go ?_; first | refine CW.condT rfl ?_ | refine CW.condF rfl ?_ | refine CW.seqR ?_ | refine CW.seqD ?_ | refine CW.block ?_ | refine CW.region ?_ | refine CW.ret ?_ | refine CW.exit ?_ | refine CW.skip ?_) | refine OpsW.nil ?_)
  rw [show IntKind.wrap .i64 (0 + 1) = 1 by decide +kernel]
  repeat' (first | (refine OpsW.go ?_; first | refine OpsW.st rfl ?_) | (refine CW.go ?_; first | refine CW.condT rfl ?_ | refine CW.condF rfl ?_ | refine CW.seqR ?_ | refine CW.seqD ?_ | refine CW.block ?_ | refine CW.region ?_ | refine CW.ret ?_ | refine CW.exit ?_ | refine CW.skip ?_) | refine OpsW.nil ?_)
  (first | refine CW.seqDraw mo H [0, 0, 2, 0, 0, 24, 56, 1, 129, 385, 1023, 2047] fun w H => ?_ | refine CW.draw mo H [0, 0, 2, 0, 0, 24, 56, 1, 129, 385, 1023, 2047] fun w H => ?_); refine AnyW.seg (m := 11) (by kernel_rfl) (by kernel_rfl) H rfl ?_
  iterate 2 (refine .cons rfl (fun τ w H => .st rfl (.nil ⟨rfl, H⟩)) ?_)
  refine .cons rfl (fun τ w H => .stV rfl (congrArg (Value.int .i64) (show IntKind.wrap .i64 (1 + 1) = 2 by decide +kernel)) (.nil ⟨rfl, H⟩)) ?_
  iterate 2 (refine .cons rfl (fun τ w H => .st rfl (.nil ⟨rfl, H⟩)) ?_)
  refine .cons rfl (fun τ w H => .ixA (n := 1) rfl rfl rfl rfl rfl rfl rfl (by decide +kernel) rfl (.nil ⟨rfl, H⟩)) ?_
  refine .cons rfl (fun τ w H => .ld H p1 rfl rfl rfl rfl (note_wl o w0 w1 w2 k0 k1 k2).2.1 rfl (.nil ⟨rfl, H⟩)) ?_
  iterate 3 (refine .cons rfl (fun τ w H => .st rfl (.nil ⟨rfl, H⟩)) ?_)
  refine .cons rfl (fun τ w H => .ixA (n := 2) rfl rfl rfl rfl rfl rfl rfl (by decide +kernel) rfl (.nil ⟨rfl, H⟩)) ?_
  refine DrawP.nil fun w H => ?_
  refine AnyW.one (by kernel_rfl) (by kernel_rfl) rfl ?_
  refine OpsW.str H p0 rfl rfl rfl rfl rfl rfl (by rw [eD_len]; decide) fun w H => ?_
  rw [eD_stR (n := 2) (by decide) rfl] at H
  refine OpsW.nil ?_
  refine AnyW.done ?_
  repeat' (first | (refine OpsW.go ?_; first | refine OpsW.st rfl ?_) | (refine CW.go ?_; first | refine CW.condT rfl ?_ | refine CW.condF rfl ?_ | refine CW.seqR ?_ | refine CW.seqD ?_ | refine CW.block ?_ | refine CW.region ?_ | refine CW.ret ?_ | refine CW.exit ?_ | refine CW.skip ?_) | refine OpsW.nil ?_)
  (first | refine CW.seqDraw mo H [0, 0, 2, 0, 0, 24, 56, 1, 129, 511, 1023] fun w H => ?_ | refine CW.draw mo H [0, 0, 2, 0, 0, 24, 56, 1, 129, 511, 1023] fun w H => ?_); refine AnyW.seg (m := 10) (by kernel_rfl) (by kernel_rfl) H rfl ?_
  iterate 2 (refine .cons rfl (fun τ w H => .st rfl (.nil ⟨rfl, H⟩)) ?_)
  refine .cons rfl (fun τ w H => .stV rfl (congrArg (Value.int .i64) (show IntKind.wrap .i64 (12 + 1) = 13 by decide +kernel)) (.nil ⟨rfl, H⟩)) ?_
  iterate 2 (refine .cons rfl (fun τ w H => .st rfl (.nil ⟨rfl, H⟩)) ?_)
  refine .cons rfl (fun τ w H => .ixA (n := 1) rfl rfl rfl rfl rfl rfl rfl (by decide +kernel) rfl (.nil ⟨rfl, H⟩)) ?_
  refine .cons rfl (fun τ w H => .ldA H p1 rfl rfl rfl (note_kl o w0 w1 w2 k0 k1 k2).2.1 rfl (.nil ⟨rfl, H⟩)) ?_
  iterate 2 (refine .cons rfl (fun τ w H => .st rfl (.nil ⟨rfl, H⟩)) ?_)
  refine .cons rfl (fun τ w H => .ixA (n := 13) rfl rfl rfl rfl rfl rfl rfl (by decide +kernel) rfl (.nil ⟨rfl, H⟩)) ?_
  refine DrawP.nil fun w H => ?_
  refine AnyW.one (by kernel_rfl) (by kernel_rfl) rfl ?_
  refine OpsW.strF (vs := k1.l) H p0 rfl rfl rfl rfl rfl rfl (by rw [eD_len]; show _ + 5 ≤ 108; decide) fun w H => ?_
  rw [eD_stK (n := 13) (by decide) rfl] at H
  refine OpsW.nil ?_
  refine AnyW.done ?_
  repeat' (first | (refine OpsW.go ?_; first | refine OpsW.st rfl ?_) | (refine CW.go ?_; first | refine CW.condT rfl ?_ | refine CW.condF rfl ?_ | refine CW.seqR ?_ | refine CW.seqD ?_ | refine CW.block ?_ | refine CW.region ?_ | refine CW.ret ?_ | refine CW.exit ?_ | refine CW.skip ?_) | refine OpsW.nil ?_)
  rw [show IntKind.wrap .i64 (1 + 1) = 2 by decide +kernel]
  repeat' (first | (refine OpsW.go ?_; first | refine OpsW.st rfl ?_) | (refine CW.go ?_; first | refine CW.condT rfl ?_ | refine CW.condF rfl ?_ | refine CW.seqR ?_ | refine CW.seqD ?_ | refine CW.block ?_ | refine CW.region ?_ | refine CW.ret ?_ | refine CW.exit ?_ | refine CW.skip ?_) | refine OpsW.nil ?_)
  (first | refine CW.seqDraw mo H [0, 0, 2, 0, 0, 24, 56, 1, 129, 385, 1023, 2047] fun w H => ?_ | refine CW.draw mo H [0, 0, 2, 0, 0, 24, 56, 1, 129, 385, 1023, 2047] fun w H => ?_); refine AnyW.seg (m := 11) (by kernel_rfl) (by kernel_rfl) H rfl ?_
  iterate 2 (refine .cons rfl (fun τ w H => .st rfl (.nil ⟨rfl, H⟩)) ?_)
  refine .cons rfl (fun τ w H => .stV rfl (congrArg (Value.int .i64) (show IntKind.wrap .i64 (2 + 1) = 3 by decide +kernel)) (.nil ⟨rfl, H⟩)) ?_
  iterate 2 (refine .cons rfl (fun τ w H => .st rfl (.nil ⟨rfl, H⟩)) ?_)
  refine .cons rfl (fun τ w H => .ixA (n := 2) rfl rfl rfl rfl rfl rfl rfl (by decide +kernel) rfl (.nil ⟨rfl, H⟩)) ?_
  refine .cons rfl (fun τ w H => .ld H p1 rfl rfl rfl rfl (note_wl o w0 w1 w2 k0 k1 k2).2.2 rfl (.nil ⟨rfl, H⟩)) ?_
  iterate 3 (refine .cons rfl (fun τ w H => .st rfl (.nil ⟨rfl, H⟩)) ?_)
  refine .cons rfl (fun τ w H => .ixA (n := 3) rfl rfl rfl rfl rfl rfl rfl (by decide +kernel) rfl (.nil ⟨rfl, H⟩)) ?_
  refine DrawP.nil fun w H => ?_
  refine AnyW.one (by kernel_rfl) (by kernel_rfl) rfl ?_
  refine OpsW.str H p0 rfl rfl rfl rfl rfl rfl (by rw [eD_len]; decide) fun w H => ?_
  rw [eD_stR (n := 3) (by decide) rfl] at H
  refine OpsW.nil ?_
  refine AnyW.done ?_
  repeat' (first | (refine OpsW.go ?_; first | refine OpsW.st rfl ?_) | (refine CW.go ?_; first | refine CW.condT rfl ?_ | refine CW.condF rfl ?_ | refine CW.seqR ?_ | refine CW.seqD ?_ | refine CW.block ?_ | refine CW.region ?_ | refine CW.ret ?_ | refine CW.exit ?_ | refine CW.skip ?_) | refine OpsW.nil ?_)
  (first | refine CW.seqDraw mo H [0, 0, 2, 0, 0, 24, 56, 1, 129, 511, 1023] fun w H => ?_ | refine CW.draw mo H [0, 0, 2, 0, 0, 24, 56, 1, 129, 511, 1023] fun w H => ?_); refine AnyW.seg (m := 10) (by kernel_rfl) (by kernel_rfl) H rfl ?_
  iterate 2 (refine .cons rfl (fun τ w H => .st rfl (.nil ⟨rfl, H⟩)) ?_)
  refine .cons rfl (fun τ w H => .stV rfl (congrArg (Value.int .i64) (show IntKind.wrap .i64 (12 + 2) = 14 by decide +kernel)) (.nil ⟨rfl, H⟩)) ?_
  iterate 2 (refine .cons rfl (fun τ w H => .st rfl (.nil ⟨rfl, H⟩)) ?_)
  refine .cons rfl (fun τ w H => .ixA (n := 2) rfl rfl rfl rfl rfl rfl rfl (by decide +kernel) rfl (.nil ⟨rfl, H⟩)) ?_
  refine .cons rfl (fun τ w H => .ldA H p1 rfl rfl rfl (note_kl o w0 w1 w2 k0 k1 k2).2.2 rfl (.nil ⟨rfl, H⟩)) ?_
  iterate 2 (refine .cons rfl (fun τ w H => .st rfl (.nil ⟨rfl, H⟩)) ?_)
  refine .cons rfl (fun τ w H => .ixA (n := 14) rfl rfl rfl rfl rfl rfl rfl (by decide +kernel) rfl (.nil ⟨rfl, H⟩)) ?_
  refine DrawP.nil fun w H => ?_
  refine AnyW.one (by kernel_rfl) (by kernel_rfl) rfl ?_
  refine OpsW.strF (vs := k2.l) H p0 rfl rfl rfl rfl rfl rfl (by rw [eD_len]; show _ + 5 ≤ 108; decide) fun w H => ?_
  rw [eD_stK (n := 14) (by decide) rfl] at H
  refine OpsW.nil ?_
  refine AnyW.done ?_
  repeat' (first | (refine OpsW.go ?_; first | refine OpsW.st rfl ?_) | (refine CW.go ?_; first | refine CW.condT rfl ?_ | refine CW.condF rfl ?_ | refine CW.seqR ?_ | refine CW.seqD ?_ | refine CW.block ?_ | refine CW.region ?_ | refine CW.ret ?_ | refine CW.exit ?_ | refine CW.skip ?_) | refine OpsW.nil ?_)
  rw [show IntKind.wrap .i64 (2 + 1) = 3 by decide +kernel]
  repeat' (first | (refine OpsW.go ?_; first | refine OpsW.st rfl ?_) | (refine CW.go ?_; first | refine CW.condT rfl ?_ | refine CW.condF rfl ?_ | refine CW.seqR ?_ | refine CW.seqD ?_ | refine CW.block ?_ | refine CW.region ?_ | refine CW.ret ?_ | refine CW.exit ?_ | refine CW.skip ?_) | refine OpsW.nil ?_)
  refine OpsW.ixA (n := 4) rfl rfl rfl rfl rfl rfl rfl (by decide +kernel) rfl ?_
  refine OpsW.str H p0 rfl rfl rfl rfl rfl rfl (by rw [eD_len]; decide) fun w H => ?_
  rw [eD_stR (n := 4) (by decide) rfl] at H
  repeat' (first | (refine OpsW.go ?_; first | refine OpsW.st rfl ?_) | (refine CW.go ?_; first | refine CW.condT rfl ?_ | refine CW.condF rfl ?_ | refine CW.seqR ?_ | refine CW.seqD ?_ | refine CW.block ?_ | refine CW.region ?_ | refine CW.ret ?_ | refine CW.exit ?_ | refine CW.skip ?_) | refine OpsW.nil ?_)
  (first | refine CW.seqDraw mo H [0, 0, 1, 5, 15, 31] fun w H => ?_ | refine CW.draw mo H [0, 0, 1, 5, 15, 31] fun w H => ?_); refine AnyW.seg (m := 5) (by kernel_rfl) (by kernel_rfl) H rfl ?_
  refine .cons rfl (fun τ w H => .st rfl (.nil ⟨rfl, H⟩)) ?_
  refine .cons rfl (fun τ w H => .ldA H p2 rfl rfl rfl (by rfl) rfl (.nil ⟨rfl, H⟩)) ?_
  iterate 2 (refine .cons rfl (fun τ w H => .st rfl (.nil ⟨rfl, H⟩)) ?_)
  refine .cons rfl (fun τ w H => .ixA (n := 15) rfl rfl rfl rfl rfl rfl rfl (by decide +kernel) rfl (.nil ⟨rfl, H⟩)) ?_
  refine DrawP.nil fun w H => ?_
  refine AnyW.one (by kernel_rfl) (by kernel_rfl) rfl ?_
  refine OpsW.strF (vs := k.l) H p0 rfl rfl rfl rfl rfl rfl (by rw [eD_len]; show _ + 5 ≤ 108; decide) fun w H => ?_
  rw [eD_stK (n := 15) (by decide) rfl] at H
  refine OpsW.nil ?_
  refine AnyW.done ?_
  repeat' (first | (refine OpsW.go ?_; first | refine OpsW.st rfl ?_) | (refine CW.go ?_; first | refine CW.condT rfl ?_ | refine CW.condF rfl ?_ | refine CW.seqR ?_ | refine CW.seqD ?_ | refine CW.block ?_ | refine CW.region ?_ | refine CW.ret ?_ | refine CW.exit ?_ | refine CW.skip ?_) | refine OpsW.nil ?_)
  exact ret0 ((((H.perm p1).drop).perm p1).drop)
end
end Go.Proofs.YtnfefbhjdncccaaDoor.X
