/- The law CpuKeys of chapter 17, walked; conditions: none. -/
import Derived.Test.YtnfefbhjdncccaaDoorP17d
import Derived.Test.YtnfefbhjdncccaaDoorL17j
namespace Go.Proofs.YtnfefbhjdncccaaDoor.X
open Go Go.Proofs
set_option linter.unusedSimpArgs false
set_option linter.unusedVariables false
def i0K (a b : Nat) : Ins := ⟨8, a, b, 0, 0⟩
def i1K (a : Nat) : Ins := ⟨10, 1, a, 0, 0⟩
def i2K (b : Nat) : Ins := ⟨9, b, 2, 0, 0⟩
def i3K (b : Nat) : Ins := ⟨10, 3, b, 0, 0⟩
def lK (a b : Nat) : List Ins := [i0K a b, i1K a, i2K b, i3K b]
def wK (a b : Nat) : List Int := (lK a b).map Ins.w
theorem i0K_ec : ∀ a : Nat, a < 16 → ∀ b : Nat, b < 16 → (i0K a b).ec = 0 := by decide +kernel
theorem i1K_ec : ∀ a : Nat, a < 16 → (i1K a).ec = 0 := by decide +kernel
theorem i2K_ec : ∀ a : Nat, a < 16 → (i2K a).ec = 0 := by decide +kernel
theorem i3K_ec : ∀ a : Nat, a < 16 → (i3K a).ec = 0 := by decide +kernel
theorem lK_ec (a b : Nat) (ha : a < 16) (hb : b < 16) : ∀ i ∈ lK a b, i.ec = 0 := fun i hi => by
  rcases List.mem_cons.1 hi with rfl | hi
  · exact i0K_ec a ha b hb
  rcases List.mem_cons.1 hi with rfl | hi
  · exact i1K_ec a ha
  rcases List.mem_cons.1 hi with rfl | hi
  · exact i2K_ec b hb
  rcases List.mem_cons.1 hi with rfl | hi
  · exact i3K_ec b hb
  · cases hi
theorem wK_rng (a b : Nat) (ha : a < 16) (hb : b < 16) : ∀ n ∈ wK a b, 0 ≤ n ∧ n < 4294967296 := fun n hn => by
  obtain ⟨i, hi, rfl⟩ := List.mem_map.1 hn
  exact w_rng (ec_rng (lK_ec a b ha hb i hi))
theorem gK_rng (a b : Nat) (ha : a < 16) (hb : b < 16) (p c : Nat) : 0 ≤ g17 (wK a b) p c ∧ g17 (wK a b) p c < 4294967296 := by
  have h := s17_m (wK a b) (wK_rng a b ha hb) 0 (by decide)
  exact ⟨h.w0 p c, h.w1 p c⟩
/-- A step at a place of the first page. -/
theorem stepAt {l : List Int} {D D' : Dm} {i : Ins} {q : Nat} (hM : D.mem = k17) (hp : D.pc = q) (hq : q < 32) (hl : l.getD q 0 = i.w) (hi : i.ec = 0) (hd : doP (t17 (g17 l)) (D.setPC ((q + 1 : Nat) : Int)) i = (Ev.of 0, D', t17 (g17 l))) :
    stepP (t17 (g17 l)) D = (Ev.of 0, D', t17 (g17 l)) := by
  have hl2 : (t17 (g17 l)).load D.mem D.pc = (i.w, 0) := by
    rw [hM, hp]
    have := t17_load (g17 l) 0 q (by omega)
    rw [show g17 l (q / 32) (q % 32) = i.w by
      rw [show q / 32 = 0 by omega, show q % 32 = q by omega]; exact hl] at this
    exact this
  rw [stepP_ok hl2 hi, hp, show ((q : Int) + 1) % 4294967296 = ((q + 1 : Nat) : Int) by omega, hd]
  rfl
theorem doP_8 (s : St) (d : Dm) (a b : Nat) : doP s d ⟨8, a, b, 0, 0⟩ = (Ev.of 0, d.setK a (d.k b), s) := by simp [doP]
theorem doP_9 (s : St) (d : Dm) (a b : Nat) : doP s d ⟨9, a, b, 0, 0⟩ = (Ev.of 0, d.setK a ⟨1, 0, 0, 0, d.r b⟩, s) := by simp [doP]
theorem doP_10 (s : St) (d : Dm) (a b : Nat) : doP s d ⟨10, a, b, 0, 0⟩ = (Ev.of 0, d.setR a (if (d.k b).kind = 1 then (d.k b).data else 0), s) := by simp [doP]
def D0K (k : K) (b : Nat) (v : Int) : Dm := (((dmM k17).setK b k).setR 2 v).setR 1 9
def wantK (k : K) : Int := if k.kind = 1 then k.data else 0
def D1K (k : K) (a b : Nat) (v : Int) : Dm := ((D0K k b v).setPC 1).setK a k
def D2K (k : K) (a b : Nat) (v : Int) : Dm := ((D1K k a b v).setPC 2).setR 1 (wantK k)
def D3K (k : K) (a b : Nat) (v : Int) : Dm := ((D2K k a b v).setPC 3).setK b ⟨1, 0, 0, 0, v⟩
def D4K (k : K) (a b : Nat) (v : Int) : Dm := ((D3K k a b v).setPC 4).setR 3 v
theorem setK_at (d : Dm) (n : Nat) (x : K) : (d.setK n x).k n = x := if_pos rfl
theorem s1K (k : K) (a b : Nat) (v : Int) (ha : a < 16) (hb : b < 16) : stepP (t17 (g17 (wK a b))) (D0K k b v) = (Ev.of 0, D1K k a b v, t17 (g17 (wK a b))) := by
  refine stepAt (q := 0) rfl rfl (by decide) rfl (i0K_ec a ha b hb) ?_
  have : ((D0K k b v).setPC ((0 + 1 : Nat) : Int)).k b = k := setK_at (dmM k17) b k
  refine (doP_8 _ _ a b).trans ?_
  rw [this]; rfl
theorem s2K (k : K) (a b : Nat) (v : Int) (ha : a < 16) : stepP (t17 (g17 (wK a b))) (D1K k a b v) = (Ev.of 0, D2K k a b v, t17 (g17 (wK a b))) := by
  refine stepAt (q := 1) rfl rfl (by decide) rfl (i1K_ec a ha) ?_
  have : ((D1K k a b v).setPC ((1 + 1 : Nat) : Int)).k a = k := setK_at ((D0K k b v).setPC 1) a k
  refine (doP_10 _ _ 1 a).trans ?_
  rw [this]; rfl
theorem s3K (k : K) (a b : Nat) (v : Int) (hb : b < 16) : stepP (t17 (g17 (wK a b))) (D2K k a b v) = (Ev.of 0, D3K k a b v, t17 (g17 (wK a b))) := by
  refine stepAt (q := 2) rfl rfl (by decide) rfl (i2K_ec b hb) ?_
  exact doP_9 _ _ b 2
theorem s4K (k : K) (a b : Nat) (v : Int) (hb : b < 16) : stepP (t17 (g17 (wK a b))) (D3K k a b v) = (Ev.of 0, D4K k a b v, t17 (g17 (wK a b))) := by
  refine stepAt (q := 3) rfl rfl (by decide) rfl (i3K_ec b hb) ?_
  have : ((D3K k a b v).setPC ((3 + 1 : Nat) : Int)).k b = ⟨1, 0, 0, 0, v⟩ := setK_at ((D2K k a b v).setPC 3) b _
  refine (doP_10 _ _ 3 b).trans ?_
  rw [this]; rfl
theorem Dm.ldKf {d : Dm} {n o off : Nat} (hn : n < 16) (ho : o < 5) (e : off = 11 + n * 5 + o) : d.c[off]? = (d.k n).l[o]? := by
  subst e
  rw [Nat.add_assoc, Dm.keys_at d (n * 5 + o) (by omega)]
  have := fl_get K.l 5 (fun _ => rfl) (X.mk 16 d.k) [] n o (by rw [mk_length]; exact hn) ho
  rw [List.append_nil, mk_get] at this
  exact this
theorem D0K_ok {k : K} {b : Nat} {v : Int} (h0 : 0 ≤ k.data) (h1 : k.data < 4294967296) (hv0 : 0 ≤ v) (hv1 : v < 4294967296) : DOk (D0K k b v) := (((dmM_ok (by decide)).setK h0 h1).setR hv0 hv1).setR (by decide) (by decide)
theorem wantK_rng {k : K} (h0 : 0 ≤ k.data) (h1 : k.data < 4294967296) : 0 ≤ wantK k ∧ wantK k < 4294967296 := by
  unfold wantK; split
  · exact ⟨h0, h1⟩
  · decide
theorem D1K_ok {k : K} {a b : Nat} {v : Int} (h0 : 0 ≤ k.data) (h1 : k.data < 4294967296) (hv0 : 0 ≤ v) (hv1 : v < 4294967296) : DOk (D1K k a b v) := ((D0K_ok h0 h1 hv0 hv1).setPC (by decide) (by decide)).setK h0 h1
theorem D2K_ok {k : K} {a b : Nat} {v : Int} (h0 : 0 ≤ k.data) (h1 : k.data < 4294967296) (hv0 : 0 ≤ v) (hv1 : v < 4294967296) : DOk (D2K k a b v) := ((D1K_ok h0 h1 hv0 hv1).setPC (by decide) (by decide)).setR (wantK_rng h0 h1).1 (wantK_rng h0 h1).2
theorem D3K_ok {k : K} {a b : Nat} {v : Int} (h0 : 0 ≤ k.data) (h1 : k.data < 4294967296) (hv0 : 0 ≤ v) (hv1 : v < 4294967296) : DOk (D3K k a b v) := ((D2K_ok h0 h1 hv0 hv1).setPC (by decide) (by decide)).setK hv0 hv1
theorem OpsW.bslF {C : Cfg} {N : Nat} {gd : List (Option Nat)} {r : List Oper} {σ : Env} {w z : World} {Q : Env → World → Prop} {As : List HP} {d t : Nat} {ty : TypeId} {pos : String} {af : Array Edge} {g : Option (Nat × Bool)} {len : Nat} {parts : Array (Nat × Operand)} {l : List Value} {sz : Nat} {ps : List (Nat × Value)} (H : Sat z w As) (hg : wan gd σ g = some true) (hk : Nat.beq (C.T.kind.getD t 0) 4 = true) (he : Nat.blt 0 (C.T.kind.getD (C.T.elem.getD t 0) 0) = true)
    (hsz : C.T.size[C.T.elem.getD t 0]? = some sz) (hsz1 : (C.T.zero.getD (C.T.elem.getD t 0) []).length = sz) (hm : Nat.ble (len * sz) 1000 = true) (hp : mapP σ parts.toList = ps)
    (hf : fillK (fun i => some (i * sz, sz)) (repl len (C.T.zero.getD (C.T.elem.getD t 0) [])) ps = some (.agg l.toArray)) (hd : Nat.blt d N = true)
    (k : ∀ b w', Sat z w' (blk b (C.T.elem.getD t 0) l :: As) → OpsW C N gd r (upd σ d (.slice (some ⟨b, 0, none⟩) len len)) w' Q) : OpsW C N gd (⟨some d, .buildSlice t len parts, ty, pos, af, g⟩ :: r) σ w Q :=
  OpsW.bsl H hg hk he hsz hsz1 hm (hp ▸ hf) hd k
theorem ins4 (i0 i1 i2 i3 : Ins) : fillK (fun i => some (i * 5, 5)) (repl 4 (cf.T.zero.getD (cf.T.elem.getD 159 0) [])) [(0, i0.v), (1, i1.v), (2, i2.v), (3, i3.v)] = some (.agg ([i0, i1, i2, i3].flatMap Ins.l).toArray) := by kernel_rfl
theorem ins7 (i0 i1 i2 i3 i4 i5 i6 : Ins) : fillK (fun i => some (i * 5, 5)) (repl 7 (cf.T.zero.getD (cf.T.elem.getD 159 0) [])) [(0, i0.v), (1, i1.v), (2, i2.v), (3, i3.v), (4, i4.v), (5, i5.v), (6, i6.v)] = some (.agg ([i0, i1, i2, i3, i4, i5, i6].flatMap Ins.l).toArray) := by kernel_rfl
attribute [local irreducible] CW OpsW RetW Spec blk snap DrawP AnyW AnyM AnyN bits IntKind.wrap vec arena kds nds wds pgs eA nodesP pagesP cacheP wns mcP memP s17 t17 syP Dm.c Ev.l Ins.w K.same wantK D1K D2K D3K D4K D0K
set_option maxHeartbeats 4000000 in
set_option maxRecDepth 20000 in
theorem cpuKeys_ (W : World) (hEs : Errs W 237 [5, 1, 0, 2, 4]) (y : shKey17.T) (hy : shKey17.good W y) (ai : Int) (haw : (Lit.int .i64 ai).wf = true) (bi : Int) (hbw : (Lit.int .i64 bi).wf = true) (v : Int) (hvw : (Lit.int .u32 v).wf = true) :
    Spec cf 14 #[.agg (shKey17.cells y).toArray, .int .i64 ai, .int .i64 bi, .int .u32 v] W fun v w' => v = .bool true ∧ Sat W w' [snap W] := by
  have H := Sat.start W
  obtain ⟨ads, hE⟩ := errsC hEs
  obtain ⟨hk0, hk1⟩ := toK17_d hy
  obtain ⟨hv0, hv1⟩ := bu32 hvw
  rw [toK17_c y]
  generalize toK17 y = k at *
  refine enter (l := [.agg k.l.toArray, .int .i64 ai, .int .i64 bi, .int .u32 v]) Tryd.func14 rfl rfl rfl rfl rfl ?_
  repeat' (first | (refine OpsW.go ?_; first | refine OpsW.st rfl ?_ | refine OpsW.ld H (by (first | exact p0 | exact p1 | exact p2 | exact p3 | exact p4 | exact p5 | exact p6 | exact p7)) rfl rfl rfl rfl (by rfl) rfl ?_ | refine OpsW.ldA H (by (first | exact p0 | exact p1 | exact p2 | exact p3 | exact p4 | exact p5 | exact p6 | exact p7)) rfl rfl rfl (by rfl) rfl ?_ | refine OpsW.box H rfl rfl rfl fun _ _ H => ?_ | refine OpsW.alloc H rfl rfl rfl rfl fun _ _ H => ?_ | refine OpsW.str H (by (first | exact p0 | exact p1 | exact p2 | exact p3 | exact p4 | exact p5 | exact p6 | exact p7)) rfl rfl rfl rfl rfl rfl (by first | decide | (simp; done) | (simp; omega)) fun _ H => ?_ | refine OpsW.strA H (by (first | exact p0 | exact p1 | exact p2 | exact p3 | exact p4 | exact p5 | exact p6 | exact p7)) rfl rfl rfl rfl rfl rfl (by first | decide | (simp; done) | (simp; omega)) fun _ H => ?_) | (refine CW.go ?_; first | refine CW.condT rfl ?_ | refine CW.condF rfl ?_ | refine CW.seqR ?_ | refine CW.seqD ?_ | refine CW.block ?_ | refine CW.region ?_ | refine CW.ret ?_ | refine CW.exit ?_ | refine CW.skip ?_) | refine OpsW.nil ?_)
  refine OpsW.call rfl rfl rfl (first17_ H hE.tail) ?_
  rintro _ w ⟨rfl, H⟩
  rename_i bk0 _ _
  replace H : Sat W w (blk bk0 43 k.l :: [snap W]) := H
  repeat' (first | (refine OpsW.go ?_; first | refine OpsW.st rfl ?_ | refine OpsW.ld H (by (first | exact p0 | exact p1 | exact p2 | exact p3 | exact p4 | exact p5 | exact p6 | exact p7)) rfl rfl rfl rfl (by rfl) rfl ?_ | refine OpsW.ldA H (by (first | exact p0 | exact p1 | exact p2 | exact p3 | exact p4 | exact p5 | exact p6 | exact p7)) rfl rfl rfl (by rfl) rfl ?_ | refine OpsW.box H rfl rfl rfl fun _ _ H => ?_ | refine OpsW.alloc H rfl rfl rfl rfl fun _ _ H => ?_ | refine OpsW.str H (by (first | exact p0 | exact p1 | exact p2 | exact p3 | exact p4 | exact p5 | exact p6 | exact p7)) rfl rfl rfl rfl rfl rfl (by first | decide | (simp; done) | (simp; omega)) fun _ H => ?_ | refine OpsW.strA H (by (first | exact p0 | exact p1 | exact p2 | exact p3 | exact p4 | exact p5 | exact p6 | exact p7)) rfl rfl rfl rfl rfl rfl (by first | decide | (simp; done) | (simp; omega)) fun _ H => ?_) | (refine CW.go ?_; first | refine CW.condT rfl ?_ | refine CW.condF rfl ?_ | refine CW.seqR ?_ | refine CW.seqDc ?_ | refine CW.seqDb ?_ | refine CW.seqDl ?_ | refine CW.seqDs ?_ | refine CW.seqDk ?_ | refine CW.block ?_ | refine CW.region ?_ | refine CW.ret ?_ | refine CW.exit ?_ | refine CW.skip ?_) | refine OpsW.nil ?_)
  refine OpsW.call rfl rfl rfl (number_ _ _ _ H ai 16 (by decide) (by decide)) ?_
  rintro _ w ⟨rfl, H⟩
  obtain ⟨a, haa⟩ := Int.eq_ofNat_of_zero_le (Int.emod_nonneg ai (show (16 : Int) ≠ 0 by decide))
  have ha : a < 16 := by have := Int.emod_lt_of_pos ai (show (0 : Int) < 16 by decide); omega
  rw [haa]
  repeat' (first | (refine OpsW.go ?_; first | refine OpsW.st rfl ?_ | refine OpsW.ld H (by (first | exact p0 | exact p1 | exact p2 | exact p3 | exact p4 | exact p5 | exact p6 | exact p7)) rfl rfl rfl rfl (by rfl) rfl ?_ | refine OpsW.ldA H (by (first | exact p0 | exact p1 | exact p2 | exact p3 | exact p4 | exact p5 | exact p6 | exact p7)) rfl rfl rfl (by rfl) rfl ?_ | refine OpsW.box H rfl rfl rfl fun _ _ H => ?_ | refine OpsW.alloc H rfl rfl rfl rfl fun _ _ H => ?_ | refine OpsW.str H (by (first | exact p0 | exact p1 | exact p2 | exact p3 | exact p4 | exact p5 | exact p6 | exact p7)) rfl rfl rfl rfl rfl rfl (by first | decide | (simp; done) | (simp; omega)) fun _ H => ?_ | refine OpsW.strA H (by (first | exact p0 | exact p1 | exact p2 | exact p3 | exact p4 | exact p5 | exact p6 | exact p7)) rfl rfl rfl rfl rfl rfl (by first | decide | (simp; done) | (simp; omega)) fun _ H => ?_) | (refine CW.go ?_; first | refine CW.condT rfl ?_ | refine CW.condF rfl ?_ | refine CW.seqR ?_ | refine CW.seqDc ?_ | refine CW.seqDb ?_ | refine CW.seqDl ?_ | refine CW.seqDs ?_ | refine CW.seqDk ?_ | refine CW.block ?_ | refine CW.region ?_ | refine CW.ret ?_ | refine CW.exit ?_ | refine CW.skip ?_) | refine OpsW.nil ?_)
  refine OpsW.call rfl rfl rfl (number_ _ _ _ H bi 16 (by decide) (by decide)) ?_
  rintro _ w ⟨rfl, H⟩
  obtain ⟨b, hbb⟩ := Int.eq_ofNat_of_zero_le (Int.emod_nonneg bi (show (16 : Int) ≠ 0 by decide))
  have hb : b < 16 := by have := Int.emod_lt_of_pos bi (show (0 : Int) < 16 by decide); omega
  rw [hbb]
  repeat' (first | (refine OpsW.go ?_; first | refine OpsW.st rfl ?_ | refine OpsW.ld H (by (first | exact p0 | exact p1 | exact p2 | exact p3 | exact p4 | exact p5 | exact p6 | exact p7)) rfl rfl rfl rfl (by rfl) rfl ?_ | refine OpsW.ldA H (by (first | exact p0 | exact p1 | exact p2 | exact p3 | exact p4 | exact p5 | exact p6 | exact p7)) rfl rfl rfl (by rfl) rfl ?_ | refine OpsW.box H rfl rfl rfl fun _ _ H => ?_ | refine OpsW.alloc H rfl rfl rfl rfl fun _ _ H => ?_ | refine OpsW.str H (by (first | exact p0 | exact p1 | exact p2 | exact p3 | exact p4 | exact p5 | exact p6 | exact p7)) rfl rfl rfl rfl rfl rfl (by first | decide | (simp; done) | (simp; omega)) fun _ H => ?_ | refine OpsW.strA H (by (first | exact p0 | exact p1 | exact p2 | exact p3 | exact p4 | exact p5 | exact p6 | exact p7)) rfl rfl rfl rfl rfl rfl (by first | decide | (simp; done) | (simp; omega)) fun _ H => ?_) | (refine CW.go ?_; first | refine CW.condT rfl ?_ | refine CW.condF rfl ?_ | refine CW.seqR ?_ | refine CW.seqDc ?_ | refine CW.seqDb ?_ | refine CW.seqDl ?_ | refine CW.seqDs ?_ | refine CW.seqDk ?_ | refine CW.block ?_ | refine CW.region ?_ | refine CW.ret ?_ | refine CW.exit ?_ | refine CW.skip ?_) | refine OpsW.nil ?_)
  refine OpsW.bslF H rfl rfl rfl rfl rfl rfl rfl (ins4 (i0K a b) (i1K a) (i2K b) (i3K b)) rfl fun bw w H => ?_
  refine OpsW.call rfl rfl rfl (cwords_ (ads := ads) (l := lK a b) H hE.r.tail.tail hE.w.tail.tail (by show 4 ≤ 100; decide) (SlR.of_blk (r := []) rfl (Nat.le_refl 4)) (lK_ec a b ha hb)) ?_
  rintro _ w ⟨aw, capw, rfl, H⟩
  obtain ⟨T1, h1, s1, H⟩ := Sat.vopen H
  repeat' (first | (refine OpsW.go ?_; first | refine OpsW.st rfl ?_ | refine OpsW.ld H (by (first | exact p0 | exact p1 | exact p2 | exact p3 | exact p4 | exact p5 | exact p6 | exact p7)) rfl rfl rfl rfl (by rfl) rfl ?_ | refine OpsW.ldA H (by (first | exact p0 | exact p1 | exact p2 | exact p3 | exact p4 | exact p5 | exact p6 | exact p7)) rfl rfl rfl (by rfl) rfl ?_ | refine OpsW.box H rfl rfl rfl fun _ _ H => ?_ | refine OpsW.alloc H rfl rfl rfl rfl fun _ _ H => ?_ | refine OpsW.str H (by (first | exact p0 | exact p1 | exact p2 | exact p3 | exact p4 | exact p5 | exact p6 | exact p7)) rfl rfl rfl rfl rfl rfl (by first | decide | (simp; done) | (simp; omega)) fun _ H => ?_ | refine OpsW.strA H (by (first | exact p0 | exact p1 | exact p2 | exact p3 | exact p4 | exact p5 | exact p6 | exact p7)) rfl rfl rfl rfl rfl rfl (by first | decide | (simp; done) | (simp; omega)) fun _ H => ?_) | (refine CW.go ?_; first | refine CW.condT rfl ?_ | refine CW.condF rfl ?_ | refine CW.seqR ?_ | refine CW.seqDc ?_ | refine CW.seqDb ?_ | refine CW.seqDl ?_ | refine CW.seqDs ?_ | refine CW.seqDk ?_ | refine CW.block ?_ | refine CW.region ?_ | refine CW.ret ?_ | refine CW.exit ?_ | refine CW.skip ?_) | refine OpsW.nil ?_)
  refine OpsW.call rfl rfl rfl (made17_ H hE.tail.tail.tail _ (wK a b) (by show 4 ≤ 32; decide) (s1 _)) ?_
  rintro _ w ⟨bm, bx, rfl, H⟩
  rw [s17_g] at H
  repeat' (first | (refine OpsW.go ?_; first | refine OpsW.st rfl ?_ | refine OpsW.ld H (by (first | exact p0 | exact p1 | exact p2 | exact p3 | exact p4 | exact p5 | exact p6 | exact p7)) rfl rfl rfl rfl (by rfl) rfl ?_ | refine OpsW.ldA H (by (first | exact p0 | exact p1 | exact p2 | exact p3 | exact p4 | exact p5 | exact p6 | exact p7)) rfl rfl rfl (by rfl) rfl ?_ | refine OpsW.box H rfl rfl rfl fun _ _ H => ?_ | refine OpsW.alloc H rfl rfl rfl rfl fun _ _ H => ?_ | refine OpsW.str H (by (first | exact p0 | exact p1 | exact p2 | exact p3 | exact p4 | exact p5 | exact p6 | exact p7)) rfl rfl rfl rfl rfl rfl (by first | decide | (simp; done) | (simp; omega)) fun _ H => ?_ | refine OpsW.strA H (by (first | exact p0 | exact p1 | exact p2 | exact p3 | exact p4 | exact p5 | exact p6 | exact p7)) rfl rfl rfl rfl rfl rfl (by first | decide | (simp; done) | (simp; omega)) fun _ H => ?_) | (refine CW.go ?_; first | refine CW.condT rfl ?_ | refine CW.condF rfl ?_ | refine CW.seqR ?_ | refine CW.seqDc ?_ | refine CW.seqDb ?_ | refine CW.seqDl ?_ | refine CW.seqDs ?_ | refine CW.seqDk ?_ | refine CW.block ?_ | refine CW.region ?_ | refine CW.ret ?_ | refine CW.exit ?_ | refine CW.skip ?_) | refine OpsW.nil ?_)
  replace H := dmF (dmM k17) H (by with_unfolding_all rfl)
  rename_i bd _ _ _
  replace H : Sat W _ (blk bd 70 (dmM k17).c :: memP bm 4 (t17 (g17 (wK a b))) 0 :: blk bk0 43 k.l :: [snap W]) := (((((((H.perm p1).drop).perm p2).drop).perm p2).drop).perm p2).drop
  refine OpsW.ixA (n := b) rfl rfl rfl rfl rfl rfl rfl hb rfl ?_
  refine OpsW.strF (vs := k.l) H p0 rfl rfl rfl rfl rfl rfl (by rw [Dm.len]; show _ + 5 ≤ 107; omega) fun w H => ?_
  rw [Dm.stK hb (by omega)] at H
  repeat' (first | (refine OpsW.go ?_; first | refine OpsW.st rfl ?_ | refine OpsW.ld H (by (first | exact p0 | exact p1 | exact p2 | exact p3 | exact p4 | exact p5 | exact p6 | exact p7)) rfl rfl rfl rfl (by rfl) rfl ?_ | refine OpsW.ldA H (by (first | exact p0 | exact p1 | exact p2 | exact p3 | exact p4 | exact p5 | exact p6 | exact p7)) rfl rfl rfl (by rfl) rfl ?_ | refine OpsW.box H rfl rfl rfl fun _ _ H => ?_ | refine OpsW.alloc H rfl rfl rfl rfl fun _ _ H => ?_ | refine OpsW.str H (by (first | exact p0 | exact p1 | exact p2 | exact p3 | exact p4 | exact p5 | exact p6 | exact p7)) rfl rfl rfl rfl rfl rfl (by first | decide | (simp; done) | (simp; omega)) fun _ H => ?_ | refine OpsW.strA H (by (first | exact p0 | exact p1 | exact p2 | exact p3 | exact p4 | exact p5 | exact p6 | exact p7)) rfl rfl rfl rfl rfl rfl (by first | decide | (simp; done) | (simp; omega)) fun _ H => ?_) | (refine CW.go ?_; first | refine CW.condT rfl ?_ | refine CW.condF rfl ?_ | refine CW.seqR ?_ | refine CW.seqDc ?_ | refine CW.seqDb ?_ | refine CW.seqDl ?_ | refine CW.seqDs ?_ | refine CW.seqDk ?_ | refine CW.block ?_ | refine CW.region ?_ | refine CW.ret ?_ | refine CW.exit ?_ | refine CW.skip ?_) | refine OpsW.nil ?_)
  refine OpsW.ixA (n := 2) rfl rfl rfl rfl rfl rfl rfl (by decide +kernel) rfl ?_
  refine OpsW.str H p0 rfl rfl rfl rfl rfl rfl (by rw [Dm.len]; decide) fun w H => ?_
  replace H : Sat W w (blk bd 70 (((dmM k17).setK b k).c.set 2 (.int .u32 v)) :: _) := H
  rw [Dm.stR (by decide) rfl] at H
  repeat' (first | (refine OpsW.go ?_; first | refine OpsW.st rfl ?_ | refine OpsW.ld H (by (first | exact p0 | exact p1 | exact p2 | exact p3 | exact p4 | exact p5 | exact p6 | exact p7)) rfl rfl rfl rfl (by rfl) rfl ?_ | refine OpsW.ldA H (by (first | exact p0 | exact p1 | exact p2 | exact p3 | exact p4 | exact p5 | exact p6 | exact p7)) rfl rfl rfl (by rfl) rfl ?_ | refine OpsW.box H rfl rfl rfl fun _ _ H => ?_ | refine OpsW.alloc H rfl rfl rfl rfl fun _ _ H => ?_ | refine OpsW.str H (by (first | exact p0 | exact p1 | exact p2 | exact p3 | exact p4 | exact p5 | exact p6 | exact p7)) rfl rfl rfl rfl rfl rfl (by first | decide | (simp; done) | (simp; omega)) fun _ H => ?_ | refine OpsW.strA H (by (first | exact p0 | exact p1 | exact p2 | exact p3 | exact p4 | exact p5 | exact p6 | exact p7)) rfl rfl rfl rfl rfl rfl (by first | decide | (simp; done) | (simp; omega)) fun _ H => ?_) | (refine CW.go ?_; first | refine CW.condT rfl ?_ | refine CW.condF rfl ?_ | refine CW.seqR ?_ | refine CW.seqDc ?_ | refine CW.seqDb ?_ | refine CW.seqDl ?_ | refine CW.seqDs ?_ | refine CW.seqDk ?_ | refine CW.block ?_ | refine CW.region ?_ | refine CW.ret ?_ | refine CW.exit ?_ | refine CW.skip ?_) | refine OpsW.nil ?_)
  refine OpsW.ixA (n := 1) rfl rfl rfl rfl rfl rfl rfl (by decide +kernel) rfl ?_
  refine OpsW.str H p0 rfl rfl rfl rfl rfl rfl (by rw [Dm.len]; decide) fun w H => ?_
  replace H : Sat W w (blk bd 70 ((((dmM k17).setK b k).setR 2 v).c.set 1 (.int .u32 9)) :: _) := H
  rw [Dm.stR (by decide) rfl, show (((dmM k17).setK b k).setR 2 v).setR 1 9 = D0K k b v by unfold D0K; rfl] at H
  repeat' (first | (refine OpsW.go ?_; first | refine OpsW.st rfl ?_ | refine OpsW.ld H (by (first | exact p0 | exact p1 | exact p2 | exact p3 | exact p4 | exact p5 | exact p6 | exact p7)) rfl rfl rfl rfl (by rfl) rfl ?_ | refine OpsW.ldA H (by (first | exact p0 | exact p1 | exact p2 | exact p3 | exact p4 | exact p5 | exact p6 | exact p7)) rfl rfl rfl (by rfl) rfl ?_ | refine OpsW.box H rfl rfl rfl fun _ _ H => ?_ | refine OpsW.alloc H rfl rfl rfl rfl fun _ _ H => ?_ | refine OpsW.str H (by (first | exact p0 | exact p1 | exact p2 | exact p3 | exact p4 | exact p5 | exact p6 | exact p7)) rfl rfl rfl rfl rfl rfl (by first | decide | (simp; done) | (simp; omega)) fun _ H => ?_ | refine OpsW.strA H (by (first | exact p0 | exact p1 | exact p2 | exact p3 | exact p4 | exact p5 | exact p6 | exact p7)) rfl rfl rfl rfl rfl rfl (by first | decide | (simp; done) | (simp; omega)) fun _ H => ?_) | (refine CW.go ?_; first | refine CW.condT rfl ?_ | refine CW.condF rfl ?_ | refine CW.seqR ?_ | refine CW.seqDc ?_ | refine CW.seqDb ?_ | refine CW.seqDl ?_ | refine CW.seqDs ?_ | refine CW.seqDk ?_ | refine CW.block ?_ | refine CW.region ?_ | refine CW.ret ?_ | refine CW.exit ?_ | refine CW.skip ?_) | refine OpsW.nil ?_)
  have hst := step_ H (t17_m (gK_rng a b ha hb) (hb := 0) (by decide)) (by decide) (D0K_ok hk0 hk1 hv0 hv1) hE.r.tail hE.w.tail
  rw [s1K k a b v ha hb] at hst
  dsimp only at hst
  refine OpsW.call rfl rfl rfl hst ?_
  rintro _ w ⟨rfl, H⟩
  clear hst
  replace H := H.perm (List.Perm.swap _ _ _)
  repeat' (first | (refine OpsW.go ?_; first | refine OpsW.st rfl ?_ | refine OpsW.ld H (by (first | exact p0 | exact p1 | exact p2 | exact p3 | exact p4 | exact p5 | exact p6 | exact p7)) rfl rfl rfl rfl (by rfl) rfl ?_ | refine OpsW.ldA H (by (first | exact p0 | exact p1 | exact p2 | exact p3 | exact p4 | exact p5 | exact p6 | exact p7)) rfl rfl rfl (by rfl) rfl ?_ | refine OpsW.box H rfl rfl rfl fun _ _ H => ?_ | refine OpsW.alloc H rfl rfl rfl rfl fun _ _ H => ?_ | refine OpsW.str H (by (first | exact p0 | exact p1 | exact p2 | exact p3 | exact p4 | exact p5 | exact p6 | exact p7)) rfl rfl rfl rfl rfl rfl (by first | decide | (simp; done) | (simp; omega)) fun _ H => ?_ | refine OpsW.strA H (by (first | exact p0 | exact p1 | exact p2 | exact p3 | exact p4 | exact p5 | exact p6 | exact p7)) rfl rfl rfl rfl rfl rfl (by first | decide | (simp; done) | (simp; omega)) fun _ H => ?_) | (refine CW.go ?_; first | refine CW.condT rfl ?_ | refine CW.condF rfl ?_ | refine CW.seqR ?_ | refine CW.seqDc ?_ | refine CW.seqDb ?_ | refine CW.seqDl ?_ | refine CW.seqDs ?_ | refine CW.seqDk ?_ | refine CW.block ?_ | refine CW.region ?_ | refine CW.ret ?_ | refine CW.exit ?_ | refine CW.skip ?_) | refine OpsW.nil ?_)
  have hst := step_ H (t17_m (gK_rng a b ha hb) (hb := 2) (by decide)) (by decide) (D1K_ok hk0 hk1 hv0 hv1) hE.r.tail hE.w.tail
  rw [s2K k a b v ha] at hst
  dsimp only at hst
  refine OpsW.call rfl rfl rfl hst ?_
  rintro _ w ⟨rfl, H⟩
  clear hst
  replace H := H.perm (List.Perm.swap _ _ _)
  have hka : (D2K k a b v).k a = k := by unfold D2K D1K; exact setK_at ((D0K k b v).setPC 1) a k
  have hr1 : (D2K k a b v).c[0 + 1 * 1]? = some (.int .u32 (wantK k)) := by
    rw [Dm.ldR (n := 1) (by decide) rfl]; unfold D2K; rfl
  have hK : ∀ {w : World} {As : List HP}, Sat W w As → Spec cf 36 #[((D2K k a b v).k a).v, k.v] w fun e w' => e = .bool true ∧ Sat W w' As := fun {w As} H => by
    have := sameKey _ _ _ H ((D2K k a b v).k a) k
    rw [(K.same_iff _ _).2 hka] at this; exact this
  repeat' (first | (refine OpsW.go ?_; first | refine OpsW.st rfl ?_ | refine OpsW.ld H (by (first | exact p0 | exact p1 | exact p2 | exact p3 | exact p4 | exact p5 | exact p6 | exact p7)) rfl rfl rfl rfl (by rfl) rfl ?_ | refine OpsW.ldA H (by (first | exact p0 | exact p1 | exact p2 | exact p3 | exact p4 | exact p5 | exact p6 | exact p7)) rfl rfl rfl (by rfl) rfl ?_ | refine OpsW.box H rfl rfl rfl fun _ _ H => ?_ | refine OpsW.alloc H rfl rfl rfl rfl fun _ _ H => ?_ | refine OpsW.str H (by (first | exact p0 | exact p1 | exact p2 | exact p3 | exact p4 | exact p5 | exact p6 | exact p7)) rfl rfl rfl rfl rfl rfl (by first | decide | (simp; done) | (simp; omega)) fun _ H => ?_ | refine OpsW.strA H (by (first | exact p0 | exact p1 | exact p2 | exact p3 | exact p4 | exact p5 | exact p6 | exact p7)) rfl rfl rfl rfl rfl rfl (by first | decide | (simp; done) | (simp; omega)) fun _ H => ?_) | (refine CW.go ?_; first | refine CW.condT rfl ?_ | refine CW.condF rfl ?_ | refine CW.seqR ?_ | refine CW.seqDc ?_ | refine CW.seqDb ?_ | refine CW.seqDl ?_ | refine CW.seqDs ?_ | refine CW.seqDk ?_ | refine CW.block ?_ | refine CW.region ?_ | refine CW.ret ?_ | refine CW.exit ?_ | refine CW.skip ?_) | refine OpsW.nil ?_)
  (first | refine CW.seqDraw mo H [0, 0, 3, 7, 0, 31, 63] fun w H => ?_ | refine CW.draw mo H [0, 0, 3, 7, 0, 31, 63] fun w H => ?_); refine AnyW.seg (m := 7) (by kernel_rfl) (by kernel_rfl) H rfl ?_
  refine DrawP.cons rfl (fun τ w H => OpsW.st rfl (OpsW.nil ⟨rfl, H⟩)) ?_
  refine DrawP.cons rfl (fun τ w H => OpsW.st rfl (OpsW.nil ⟨rfl, H⟩)) ?_
  refine DrawP.cons rfl (fun τ w H => OpsW.ixA (n := a) rfl rfl rfl rfl rfl rfl rfl ha rfl (OpsW.nil ⟨rfl, H⟩)) ?_
  refine DrawP.cons rfl (fun τ w H => OpsW.ldA H p0 rfl rfl rfl (Dm.ldK ha (by omega)) rfl (OpsW.nil ⟨rfl, H⟩)) ?_
  refine DrawP.cons rfl (fun τ w H => OpsW.ldA H p2 rfl rfl rfl (by rfl) rfl (OpsW.nil ⟨rfl, H⟩)) ?_
  refine DrawP.cons rfl (fun τ w H => OpsW.call rfl rfl rfl (hK H) fun _ w h => by obtain ⟨rfl, H⟩ := h; exact OpsW.nil ⟨rfl, H⟩) ?_
  refine DrawP.cons rfl (fun τ w H => OpsW.st rfl (OpsW.nil ⟨rfl, H⟩)) ?_
  refine DrawP.nil fun w H => ?_
  refine AnyW.done ?_
  repeat' (first | (refine OpsW.go ?_; first | refine OpsW.st rfl ?_ | refine OpsW.ld H (by (first | exact p0 | exact p1 | exact p2 | exact p3 | exact p4 | exact p5 | exact p6 | exact p7)) rfl rfl rfl rfl (by rfl) rfl ?_ | refine OpsW.ldA H (by (first | exact p0 | exact p1 | exact p2 | exact p3 | exact p4 | exact p5 | exact p6 | exact p7)) rfl rfl rfl (by rfl) rfl ?_ | refine OpsW.box H rfl rfl rfl fun _ _ H => ?_ | refine OpsW.alloc H rfl rfl rfl rfl fun _ _ H => ?_ | refine OpsW.str H (by (first | exact p0 | exact p1 | exact p2 | exact p3 | exact p4 | exact p5 | exact p6 | exact p7)) rfl rfl rfl rfl rfl rfl (by first | decide | (simp; done) | (simp; omega)) fun _ H => ?_ | refine OpsW.strA H (by (first | exact p0 | exact p1 | exact p2 | exact p3 | exact p4 | exact p5 | exact p6 | exact p7)) rfl rfl rfl rfl rfl rfl (by first | decide | (simp; done) | (simp; omega)) fun _ H => ?_) | (refine CW.go ?_; first | refine CW.condT rfl ?_ | refine CW.condF rfl ?_ | refine CW.seqR ?_ | refine CW.seqDb ?_ | refine CW.seqDl ?_ | refine CW.seqDk ?_ | refine CW.block ?_ | refine CW.region ?_ | refine CW.ret ?_ | refine CW.exit ?_ | refine CW.skip ?_) | refine OpsW.nil ?_)
  refine CW.join (X := Unit) (fun j => Nat.beq j 16 || Nat.ble 75 j) (fun _ => [(16, .int .u32 (wantK k))]) (fun _ w' => w' = w) ?_ ?_
  · repeat' (first | (refine OpsW.go ?_; first | refine OpsW.st rfl ?_ | refine OpsW.ld H (by (first | exact p0 | exact p1 | exact p2 | exact p3 | exact p4 | exact p5 | exact p6 | exact p7)) rfl rfl rfl rfl (by rfl) rfl ?_ | refine OpsW.ldA H (by (first | exact p0 | exact p1 | exact p2 | exact p3 | exact p4 | exact p5 | exact p6 | exact p7)) rfl rfl rfl (by rfl) rfl ?_ | refine OpsW.box H rfl rfl rfl fun _ _ H => ?_ | refine OpsW.alloc H rfl rfl rfl rfl fun _ _ H => ?_ | refine OpsW.str H (by (first | exact p0 | exact p1 | exact p2 | exact p3 | exact p4 | exact p5 | exact p6 | exact p7)) rfl rfl rfl rfl rfl rfl (by first | decide | (simp; done) | (simp; omega)) fun _ H => ?_ | refine OpsW.strA H (by (first | exact p0 | exact p1 | exact p2 | exact p3 | exact p4 | exact p5 | exact p6 | exact p7)) rfl rfl rfl rfl rfl rfl (by first | decide | (simp; done) | (simp; omega)) fun _ H => ?_) | (refine CW.go ?_; first | refine CW.condT rfl ?_ | refine CW.condF rfl ?_ | refine CW.seqR ?_ | refine CW.seqDc ?_ | refine CW.seqDb ?_ | refine CW.seqDl ?_ | refine CW.seqDs ?_ | refine CW.seqDk ?_ | refine CW.block ?_ | refine CW.region ?_ | refine CW.ret ?_ | refine CW.exit ?_ | refine CW.skip ?_) | refine OpsW.nil ?_)
    unfold wantK
    by_cases hk : k.kind = 1
    · rw [if_pos hk]
      refine CW.cond rfl (fun _ => ?_) (fun h => absurd h (by simp [hk]))
      repeat' (first | (refine OpsW.go ?_; first | refine OpsW.st rfl ?_ | refine OpsW.ld H (by (first | exact p0 | exact p1 | exact p2 | exact p3 | exact p4 | exact p5 | exact p6 | exact p7)) rfl rfl rfl rfl (by rfl) rfl ?_ | refine OpsW.ldA H (by (first | exact p0 | exact p1 | exact p2 | exact p3 | exact p4 | exact p5 | exact p6 | exact p7)) rfl rfl rfl (by rfl) rfl ?_ | refine OpsW.box H rfl rfl rfl fun _ _ H => ?_ | refine OpsW.alloc H rfl rfl rfl rfl fun _ _ H => ?_ | refine OpsW.str H (by (first | exact p0 | exact p1 | exact p2 | exact p3 | exact p4 | exact p5 | exact p6 | exact p7)) rfl rfl rfl rfl rfl rfl (by first | decide | (simp; done) | (simp; omega)) fun _ H => ?_ | refine OpsW.strA H (by (first | exact p0 | exact p1 | exact p2 | exact p3 | exact p4 | exact p5 | exact p6 | exact p7)) rfl rfl rfl rfl rfl rfl (by first | decide | (simp; done) | (simp; omega)) fun _ H => ?_) | (refine CW.go ?_; first | refine CW.condT rfl ?_ | refine CW.condF rfl ?_ | refine CW.seqR ?_ | refine CW.seqDc ?_ | refine CW.seqDb ?_ | refine CW.seqDl ?_ | refine CW.seqDs ?_ | refine CW.seqDk ?_ | refine CW.block ?_ | refine CW.region ?_ | refine CW.ret ?_ | refine CW.exit ?_ | refine CW.skip ?_) | refine OpsW.nil ?_)
      exact ⟨(), (by (repeat (first | (with_reducible exact Agree.refl _ _) | (with_reducible refine Agree.trim (by assumption) ?_) | refine Agree.upd ?_ rfl | exact Agree.mix' | refine Agree.mixL ?_ (fun j h => by simp only [Bool.or_eq_true, Bool.and_eq_true, Nat.beq_eq, Nat.ble_eq] at h ⊢; omega) rfl))), ⟨rfl, trivial⟩, rfl⟩
    · rw [if_neg hk]
      refine CW.cond rfl (fun h => absurd h (by simp [hk])) (fun _ => ?_)
      repeat' (first | (refine OpsW.go ?_; first | refine OpsW.st rfl ?_ | refine OpsW.ld H (by (first | exact p0 | exact p1 | exact p2 | exact p3 | exact p4 | exact p5 | exact p6 | exact p7)) rfl rfl rfl rfl (by rfl) rfl ?_ | refine OpsW.ldA H (by (first | exact p0 | exact p1 | exact p2 | exact p3 | exact p4 | exact p5 | exact p6 | exact p7)) rfl rfl rfl (by rfl) rfl ?_ | refine OpsW.box H rfl rfl rfl fun _ _ H => ?_ | refine OpsW.alloc H rfl rfl rfl rfl fun _ _ H => ?_ | refine OpsW.str H (by (first | exact p0 | exact p1 | exact p2 | exact p3 | exact p4 | exact p5 | exact p6 | exact p7)) rfl rfl rfl rfl rfl rfl (by first | decide | (simp; done) | (simp; omega)) fun _ H => ?_ | refine OpsW.strA H (by (first | exact p0 | exact p1 | exact p2 | exact p3 | exact p4 | exact p5 | exact p6 | exact p7)) rfl rfl rfl rfl rfl rfl (by first | decide | (simp; done) | (simp; omega)) fun _ H => ?_) | (refine CW.go ?_; first | refine CW.condT rfl ?_ | refine CW.condF rfl ?_ | refine CW.seqR ?_ | refine CW.seqDc ?_ | refine CW.seqDb ?_ | refine CW.seqDl ?_ | refine CW.seqDs ?_ | refine CW.seqDk ?_ | refine CW.block ?_ | refine CW.region ?_ | refine CW.ret ?_ | refine CW.exit ?_ | refine CW.skip ?_) | refine OpsW.nil ?_)
      exact ⟨(), (by (repeat (first | (with_reducible exact Agree.refl _ _) | (with_reducible refine Agree.trim (by assumption) ?_) | refine Agree.upd ?_ rfl | exact Agree.mix' | refine Agree.mixL ?_ (fun j h => by simp only [Bool.or_eq_true, Bool.and_eq_true, Nat.beq_eq, Nat.ble_eq] at h ⊢; omega) rfl))), ⟨rfl, trivial⟩, rfl⟩
  rintro _ τ2 w2 rfl
  repeat' (first | (refine OpsW.go ?_; first | refine OpsW.st rfl ?_ | refine OpsW.ld H (by (first | exact p0 | exact p1 | exact p2 | exact p3 | exact p4 | exact p5 | exact p6 | exact p7)) rfl rfl rfl rfl (by rfl) rfl ?_ | refine OpsW.ldA H (by (first | exact p0 | exact p1 | exact p2 | exact p3 | exact p4 | exact p5 | exact p6 | exact p7)) rfl rfl rfl (by rfl) rfl ?_ | refine OpsW.box H rfl rfl rfl fun _ _ H => ?_ | refine OpsW.alloc H rfl rfl rfl rfl fun _ _ H => ?_ | refine OpsW.str H (by (first | exact p0 | exact p1 | exact p2 | exact p3 | exact p4 | exact p5 | exact p6 | exact p7)) rfl rfl rfl rfl rfl rfl (by first | decide | (simp; done) | (simp; omega)) fun _ H => ?_ | refine OpsW.strA H (by (first | exact p0 | exact p1 | exact p2 | exact p3 | exact p4 | exact p5 | exact p6 | exact p7)) rfl rfl rfl rfl rfl rfl (by first | decide | (simp; done) | (simp; omega)) fun _ H => ?_) | (refine CW.go ?_; first | refine CW.condT rfl ?_ | refine CW.condF rfl ?_ | refine CW.seqR ?_ | refine CW.seqDc ?_ | refine CW.seqDb ?_ | refine CW.seqDl ?_ | refine CW.seqDs ?_ | refine CW.seqDk ?_ | refine CW.block ?_ | refine CW.region ?_ | refine CW.ret ?_ | refine CW.exit ?_ | refine CW.skip ?_) | refine OpsW.nil ?_)
  refine OpsW.ixA (n := 1) rfl rfl rfl rfl rfl rfl rfl (by decide +kernel) rfl ?_
  refine OpsW.ld H p0 rfl rfl rfl rfl hr1 rfl ?_
  repeat' (first | (refine OpsW.go ?_; first | refine OpsW.st rfl ?_ | refine OpsW.ld H (by (first | exact p0 | exact p1 | exact p2 | exact p3 | exact p4 | exact p5 | exact p6 | exact p7)) rfl rfl rfl rfl (by rfl) rfl ?_ | refine OpsW.ldA H (by (first | exact p0 | exact p1 | exact p2 | exact p3 | exact p4 | exact p5 | exact p6 | exact p7)) rfl rfl rfl (by rfl) rfl ?_ | refine OpsW.box H rfl rfl rfl fun _ _ H => ?_ | refine OpsW.alloc H rfl rfl rfl rfl fun _ _ H => ?_ | refine OpsW.str H (by (first | exact p0 | exact p1 | exact p2 | exact p3 | exact p4 | exact p5 | exact p6 | exact p7)) rfl rfl rfl rfl rfl rfl (by first | decide | (simp; done) | (simp; omega)) fun _ H => ?_ | refine OpsW.strA H (by (first | exact p0 | exact p1 | exact p2 | exact p3 | exact p4 | exact p5 | exact p6 | exact p7)) rfl rfl rfl rfl rfl rfl (by first | decide | (simp; done) | (simp; omega)) fun _ H => ?_) | (refine CW.go ?_; first | refine CW.condT rfl ?_ | refine CW.condF rfl ?_ | refine CW.seqR ?_ | refine CW.seqDc ?_ | refine CW.seqDb ?_ | refine CW.seqDl ?_ | refine CW.seqDs ?_ | refine CW.seqDk ?_ | refine CW.block ?_ | refine CW.region ?_ | refine CW.ret ?_ | refine CW.exit ?_ | refine CW.skip ?_) | refine OpsW.nil ?_)
  have hst := step_ H (t17_m (gK_rng a b ha hb) (hb := 4) (by decide)) (by decide) (D2K_ok hk0 hk1 hv0 hv1) hE.r.tail hE.w.tail
  rw [s3K k a b v hb] at hst
  dsimp only at hst
  refine OpsW.call rfl rfl rfl hst ?_
  rintro _ w ⟨rfl, H⟩
  clear hst
  replace H := H.perm (List.Perm.swap _ _ _)
  repeat' (first | (refine OpsW.go ?_; first | refine OpsW.st rfl ?_ | refine OpsW.ld H (by (first | exact p0 | exact p1 | exact p2 | exact p3 | exact p4 | exact p5 | exact p6 | exact p7)) rfl rfl rfl rfl (by rfl) rfl ?_ | refine OpsW.ldA H (by (first | exact p0 | exact p1 | exact p2 | exact p3 | exact p4 | exact p5 | exact p6 | exact p7)) rfl rfl rfl (by rfl) rfl ?_ | refine OpsW.box H rfl rfl rfl fun _ _ H => ?_ | refine OpsW.alloc H rfl rfl rfl rfl fun _ _ H => ?_ | refine OpsW.str H (by (first | exact p0 | exact p1 | exact p2 | exact p3 | exact p4 | exact p5 | exact p6 | exact p7)) rfl rfl rfl rfl rfl rfl (by first | decide | (simp; done) | (simp; omega)) fun _ H => ?_ | refine OpsW.strA H (by (first | exact p0 | exact p1 | exact p2 | exact p3 | exact p4 | exact p5 | exact p6 | exact p7)) rfl rfl rfl rfl rfl rfl (by first | decide | (simp; done) | (simp; omega)) fun _ H => ?_) | (refine CW.go ?_; first | refine CW.condT rfl ?_ | refine CW.condF rfl ?_ | refine CW.seqR ?_ | refine CW.seqDc ?_ | refine CW.seqDb ?_ | refine CW.seqDl ?_ | refine CW.seqDs ?_ | refine CW.seqDk ?_ | refine CW.block ?_ | refine CW.region ?_ | refine CW.ret ?_ | refine CW.exit ?_ | refine CW.skip ?_) | refine OpsW.nil ?_)
  have hst := step_ H (t17_m (gK_rng a b ha hb) (hb := 6) (by decide)) (by decide) (D3K_ok hk0 hk1 hv0 hv1) hE.r.tail hE.w.tail
  rw [s4K k a b v hb] at hst
  dsimp only at hst
  refine OpsW.call rfl rfl rfl hst ?_
  rintro _ w ⟨rfl, H⟩
  clear hst
  replace H := H.perm (List.Perm.swap _ _ _)
  have hkb : (D4K k a b v).k b = ⟨1, 0, 0, 0, v⟩ := by unfold D4K D3K; exact setK_at ((D2K k a b v).setPC 3) b _
  have hr3 : (D4K k a b v).c[0 + 3 * 1]? = some (.int .u32 v) := by
    rw [Dm.ldR (n := 3) (by decide) rfl]; unfold D4K; rfl
  have hf0 : (D4K k a b v).c[0 + 11 + b * 5 + 0]? = some (.int .i64 1) := by
    rw [Dm.ldKf (n := b) (o := 0) hb (by decide) (by omega), hkb]; rfl
  have hf4 : (D4K k a b v).c[0 + 11 + b * 5 + 4]? = some (.int .u32 v) := by
    rw [Dm.ldKf (n := b) (o := 4) hb (by decide) (by omega), hkb]; rfl
  repeat' (first | (refine OpsW.go ?_; first | refine OpsW.st rfl ?_ | refine OpsW.ld H (by (first | exact p0 | exact p1 | exact p2 | exact p3 | exact p4 | exact p5 | exact p6 | exact p7)) rfl rfl rfl rfl (by rfl) rfl ?_ | refine OpsW.ldA H (by (first | exact p0 | exact p1 | exact p2 | exact p3 | exact p4 | exact p5 | exact p6 | exact p7)) rfl rfl rfl (by rfl) rfl ?_ | refine OpsW.box H rfl rfl rfl fun _ _ H => ?_ | refine OpsW.alloc H rfl rfl rfl rfl fun _ _ H => ?_ | refine OpsW.str H (by (first | exact p0 | exact p1 | exact p2 | exact p3 | exact p4 | exact p5 | exact p6 | exact p7)) rfl rfl rfl rfl rfl rfl (by first | decide | (simp; done) | (simp; omega)) fun _ H => ?_ | refine OpsW.strA H (by (first | exact p0 | exact p1 | exact p2 | exact p3 | exact p4 | exact p5 | exact p6 | exact p7)) rfl rfl rfl rfl rfl rfl (by first | decide | (simp; done) | (simp; omega)) fun _ H => ?_) | (refine CW.go ?_; first | refine CW.condT rfl ?_ | refine CW.condF rfl ?_ | refine CW.seqR ?_ | refine CW.seqDc ?_ | refine CW.seqDb ?_ | refine CW.seqDl ?_ | refine CW.seqDs ?_ | refine CW.seqDk ?_ | refine CW.block ?_ | refine CW.region ?_ | refine CW.ret ?_ | refine CW.exit ?_ | refine CW.skip ?_) | refine OpsW.nil ?_)
  rw [beq_self_eq_true]
  repeat' (first | (refine OpsW.go ?_; first | refine OpsW.st rfl ?_ | refine OpsW.ld H (by (first | exact p0 | exact p1 | exact p2 | exact p3 | exact p4 | exact p5 | exact p6 | exact p7)) rfl rfl rfl rfl (by rfl) rfl ?_ | refine OpsW.ldA H (by (first | exact p0 | exact p1 | exact p2 | exact p3 | exact p4 | exact p5 | exact p6 | exact p7)) rfl rfl rfl (by rfl) rfl ?_ | refine OpsW.box H rfl rfl rfl fun _ _ H => ?_ | refine OpsW.alloc H rfl rfl rfl rfl fun _ _ H => ?_ | refine OpsW.str H (by (first | exact p0 | exact p1 | exact p2 | exact p3 | exact p4 | exact p5 | exact p6 | exact p7)) rfl rfl rfl rfl rfl rfl (by first | decide | (simp; done) | (simp; omega)) fun _ H => ?_ | refine OpsW.strA H (by (first | exact p0 | exact p1 | exact p2 | exact p3 | exact p4 | exact p5 | exact p6 | exact p7)) rfl rfl rfl rfl rfl rfl (by first | decide | (simp; done) | (simp; omega)) fun _ H => ?_) | (refine CW.go ?_; first | refine CW.condT rfl ?_ | refine CW.condF rfl ?_ | refine CW.seqR ?_ | refine CW.seqDc ?_ | refine CW.seqDb ?_ | refine CW.seqDl ?_ | refine CW.seqDs ?_ | refine CW.seqDk ?_ | refine CW.block ?_ | refine CW.region ?_ | refine CW.ret ?_ | refine CW.exit ?_ | refine CW.skip ?_) | refine OpsW.nil ?_)
  refine OpsW.ixA (n := 3) rfl rfl rfl rfl rfl rfl rfl (by decide +kernel) rfl ?_
  refine OpsW.ld H p0 rfl rfl rfl rfl hr3 rfl ?_
  repeat' (first | (refine OpsW.go ?_; first | refine OpsW.st rfl ?_ | refine OpsW.ld H (by (first | exact p0 | exact p1 | exact p2 | exact p3 | exact p4 | exact p5 | exact p6 | exact p7)) rfl rfl rfl rfl (by rfl) rfl ?_ | refine OpsW.ldA H (by (first | exact p0 | exact p1 | exact p2 | exact p3 | exact p4 | exact p5 | exact p6 | exact p7)) rfl rfl rfl (by rfl) rfl ?_ | refine OpsW.box H rfl rfl rfl fun _ _ H => ?_ | refine OpsW.alloc H rfl rfl rfl rfl fun _ _ H => ?_ | refine OpsW.str H (by (first | exact p0 | exact p1 | exact p2 | exact p3 | exact p4 | exact p5 | exact p6 | exact p7)) rfl rfl rfl rfl rfl rfl (by first | decide | (simp; done) | (simp; omega)) fun _ H => ?_ | refine OpsW.strA H (by (first | exact p0 | exact p1 | exact p2 | exact p3 | exact p4 | exact p5 | exact p6 | exact p7)) rfl rfl rfl rfl rfl rfl (by first | decide | (simp; done) | (simp; omega)) fun _ H => ?_) | (refine CW.go ?_; first | refine CW.condT rfl ?_ | refine CW.condF rfl ?_ | refine CW.seqR ?_ | refine CW.seqDc ?_ | refine CW.seqDb ?_ | refine CW.seqDl ?_ | refine CW.seqDs ?_ | refine CW.seqDk ?_ | refine CW.block ?_ | refine CW.region ?_ | refine CW.ret ?_ | refine CW.exit ?_ | refine CW.skip ?_) | refine OpsW.nil ?_)
  rw [beq_self_eq_true]
  repeat' (first | (refine OpsW.go ?_; first | refine OpsW.st rfl ?_ | refine OpsW.ld H (by (first | exact p0 | exact p1 | exact p2 | exact p3 | exact p4 | exact p5 | exact p6 | exact p7)) rfl rfl rfl rfl (by rfl) rfl ?_ | refine OpsW.ldA H (by (first | exact p0 | exact p1 | exact p2 | exact p3 | exact p4 | exact p5 | exact p6 | exact p7)) rfl rfl rfl (by rfl) rfl ?_ | refine OpsW.box H rfl rfl rfl fun _ _ H => ?_ | refine OpsW.alloc H rfl rfl rfl rfl fun _ _ H => ?_ | refine OpsW.str H (by (first | exact p0 | exact p1 | exact p2 | exact p3 | exact p4 | exact p5 | exact p6 | exact p7)) rfl rfl rfl rfl rfl rfl (by first | decide | (simp; done) | (simp; omega)) fun _ H => ?_ | refine OpsW.strA H (by (first | exact p0 | exact p1 | exact p2 | exact p3 | exact p4 | exact p5 | exact p6 | exact p7)) rfl rfl rfl rfl rfl rfl (by first | decide | (simp; done) | (simp; omega)) fun _ H => ?_) | (refine CW.go ?_; first | refine CW.condT rfl ?_ | refine CW.condF rfl ?_ | refine CW.seqR ?_ | refine CW.seqDc ?_ | refine CW.seqDb ?_ | refine CW.seqDl ?_ | refine CW.seqDs ?_ | refine CW.seqDk ?_ | refine CW.block ?_ | refine CW.region ?_ | refine CW.ret ?_ | refine CW.exit ?_ | refine CW.skip ?_) | refine OpsW.nil ?_)
  refine OpsW.ixA (n := b) rfl rfl rfl rfl rfl rfl rfl hb rfl ?_
  repeat' (first | (refine OpsW.go ?_; first | refine OpsW.st rfl ?_ | refine OpsW.ld H (by (first | exact p0 | exact p1 | exact p2 | exact p3 | exact p4 | exact p5 | exact p6 | exact p7)) rfl rfl rfl rfl (by rfl) rfl ?_ | refine OpsW.ldA H (by (first | exact p0 | exact p1 | exact p2 | exact p3 | exact p4 | exact p5 | exact p6 | exact p7)) rfl rfl rfl (by rfl) rfl ?_ | refine OpsW.box H rfl rfl rfl fun _ _ H => ?_ | refine OpsW.alloc H rfl rfl rfl rfl fun _ _ H => ?_ | refine OpsW.str H (by (first | exact p0 | exact p1 | exact p2 | exact p3 | exact p4 | exact p5 | exact p6 | exact p7)) rfl rfl rfl rfl rfl rfl (by first | decide | (simp; done) | (simp; omega)) fun _ H => ?_ | refine OpsW.strA H (by (first | exact p0 | exact p1 | exact p2 | exact p3 | exact p4 | exact p5 | exact p6 | exact p7)) rfl rfl rfl rfl rfl rfl (by first | decide | (simp; done) | (simp; omega)) fun _ H => ?_) | (refine CW.go ?_; first | refine CW.condT rfl ?_ | refine CW.condF rfl ?_ | refine CW.seqR ?_ | refine CW.seqDc ?_ | refine CW.seqDb ?_ | refine CW.seqDl ?_ | refine CW.seqDs ?_ | refine CW.seqDk ?_ | refine CW.block ?_ | refine CW.region ?_ | refine CW.ret ?_ | refine CW.exit ?_ | refine CW.skip ?_) | refine OpsW.nil ?_)
  refine OpsW.ld H p0 rfl rfl rfl rfl hf0 rfl ?_
  repeat' (first | (refine OpsW.go ?_; first | refine OpsW.st rfl ?_ | refine OpsW.ld H (by (first | exact p0 | exact p1 | exact p2 | exact p3 | exact p4 | exact p5 | exact p6 | exact p7)) rfl rfl rfl rfl (by rfl) rfl ?_ | refine OpsW.ldA H (by (first | exact p0 | exact p1 | exact p2 | exact p3 | exact p4 | exact p5 | exact p6 | exact p7)) rfl rfl rfl (by rfl) rfl ?_ | refine OpsW.box H rfl rfl rfl fun _ _ H => ?_ | refine OpsW.alloc H rfl rfl rfl rfl fun _ _ H => ?_ | refine OpsW.str H (by (first | exact p0 | exact p1 | exact p2 | exact p3 | exact p4 | exact p5 | exact p6 | exact p7)) rfl rfl rfl rfl rfl rfl (by first | decide | (simp; done) | (simp; omega)) fun _ H => ?_ | refine OpsW.strA H (by (first | exact p0 | exact p1 | exact p2 | exact p3 | exact p4 | exact p5 | exact p6 | exact p7)) rfl rfl rfl rfl rfl rfl (by first | decide | (simp; done) | (simp; omega)) fun _ H => ?_) | (refine CW.go ?_; first | refine CW.condT rfl ?_ | refine CW.condF rfl ?_ | refine CW.seqR ?_ | refine CW.seqDc ?_ | refine CW.seqDb ?_ | refine CW.seqDl ?_ | refine CW.seqDs ?_ | refine CW.seqDk ?_ | refine CW.block ?_ | refine CW.region ?_ | refine CW.ret ?_ | refine CW.exit ?_ | refine CW.skip ?_) | refine OpsW.nil ?_)
  refine OpsW.ixA (n := b) rfl rfl rfl rfl rfl rfl rfl hb rfl ?_
  repeat' (first | (refine OpsW.go ?_; first | refine OpsW.st rfl ?_ | refine OpsW.ld H (by (first | exact p0 | exact p1 | exact p2 | exact p3 | exact p4 | exact p5 | exact p6 | exact p7)) rfl rfl rfl rfl (by rfl) rfl ?_ | refine OpsW.ldA H (by (first | exact p0 | exact p1 | exact p2 | exact p3 | exact p4 | exact p5 | exact p6 | exact p7)) rfl rfl rfl (by rfl) rfl ?_ | refine OpsW.box H rfl rfl rfl fun _ _ H => ?_ | refine OpsW.alloc H rfl rfl rfl rfl fun _ _ H => ?_ | refine OpsW.str H (by (first | exact p0 | exact p1 | exact p2 | exact p3 | exact p4 | exact p5 | exact p6 | exact p7)) rfl rfl rfl rfl rfl rfl (by first | decide | (simp; done) | (simp; omega)) fun _ H => ?_ | refine OpsW.strA H (by (first | exact p0 | exact p1 | exact p2 | exact p3 | exact p4 | exact p5 | exact p6 | exact p7)) rfl rfl rfl rfl rfl rfl (by first | decide | (simp; done) | (simp; omega)) fun _ H => ?_) | (refine CW.go ?_; first | refine CW.condT rfl ?_ | refine CW.condF rfl ?_ | refine CW.seqR ?_ | refine CW.seqDc ?_ | refine CW.seqDb ?_ | refine CW.seqDl ?_ | refine CW.seqDs ?_ | refine CW.seqDk ?_ | refine CW.block ?_ | refine CW.region ?_ | refine CW.ret ?_ | refine CW.exit ?_ | refine CW.skip ?_) | refine OpsW.nil ?_)
  refine OpsW.ld H p0 rfl rfl rfl rfl hf4 rfl ?_
  repeat' (first | (refine OpsW.go ?_; first | refine OpsW.st rfl ?_ | refine OpsW.ld H (by (first | exact p0 | exact p1 | exact p2 | exact p3 | exact p4 | exact p5 | exact p6 | exact p7)) rfl rfl rfl rfl (by rfl) rfl ?_ | refine OpsW.ldA H (by (first | exact p0 | exact p1 | exact p2 | exact p3 | exact p4 | exact p5 | exact p6 | exact p7)) rfl rfl rfl (by rfl) rfl ?_ | refine OpsW.box H rfl rfl rfl fun _ _ H => ?_ | refine OpsW.alloc H rfl rfl rfl rfl fun _ _ H => ?_ | refine OpsW.str H (by (first | exact p0 | exact p1 | exact p2 | exact p3 | exact p4 | exact p5 | exact p6 | exact p7)) rfl rfl rfl rfl rfl rfl (by first | decide | (simp; done) | (simp; omega)) fun _ H => ?_ | refine OpsW.strA H (by (first | exact p0 | exact p1 | exact p2 | exact p3 | exact p4 | exact p5 | exact p6 | exact p7)) rfl rfl rfl rfl rfl rfl (by first | decide | (simp; done) | (simp; omega)) fun _ H => ?_) | (refine CW.go ?_; first | refine CW.condT rfl ?_ | refine CW.condF rfl ?_ | refine CW.seqR ?_ | refine CW.seqDc ?_ | refine CW.seqDb ?_ | refine CW.seqDl ?_ | refine CW.seqDs ?_ | refine CW.seqDk ?_ | refine CW.block ?_ | refine CW.region ?_ | refine CW.ret ?_ | refine CW.exit ?_ | refine CW.skip ?_) | refine OpsW.nil ?_)
  exact ret1 rfl ⟨congrArg Value.bool (beq_self_eq_true v), by (first | exact H | exact H.drop | exact H.d2 | exact H.d3 | exact H.d4 | exact H.d5 | exact H.d6 | exact H.d7)⟩
end Go.Proofs.YtnfefbhjdncccaaDoor.X
