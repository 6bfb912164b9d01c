/- The law MemReadOnly of chapter 11, walked; conditions: none. -/
import Derived.Test.YtnfefbhjdncccaaDoorL11
import Derived.Test.YtnfefbhjdncccaaDoorR2
namespace Go.Proofs.YtnfefbhjdncccaaDoor.X
open Go Go.Proofs
set_option linter.unusedSimpArgs false
set_option linter.unusedVariables false
theorem i64_and7 (n : Int) : bits .and .i64 n 7 = n % 8 := by
  have h7 : (BitVec.ofInt 64 7).toNat = 2 ^ 3 - 1 := by decide
  have key : (BitVec.ofInt 64 n &&& BitVec.ofInt 64 7).toNat = (n % ((2 ^ 64 : Nat) : Int)).toNat % 2 ^ 3 := by
    rw [BitVec.toNat_and, BitVec.toNat_ofInt, h7, Nat.and_two_pow_sub_one_eq_mod]
  show IntKind.i64.wrap ((BitVec.ofInt 64 n &&& BitVec.ofInt 64 7).toNat : Nat) = n % 8
  rw [key, wrap64_id (by omega) (by omega)]
  omega
theorem i64_and5 (n : Int) : bits .and .i64 n 5 = bits .and .i64 (n % 8) 5 := by
  have h5 : (BitVec.ofInt 64 5).toNat = 5 := by decide
  have key : (BitVec.ofInt 64 n &&& BitVec.ofInt 64 5).toNat = (BitVec.ofInt 64 (n % 8) &&& BitVec.ofInt 64 5).toNat := by
    rw [BitVec.toNat_and, BitVec.toNat_and, h5, BitVec.toNat_ofInt, BitVec.toNat_ofInt]
    have e : ∀ x : Nat, x &&& 5 = (x % 8) &&& 5 := fun x => by
      have h7 : x &&& 7 = x % 8 := Nat.and_two_pow_sub_one_eq_mod x 3
      rw [← h7, Nat.and_assoc]; rfl
    rw [e, e (n % 8 % ((2 ^ 64 : Nat) : Int)).toNat]
    congr 1
    omega
  show IntKind.wrap .i64 (((BitVec.ofInt 64 n &&& BitVec.ofInt 64 5).toNat : Nat) : Int) = IntKind.wrap .i64 (((BitVec.ofInt 64 (n % 8) &&& BitVec.ofInt 64 5).toNat : Nat) : Int)
  rw [key]
/-- A walk that ends well ends at a word that is there. -/
theorem wk_has {s : St} : ∀ (n : Nat) (above : Int) (k : K) (addr : Int) (ro : Bool) (ns : List Int), 0 ≤ above → above < n → 0 ≤ addr → (s.wk n above k addr ro ns).2.1 = 0 → s.hasP (s.wk n above k addr ro ns).1.page (s.wk n above k addr ro ns).1.at_ = true
  | 0, above, _, _, _, _, h0, hn, _, _ => by omega
  | n + 1, above, k, addr, ro, ns, h0, hn, ha, hf => by
    unfold St.wk at hf ⊢
    by_cases h1 : k.mem = false ∨ s.live k = false
    · rw [if_pos h1] at hf; exact absurd hf (by show ¬ (2 = 0); decide)
    rw [if_neg h1] at hf ⊢
    by_cases h2 : above ≤ k.hgt
    · rw [if_pos h2] at hf; exact absurd hf (by show ¬ (5 = 0); decide)
    rw [if_neg h2] at hf ⊢
    by_cases h3 : psz k.hgt ≤ addr
    · rw [if_pos h3] at hf; exact absurd hf (by show ¬ (3 = 0); decide)
    rw [if_neg h3] at hf ⊢
    by_cases h4 : k.kind = 3
    · rw [if_pos h4]
      have hl : s.live k = true := by
        cases h : s.live k
        · exact absurd (.inr h) h1
        · rfl
      unfold St.live liveAt at hl
      rw [if_neg (by omega), if_pos h4, Bool.and_eq_true] at hl
      have hz : psz k.hgt = 32 := by unfold K.hgt; rw [if_pos h4]; rfl
      show s.hasP k.id addr = true
      unfold St.hasP
      rw [hl.1, Bool.true_and, Bool.and_eq_true]
      exact ⟨decide_eq_true ha, decide_eq_true (by omega)⟩
    rw [if_neg h4] at hf ⊢
    have hm : k.mem = true := by
      cases e : k.mem
      · exact absurd (.inl e) h1
      · rfl
    have hd : 1 ≤ k.hgt := by
      unfold K.mem at hm; unfold K.hgt
      rw [if_neg h4]
      simp [h4] at hm
      omega
    exact wk_has n k.hgt _ _ _ _ (by omega) (by omega) (Int.emod_nonneg _ (by have := psz_pos (k.hgt - 1); omega)) hf
theorem walk_has {s : St} {k : K} {addr : Int} (ha : 0 ≤ addr) (hf : (s.walk k addr).2.1 = 0) : s.hasP (s.walk k addr).1.page (s.walk k addr).1.at_ = true := wk_has 6 5 k addr false [] (by decide) (by decide) ha hf
theorem hasP_putW {s : St} {a c : Nat} {x id i : Int} : (s.putW a c x).hasP id i = s.hasP id i := rfl
theorem walk_saveS {s : St} {k k' : K} {a a' x : Int} : (s.saveS k a x).walk k' a' = s.walk k' a' := by
  unfold St.saveS
  split
  · exact walk_setW k' a'
  · rfl
theorem load_save {s : St} {k : K} {addr x : Int} (ha : 0 ≤ addr) (hs : s.save k addr = 0) : (s.saveS k addr x).load k addr = (x, 0) := by
  have hf : (s.walk k addr).2.1 = 0 := by
    unfold St.save at hs
    split at hs
    · rename_i h; exact absurd hs h
    · rename_i h; exact Classical.not_not.1 h
  have hh := walk_has ha hf
  have e : s.saveS k addr x = s.putW (s.walk k addr).1.page.toNat (s.walk k addr).1.at_.toNat x := by
    unfold St.saveS St.setW; rw [if_pos hs, if_pos hh]
  have ew : (s.saveS k addr x).walk k addr = s.walk k addr := by
    unfold St.saveS; rw [if_pos hs]; exact walk_setW k addr
  unfold St.load
  rw [ew, if_neg (fun h => h hf)]
  unfold St.word
  rw [e, hasP_putW, if_pos hh]
  show ((if (s.walk k addr).1.page.toNat = (s.walk k addr).1.page.toNat then (fun c' => if c' = (s.walk k addr).1.at_.toNat then x else s.pg (s.walk k addr).1.page.toNat c') else s.pg (s.walk k addr).1.page.toNat) (s.walk k addr).1.at_.toNat, 0) = (x, 0)
  rw [if_pos rfl]
  show (if (s.walk k addr).1.at_.toNat = (s.walk k addr).1.at_.toNat then x else _, 0) = (x, 0)
  rw [if_pos rfl]
def sO0 : St := (St.new 2 2).newP 0 [5, 6, 7]
def kO (r : Nat) : K := ⟨3, 0, 0, r, 0⟩
def sO (r : Nat) : St := sO0.newN 0 [kO r]
def kN : K := ⟨2, 0, 0, 0, 1⟩
theorem sO0_ok : sO0.ok := (ok_new (by decide) (by decide) (by decide) (by decide) : (St.new 2 2).ok).newP
theorem sO_ok (r : Nat) : (sO r).ok := sO0_ok.newN
theorem sO0_d (a c : Nat) : 0 ≤ (sO0.nd a c).data := Int.le_refl 0
theorem sO_d (r a c : Nat) : 0 ≤ ((sO r).nd a c).data := by
  show 0 ≤ ((if a = 0 then (fun i => ([kO r] : List K).getD i K.void) else fun _ => K.void) c).data
  split
  · match c with
    | 0 => exact Int.le_refl 0
    | c + 1 => exact Int.le_refl 0
  · exact Int.le_refl 0
/-- Whether a page's rights forbid to write. -/
def roR (r : Nat) : Bool := bits .and .i64 (r : Int) 5 != 0
theorem sO_w0 : ∀ r : Nat, r < 8 → ∀ o : Nat, o < 32 → ((sO0.walk (kO r) o).2.1 = 0 ∧ (sO0.walk (kO r) o).1.ro = roR r) := by decide +kernel
theorem sO_w1 : ∀ r : Nat, r < 8 → ∀ o : Nat, o < 32 → (((sO r).walk kN o).2.1 = 0 ∧ ((sO r).walk kN o).1.ro = roR r) := by decide +kernel
theorem kO_fit : ∀ r : Nat, r < 8 → fitE [kO r] = 0 := by decide +kernel
theorem sO_nk (r : Nat) : (sO r).nodeKey 0 1 = kN := by kernel_rfl
theorem save_of {s : St} {k : K} {addr : Int} {b : Bool} (h : (s.walk k addr).2.1 = 0 ∧ (s.walk k addr).1.ro = b) : s.save k addr = if b = true then 4 else 0 := by
  unfold St.save
  rw [if_neg (fun e => e h.1), h.2]
theorem saveS_no {s : St} {k : K} {addr x : Int} (h : s.save k addr ≠ 0) : s.saveS k addr x = s := if_neg h
theorem load_ok {s : St} {k : K} {addr : Int} (h : (s.walk k addr).2.1 = 0) : (s.load k addr).2 = 0 := by unfold St.load; rw [if_neg (fun e => e h)]
theorem mc4 {z w : World} {Rs : List HP} {bm bs bc : Nat} {size hits : Int} {s : St} {hb : Nat} {ws : List Wy} {A S1 S2 S3 : HP} (e : good s ws ∧ (ws.length : Int) ≤ size ∧ 0 ≤ hits ∧ hits ≤ hb) (H : Sat z w (A :: S1 :: S2 :: S3 :: blk bm 34 [.pointer (some ⟨bs, 0, none⟩), .int .i64 size, .pointer (some ⟨bc, 0, none⟩)] :: cacheP bc size ws hits :: Rs)) : Sat z w (A :: S1 :: S2 :: S3 :: mcP bm bs size s hb :: Rs) :=
  (mc_close e (H.perm ((List.perm_append_comm (l₁ := [A, S1, S2, S3]) (l₂ := [_, _])).append_right Rs))).perm p4.symm
attribute [local irreducible] CW OpsW RetW Spec blk snap DrawP AnyW AnyM AnyN bits IntKind.wrap vec arena kds nds wds pgs eA nodesP pagesP cacheP wns St.walk St.put St.find mcP sO sO0 St.load St.save St.saveS
set_option maxHeartbeats 4000000 in
set_option maxRecDepth 20000 in
theorem memReadOnly_ (W : World) (hEs : Errs W 237 [5, 1, 0, 3, 2]) (rights : Int) (hrw : (Lit.int .i64 rights).wf = true) (addr : Int) (haw : (Lit.int .u32 addr).wf = true) (x : Int) (hxw : (Lit.int .u32 x).wf = true) (high : Bool) :
    Spec cf 4 #[.int .i64 rights, .int .u32 addr, .int .u32 x, .bool high] W fun v w' => v = .bool true ∧ Sat W w' [snap W] := by
  have H := Sat.start W
  obtain ⟨ads, hE⟩ := errs5 hEs
  obtain ⟨ha0, ha1⟩ := bu32 haw
  refine enter (l := [.int .i64 rights, .int .u32 addr, .int .u32 x, .bool high]) Tryd.func4 rfl rfl rfl rfl rfl ?_
  repeat' (first | (refine OpsW.go ?_; first | refine OpsW.st rfl ?_ | refine OpsW.ld H (by (first | exact p0 | exact p1 | exact p2 | exact p3 | exact p4 | exact p5 | exact p6 | exact p7)) rfl rfl rfl rfl (by rfl) rfl ?_ | refine OpsW.ldA H (by (first | exact p0 | exact p1 | exact p2 | exact p3 | exact p4 | exact p5 | exact p6 | exact p7)) rfl rfl rfl (by rfl) rfl ?_ | refine OpsW.box H rfl rfl rfl fun _ _ H => ?_ | refine OpsW.alloc H rfl rfl rfl rfl fun _ _ H => ?_ | refine OpsW.str H (by (first | exact p0 | exact p1 | exact p2 | exact p3 | exact p4 | exact p5 | exact p6 | exact p7)) rfl rfl rfl rfl rfl rfl (by first | decide | (simp; done) | (simp; omega)) fun _ H => ?_ | refine OpsW.strA H (by (first | exact p0 | exact p1 | exact p2 | exact p3 | exact p4 | exact p5 | exact p6 | exact p7)) rfl rfl rfl rfl rfl rfl (by first | decide | (simp; done) | (simp; omega)) fun _ H => ?_) | (refine CW.go ?_; first | refine CW.condT rfl ?_ | refine CW.condF rfl ?_ | refine CW.seqR ?_ | refine CW.seqDc ?_ | refine CW.seqDb ?_ | refine CW.seqDl ?_ | refine CW.seqDs ?_ | refine CW.seqDk ?_ | refine CW.block ?_ | refine CW.region ?_ | refine CW.ret ?_ | refine CW.exit ?_ | refine CW.skip ?_) | refine OpsW.nil ?_)
  refine OpsW.call rfl rfl rfl (first11_ H hE) ?_
  rintro _ w ⟨rfl, H⟩
  repeat' (first | (refine OpsW.go ?_; first | refine OpsW.st rfl ?_ | refine OpsW.ld H (by (first | exact p0 | exact p1 | exact p2 | exact p3 | exact p4 | exact p5 | exact p6 | exact p7)) rfl rfl rfl rfl (by rfl) rfl ?_ | refine OpsW.ldA H (by (first | exact p0 | exact p1 | exact p2 | exact p3 | exact p4 | exact p5 | exact p6 | exact p7)) rfl rfl rfl (by rfl) rfl ?_ | refine OpsW.box H rfl rfl rfl fun _ _ H => ?_ | refine OpsW.alloc H rfl rfl rfl rfl fun _ _ H => ?_ | refine OpsW.str H (by (first | exact p0 | exact p1 | exact p2 | exact p3 | exact p4 | exact p5 | exact p6 | exact p7)) rfl rfl rfl rfl rfl rfl (by first | decide | (simp; done) | (simp; omega)) fun _ H => ?_ | refine OpsW.strA H (by (first | exact p0 | exact p1 | exact p2 | exact p3 | exact p4 | exact p5 | exact p6 | exact p7)) rfl rfl rfl rfl rfl rfl (by first | decide | (simp; done) | (simp; omega)) fun _ H => ?_) | (refine CW.go ?_; first | refine CW.condT rfl ?_ | refine CW.condF rfl ?_ | refine CW.seqR ?_ | refine CW.seqDc ?_ | refine CW.seqDb ?_ | refine CW.seqDl ?_ | refine CW.seqDs ?_ | refine CW.seqDk ?_ | refine CW.block ?_ | refine CW.region ?_ | refine CW.ret ?_ | refine CW.exit ?_ | refine CW.skip ?_) | refine OpsW.nil ?_)
  refine OpsW.call rfl rfl rfl (mem_new H 2 2 (by decide) (by decide) (by decide) (by decide) 3 (by decide) (by decide)) ?_
  rintro _ w ⟨bm, bs, bn, bp, rfl, H⟩
  obtain ⟨bc, ws, hits, hg, H2⟩ := mc_open (H.perm p3)
  replace H := H2.perm r2
  clear H2
  repeat' (first | (refine OpsW.go ?_; first | refine OpsW.st rfl ?_ | refine OpsW.ld H (by (first | exact p0 | exact p1 | exact p2 | exact p3 | exact p4 | exact p5 | exact p6 | exact p7)) rfl rfl rfl rfl (by rfl) rfl ?_ | refine OpsW.ldA H (by (first | exact p0 | exact p1 | exact p2 | exact p3 | exact p4 | exact p5 | exact p6 | exact p7)) rfl rfl rfl (by rfl) rfl ?_ | refine OpsW.box H rfl rfl rfl fun _ _ H => ?_ | refine OpsW.alloc H rfl rfl rfl rfl fun _ _ H => ?_ | refine OpsW.str H (by (first | exact p0 | exact p1 | exact p2 | exact p3 | exact p4 | exact p5 | exact p6 | exact p7)) rfl rfl rfl rfl rfl rfl (by first | decide | (simp; done) | (simp; omega)) fun _ H => ?_ | refine OpsW.strA H (by (first | exact p0 | exact p1 | exact p2 | exact p3 | exact p4 | exact p5 | exact p6 | exact p7)) rfl rfl rfl rfl rfl rfl (by first | decide | (simp; done) | (simp; omega)) fun _ H => ?_) | (refine CW.go ?_; first | refine CW.condT rfl ?_ | refine CW.condF rfl ?_ | refine CW.seqR ?_ | refine CW.seqDc ?_ | refine CW.seqDb ?_ | refine CW.seqDl ?_ | refine CW.seqDs ?_ | refine CW.seqDk ?_ | refine CW.block ?_ | refine CW.region ?_ | refine CW.ret ?_ | refine CW.exit ?_ | refine CW.skip ?_) | refine OpsW.nil ?_)
  refine OpsW.bsl H rfl rfl rfl rfl rfl rfl rfl rfl fun b2 w H => ?_
  repeat' (first | (refine OpsW.go ?_; first | refine OpsW.st rfl ?_ | refine OpsW.ld H (by (first | exact p0 | exact p1 | exact p2 | exact p3 | exact p4 | exact p5 | exact p6 | exact p7)) rfl rfl rfl rfl (by rfl) rfl ?_ | refine OpsW.ldA H (by (first | exact p0 | exact p1 | exact p2 | exact p3 | exact p4 | exact p5 | exact p6 | exact p7)) rfl rfl rfl (by rfl) rfl ?_ | refine OpsW.box H rfl rfl rfl fun _ _ H => ?_ | refine OpsW.alloc H rfl rfl rfl rfl fun _ _ H => ?_ | refine OpsW.str H (by (first | exact p0 | exact p1 | exact p2 | exact p3 | exact p4 | exact p5 | exact p6 | exact p7)) rfl rfl rfl rfl rfl rfl (by first | decide | (simp; done) | (simp; omega)) fun _ H => ?_ | refine OpsW.strA H (by (first | exact p0 | exact p1 | exact p2 | exact p3 | exact p4 | exact p5 | exact p6 | exact p7)) rfl rfl rfl rfl rfl rfl (by first | decide | (simp; done) | (simp; omega)) fun _ H => ?_) | (refine CW.go ?_; first | refine CW.condT rfl ?_ | refine CW.condF rfl ?_ | refine CW.seqR ?_ | refine CW.seqDc ?_ | refine CW.seqDb ?_ | refine CW.seqDl ?_ | refine CW.seqDs ?_ | refine CW.seqDk ?_ | refine CW.block ?_ | refine CW.region ?_ | refine CW.ret ?_ | refine CW.exit ?_ | refine CW.skip ?_) | refine OpsW.nil ?_)
  refine OpsW.call rfl rfl rfl (st_pageMake (H.perm r1) (ok_new (by decide) (by decide) (by decide) (by decide)) hE.tail.tail.tail _ [5, 6, 7] (by show 3 ≤ 32; decide) (SlR.of_blk (r := []) rfl (Nat.le_refl 3)) 0 rfl) ?_
  rw [show (St.new 2 2).newP 0 [5, 6, 7] = sO0 by with_unfolding_all rfl]
  rintro _ w ⟨rfl, H⟩
  have hg0 : good sO0 ws := by
    have := good_newP (q := 0) (l := [5, 6, 7]) hg.1 newz_there
    rw [show (St.new 2 2).newP 0 [5, 6, 7] = sO0 by with_unfolding_all rfl] at this; exact this
  replace H := (H.perm p3).drop
  repeat' (first | (refine OpsW.go ?_; first | refine OpsW.st rfl ?_ | refine OpsW.ld H (by (first | exact p0 | exact p1 | exact p2 | exact p3 | exact p4 | exact p5 | exact p6 | exact p7)) rfl rfl rfl rfl (by rfl) rfl ?_ | refine OpsW.ldA H (by (first | exact p0 | exact p1 | exact p2 | exact p3 | exact p4 | exact p5 | exact p6 | exact p7)) rfl rfl rfl (by rfl) rfl ?_ | refine OpsW.box H rfl rfl rfl fun _ _ H => ?_ | refine OpsW.alloc H rfl rfl rfl rfl fun _ _ H => ?_ | refine OpsW.str H (by (first | exact p0 | exact p1 | exact p2 | exact p3 | exact p4 | exact p5 | exact p6 | exact p7)) rfl rfl rfl rfl rfl rfl (by first | decide | (simp; done) | (simp; omega)) fun _ H => ?_ | refine OpsW.strA H (by (first | exact p0 | exact p1 | exact p2 | exact p3 | exact p4 | exact p5 | exact p6 | exact p7)) rfl rfl rfl rfl rfl rfl (by first | decide | (simp; done) | (simp; omega)) fun _ H => ?_) | (refine CW.go ?_; first | refine CW.condT rfl ?_ | refine CW.condF rfl ?_ | refine CW.seqR ?_ | refine CW.seqDc ?_ | refine CW.seqDb ?_ | refine CW.seqDl ?_ | refine CW.seqDs ?_ | refine CW.seqDk ?_ | refine CW.block ?_ | refine CW.region ?_ | refine CW.ret ?_ | refine CW.exit ?_ | refine CW.skip ?_) | refine OpsW.nil ?_)
  refine OpsW.call rfl rfl rfl (store_pageKey H sO0_ok 0) ?_
  rw [show sO0.pageKey 0 = kO 0 by with_unfolding_all rfl]
  rintro _ w ⟨rfl, H⟩
  repeat' (first | (refine OpsW.go ?_; first | refine OpsW.st rfl ?_ | refine OpsW.ld H (by (first | exact p0 | exact p1 | exact p2 | exact p3 | exact p4 | exact p5 | exact p6 | exact p7)) rfl rfl rfl rfl (by rfl) rfl ?_ | refine OpsW.ldA H (by (first | exact p0 | exact p1 | exact p2 | exact p3 | exact p4 | exact p5 | exact p6 | exact p7)) rfl rfl rfl (by rfl) rfl ?_ | refine OpsW.box H rfl rfl rfl fun _ _ H => ?_ | refine OpsW.alloc H rfl rfl rfl rfl fun _ _ H => ?_ | refine OpsW.str H (by (first | exact p0 | exact p1 | exact p2 | exact p3 | exact p4 | exact p5 | exact p6 | exact p7)) rfl rfl rfl rfl rfl rfl (by first | decide | (simp; done) | (simp; omega)) fun _ H => ?_ | refine OpsW.strA H (by (first | exact p0 | exact p1 | exact p2 | exact p3 | exact p4 | exact p5 | exact p6 | exact p7)) rfl rfl rfl rfl rfl rfl (by first | decide | (simp; done) | (simp; omega)) fun _ H => ?_) | (refine CW.go ?_; first | refine CW.condT rfl ?_ | refine CW.condF rfl ?_ | refine CW.seqR ?_ | refine CW.seqDb ?_ | refine CW.seqDl ?_ | refine CW.seqDk ?_ | refine CW.block ?_ | refine CW.region ?_ | refine CW.ret ?_ | refine CW.exit ?_ | refine CW.skip ?_) | refine OpsW.nil ?_)
  obtain ⟨r, hr⟩ := Int.eq_ofNat_of_zero_le (Int.emod_nonneg rights (show (8 : Int) ≠ 0 by decide))
  have hr8 : r < 8 := by have := Int.emod_lt_of_pos rights (show (0 : Int) < 8 by decide); omega
  rw [i64_and7, hr] at H
  rename_i kb _ _ _ _ _
  replace H : Sat W _ (blk kb 43 (kO r).l :: blk bs 38 [.pointer (some ⟨bn, 0, none⟩), .pointer (some ⟨bp, 0, none⟩)] :: nodesP bn sO0 :: pagesP bp sO0 :: blk bm 34 [.pointer (some ⟨bs, 0, none⟩), .int .i64 3, .pointer (some ⟨bc, 0, none⟩)] :: cacheP bc 3 ws hits :: [snap W]) := H
  refine CW.join (X := St × K) (fun j => Nat.ble 50 j) (fun _ => []) (fun g w => ((∀ o : Nat, o < 32 → (g.1.walk g.2 o).2.1 = 0 ∧ (g.1.walk g.2 o).1.ro = roR r) ∧ g.1.ok ∧ 0 ≤ g.2.data ∧ ∀ a c, 0 ≤ (g.1.nd a c).data) ∧ Sat W w (blk kb 43 g.2.l :: blk bs 38 [.pointer (some ⟨bn, 0, none⟩), .pointer (some ⟨bp, 0, none⟩)] :: nodesP bn g.1 :: pagesP bp g.1 :: mcP bm bs 3 g.1 0 :: [snap W])) ?_ ?_
  · cases high
    · repeat' (first | (refine OpsW.go ?_; first | refine OpsW.st rfl ?_ | refine OpsW.ld H (by (first | exact p0 | exact p1 | exact p2 | exact p3 | exact p4 | exact p5 | exact p6 | exact p7)) rfl rfl rfl rfl (by rfl) rfl ?_ | refine OpsW.ldA H (by (first | exact p0 | exact p1 | exact p2 | exact p3 | exact p4 | exact p5 | exact p6 | exact p7)) rfl rfl rfl (by rfl) rfl ?_ | refine OpsW.box H rfl rfl rfl fun _ _ H => ?_ | refine OpsW.alloc H rfl rfl rfl rfl fun _ _ H => ?_ | refine OpsW.str H (by (first | exact p0 | exact p1 | exact p2 | exact p3 | exact p4 | exact p5 | exact p6 | exact p7)) rfl rfl rfl rfl rfl rfl (by first | decide | (simp; done) | (simp; omega)) fun _ H => ?_ | refine OpsW.strA H (by (first | exact p0 | exact p1 | exact p2 | exact p3 | exact p4 | exact p5 | exact p6 | exact p7)) rfl rfl rfl rfl rfl rfl (by first | decide | (simp; done) | (simp; omega)) fun _ H => ?_) | (refine CW.go ?_; first | refine CW.condT rfl ?_ | refine CW.condF rfl ?_ | refine CW.seqR ?_ | refine CW.seqDc ?_ | refine CW.seqDb ?_ | refine CW.seqDl ?_ | refine CW.seqDs ?_ | refine CW.seqDk ?_ | refine CW.block ?_ | refine CW.region ?_ | refine CW.ret ?_ | refine CW.exit ?_ | refine CW.skip ?_) | refine OpsW.nil ?_)
      exact ⟨(sO0, kO r), (by (repeat (first | (with_reducible exact Agree.refl _ _) | (with_reducible refine Agree.trim (by assumption) ?_) | refine Agree.upd ?_ rfl | exact Agree.mix' | refine Agree.mixL ?_ (fun j h => by simp only [Bool.or_eq_true, Bool.and_eq_true, Nat.beq_eq, Nat.ble_eq] at h ⊢; omega) rfl))), trivial, ⟨sO_w0 r hr8, sO0_ok, Int.le_refl 0, sO0_d⟩, mc4 ⟨hg0, hg.2⟩ H⟩
    · have hg1 : good (sO r) ws := by
        have := good_newN (q := 0) (l := [kO r]) hg0 (by with_unfolding_all rfl)
        rw [show sO0.newN 0 [kO r] = sO r by with_unfolding_all rfl] at this; exact this
      have hmk : ∀ {w : World} {b : Nat}, Sat W w (blk b 43 (kO r).l :: blk kb 43 (kO r).l :: blk bs 38 [.pointer (some ⟨bn, 0, none⟩), .pointer (some ⟨bp, 0, none⟩)] :: nodesP bn sO0 :: pagesP bp sO0 :: blk bm 34 [.pointer (some ⟨bs, 0, none⟩), .int .i64 3, .pointer (some ⟨bc, 0, none⟩)] :: cacheP bc 3 ws hits :: [snap W]) → Spec cf 17 #[.pointer (some ⟨bn, 0, none⟩), .slice (some ⟨b, 0, none⟩) 1 1] w fun e w' => e = .tuple #[.int .i64 0, .int .i64 0, .nilIface] ∧ Sat W w' (blk kb 43 (kO r).l :: blk bs 38 [.pointer (some ⟨bn, 0, none⟩), .pointer (some ⟨bp, 0, none⟩)] :: nodesP bn (sO r) :: pagesP bp (sO r) :: blk bm 34 [.pointer (some ⟨bs, 0, none⟩), .int .i64 3, .pointer (some ⟨bc, 0, none⟩)] :: cacheP bc 3 ws hits :: [snap W]) := fun {w b} H => by
        have := st_nodeMake (H.perm r2) sO0_ok hE.tail.tail.tail.tail _ [kO r] (by show 1 ≤ 16; decide) (kO_fit r hr8) (SlR.of_blk (r := []) rfl (Nat.le_refl 1)) 0 (by with_unfolding_all rfl)
        rw [show sO0.newN 0 [kO r] = sO r by with_unfolding_all rfl, show (sO0.f 0).ver = 0 by with_unfolding_all rfl] at this
        exact this.mono fun e w h => ⟨h.1, ((h.2.perm p3).drop.perm p3)⟩
      repeat' (first | (refine OpsW.go ?_; first | refine OpsW.st rfl ?_ | refine OpsW.ld H (by (first | exact p0 | exact p1 | exact p2 | exact p3 | exact p4 | exact p5 | exact p6 | exact p7)) rfl rfl rfl rfl (by rfl) rfl ?_ | refine OpsW.ldA H (by (first | exact p0 | exact p1 | exact p2 | exact p3 | exact p4 | exact p5 | exact p6 | exact p7)) rfl rfl rfl (by rfl) rfl ?_ | refine OpsW.box H rfl rfl rfl fun _ _ H => ?_ | refine OpsW.alloc H rfl rfl rfl rfl fun _ _ H => ?_ | refine OpsW.str H (by (first | exact p0 | exact p1 | exact p2 | exact p3 | exact p4 | exact p5 | exact p6 | exact p7)) rfl rfl rfl rfl rfl rfl (by first | decide | (simp; done) | (simp; omega)) fun _ H => ?_ | refine OpsW.strA H (by (first | exact p0 | exact p1 | exact p2 | exact p3 | exact p4 | exact p5 | exact p6 | exact p7)) rfl rfl rfl rfl rfl rfl (by first | decide | (simp; done) | (simp; omega)) fun _ H => ?_) | (refine CW.go ?_; first | refine CW.condT rfl ?_ | refine CW.condF rfl ?_ | refine CW.seqR ?_ | refine CW.seqDc ?_ | refine CW.seqDb ?_ | refine CW.seqDl ?_ | refine CW.seqDs ?_ | refine CW.seqDk ?_ | refine CW.block ?_ | refine CW.region ?_ | refine CW.ret ?_ | refine CW.exit ?_ | refine CW.skip ?_) | refine OpsW.nil ?_)
      (first | refine CW.drawN mo H fun w H => ?_ | refine CW.seqDrawN mo H fun w H => ?_)
      repeat' (first | refine AnyN.take (i := 0) rfl rfl rfl (by decide +kernel) ?_ | refine AnyN.take (i := 1) rfl rfl rfl (by decide +kernel) ?_ | refine AnyN.take (i := 2) rfl rfl rfl (by decide +kernel) ?_ | refine AnyN.take (i := 3) rfl rfl rfl (by decide +kernel) ?_ | refine AnyN.take (i := 4) rfl rfl rfl (by decide +kernel) ?_ | refine AnyN.take (i := 5) rfl rfl rfl (by decide +kernel) ?_ | refine AnyN.take (i := 6) rfl rfl rfl (by decide +kernel) ?_ | refine AnyN.take (i := 7) rfl rfl rfl (by decide +kernel) ?_ | refine AnyN.take (i := 8) rfl rfl rfl (by decide +kernel) ?_ | refine AnyN.take (i := 9) rfl rfl rfl (by decide +kernel) ?_ | refine AnyN.take (i := 10) rfl rfl rfl (by decide +kernel) ?_ | refine AnyN.take (i := 11) rfl rfl rfl (by decide +kernel) ?_ | refine AnyN.take (i := 12) rfl rfl rfl (by decide +kernel) ?_ | refine AnyN.take (i := 13) rfl rfl rfl (by decide +kernel) ?_ | refine AnyN.take (i := 14) rfl rfl rfl (by decide +kernel) ?_ | refine AnyN.take (i := 15) rfl rfl rfl (by decide +kernel) ?_ | refine AnyN.take (i := 16) rfl rfl rfl (by decide +kernel) ?_ | refine AnyN.take (i := 17) rfl rfl rfl (by decide +kernel) ?_ | refine AnyN.take (i := 18) rfl rfl rfl (by decide +kernel) ?_ | refine AnyN.take (i := 19) rfl rfl rfl (by decide +kernel) ?_ | refine AnyN.take (i := 20) rfl rfl rfl (by decide +kernel) ?_ | refine AnyN.take (i := 21) rfl rfl rfl (by decide +kernel) ?_ | refine AnyN.take (i := 22) rfl rfl rfl (by decide +kernel) ?_ | refine AnyN.take (i := 23) rfl rfl rfl (by decide +kernel) ?_ | refine AnyN.take (i := 24) rfl rfl rfl (by decide +kernel) ?_ | refine AnyN.take (i := 25) rfl rfl rfl (by decide +kernel) ?_ | refine AnyN.take (i := 26) rfl rfl rfl (by decide +kernel) ?_ | refine AnyN.take (i := 27) rfl rfl rfl (by decide +kernel) ?_)
      repeat' (first | exact AllI.nil' rfl | refine AllI.cons' rfl rfl ?_ ?_ | refine AnyN.step rfl rfl ?_ | (first | (refine OpsW.go ?_; first | refine OpsW.st rfl ?_ | refine OpsW.ld H (by (first | exact p0 | exact p1 | exact p2 | exact p3 | exact p4 | exact p5 | exact p6 | exact p7)) rfl rfl rfl rfl (by rfl) rfl ?_ | refine OpsW.ldA H (by (first | exact p0 | exact p1 | exact p2 | exact p3 | exact p4 | exact p5 | exact p6 | exact p7)) rfl rfl rfl (by rfl) rfl ?_ | refine OpsW.box H rfl rfl rfl fun _ _ H => ?_ | refine OpsW.alloc H rfl rfl rfl rfl fun _ _ H => ?_ | refine OpsW.str H (by (first | exact p0 | exact p1 | exact p2 | exact p3 | exact p4 | exact p5 | exact p6 | exact p7)) rfl rfl rfl rfl rfl rfl (by first | decide | (simp; done) | (simp; omega)) fun _ H => ?_ | refine OpsW.strA H (by (first | exact p0 | exact p1 | exact p2 | exact p3 | exact p4 | exact p5 | exact p6 | exact p7)) rfl rfl rfl rfl rfl rfl (by first | decide | (simp; done) | (simp; omega)) fun _ H => ?_) | (refine CW.go ?_; first | refine CW.condT rfl ?_ | refine CW.condF rfl ?_ | refine CW.seqR ?_ | refine CW.seqD ?_ | refine CW.block ?_ | refine CW.region ?_ | refine CW.ret ?_ | refine CW.exit ?_ | refine CW.skip ?_) | refine OpsW.nil ?_) | (refine OpsW.call rfl rfl rfl (hmk H) ?_; rintro _ w ⟨rfl, H⟩) | refine OpsW.bsl H rfl rfl rfl rfl rfl rfl rfl rfl fun b2 w H => ?_)
      all_goals
        refine AnyN.done rfl ?_
        repeat' (first | (refine OpsW.go ?_; first | refine OpsW.st rfl ?_ | refine OpsW.ld H (by (first | exact p0 | exact p1 | exact p2 | exact p3 | exact p4 | exact p5 | exact p6 | exact p7)) rfl rfl rfl rfl (by rfl) rfl ?_ | refine OpsW.ldA H (by (first | exact p0 | exact p1 | exact p2 | exact p3 | exact p4 | exact p5 | exact p6 | exact p7)) rfl rfl rfl (by rfl) rfl ?_ | refine OpsW.box H rfl rfl rfl fun _ _ H => ?_ | refine OpsW.alloc H rfl rfl rfl rfl fun _ _ H => ?_ | refine OpsW.str H (by (first | exact p0 | exact p1 | exact p2 | exact p3 | exact p4 | exact p5 | exact p6 | exact p7)) rfl rfl rfl rfl rfl rfl (by first | decide | (simp; done) | (simp; omega)) fun _ H => ?_ | refine OpsW.strA H (by (first | exact p0 | exact p1 | exact p2 | exact p3 | exact p4 | exact p5 | exact p6 | exact p7)) rfl rfl rfl rfl rfl rfl (by first | decide | (simp; done) | (simp; omega)) fun _ H => ?_) | (refine CW.go ?_; first | refine CW.condT rfl ?_ | refine CW.condF rfl ?_ | refine CW.seqR ?_ | refine CW.seqDc ?_ | refine CW.seqDb ?_ | refine CW.seqDl ?_ | refine CW.seqDs ?_ | refine CW.seqDk ?_ | refine CW.block ?_ | refine CW.region ?_ | refine CW.ret ?_ | refine CW.exit ?_ | refine CW.skip ?_) | refine OpsW.nil ?_)
        refine OpsW.call rfl rfl rfl (via H (by exact r1) fun H => store_nodeKey H (sO_ok r) 0 1) ?_
        rw [sO_nk]
        rintro _ w ⟨rfl, H⟩
        repeat' (first | (refine OpsW.go ?_; first | refine OpsW.st rfl ?_ | refine OpsW.ld H (by (first | exact p0 | exact p1 | exact p2 | exact p3 | exact p4 | exact p5 | exact p6 | exact p7)) rfl rfl rfl rfl (by rfl) rfl ?_ | refine OpsW.ldA H (by (first | exact p0 | exact p1 | exact p2 | exact p3 | exact p4 | exact p5 | exact p6 | exact p7)) rfl rfl rfl (by rfl) rfl ?_ | refine OpsW.box H rfl rfl rfl fun _ _ H => ?_ | refine OpsW.alloc H rfl rfl rfl rfl fun _ _ H => ?_ | refine OpsW.str H (by (first | exact p0 | exact p1 | exact p2 | exact p3 | exact p4 | exact p5 | exact p6 | exact p7)) rfl rfl rfl rfl rfl rfl (by first | decide | (simp; done) | (simp; omega)) fun _ H => ?_ | refine OpsW.strA H (by (first | exact p0 | exact p1 | exact p2 | exact p3 | exact p4 | exact p5 | exact p6 | exact p7)) rfl rfl rfl rfl rfl rfl (by first | decide | (simp; done) | (simp; omega)) fun _ H => ?_) | (refine CW.go ?_; first | refine CW.condT rfl ?_ | refine CW.condF rfl ?_ | refine CW.seqR ?_ | refine CW.seqDc ?_ | refine CW.seqDb ?_ | refine CW.seqDl ?_ | refine CW.seqDs ?_ | refine CW.seqDk ?_ | refine CW.block ?_ | refine CW.region ?_ | refine CW.ret ?_ | refine CW.exit ?_ | refine CW.skip ?_) | refine OpsW.nil ?_)
        exact ⟨(sO r, kN), (by (repeat (first | (with_reducible exact Agree.refl _ _) | (with_reducible refine Agree.trim (by assumption) ?_) | refine Agree.upd ?_ rfl | exact Agree.mix' | refine Agree.mixL ?_ (fun j h => by simp only [Bool.or_eq_true, Bool.and_eq_true, Nat.beq_eq, Nat.ble_eq] at h ⊢; omega) rfl))), trivial, ⟨sO_w1 r hr8, sO_ok r, by show (0 : Int) ≤ 1; decide, sO_d r⟩, mc4 ⟨hg1, hg.2⟩ H⟩
  clear H hg0 hg
  rintro ⟨s, k⟩ τ w ⟨⟨hw, hs, hk, hd⟩, H⟩
  dsimp only at hw hs hk hd H
  repeat' (first | (refine OpsW.go ?_; first | refine OpsW.st rfl ?_ | refine OpsW.ld H (by (first | exact p0 | exact p1 | exact p2 | exact p3 | exact p4 | exact p5 | exact p6 | exact p7)) rfl rfl rfl rfl (by rfl) rfl ?_ | refine OpsW.ldA H (by (first | exact p0 | exact p1 | exact p2 | exact p3 | exact p4 | exact p5 | exact p6 | exact p7)) rfl rfl rfl (by rfl) rfl ?_ | refine OpsW.box H rfl rfl rfl fun _ _ H => ?_ | refine OpsW.alloc H rfl rfl rfl rfl fun _ _ H => ?_ | refine OpsW.str H (by (first | exact p0 | exact p1 | exact p2 | exact p3 | exact p4 | exact p5 | exact p6 | exact p7)) rfl rfl rfl rfl rfl rfl (by first | decide | (simp; done) | (simp; omega)) fun _ H => ?_ | refine OpsW.strA H (by (first | exact p0 | exact p1 | exact p2 | exact p3 | exact p4 | exact p5 | exact p6 | exact p7)) rfl rfl rfl rfl rfl rfl (by first | decide | (simp; done) | (simp; omega)) fun _ H => ?_) | (refine CW.go ?_; first | refine CW.condT rfl ?_ | refine CW.condF rfl ?_ | refine CW.seqR ?_ | refine CW.seqDc ?_ | refine CW.seqDb ?_ | refine CW.seqDl ?_ | refine CW.seqDs ?_ | refine CW.seqDk ?_ | refine CW.block ?_ | refine CW.region ?_ | refine CW.ret ?_ | refine CW.exit ?_ | refine CW.skip ?_) | refine OpsW.nil ?_)
  rw [show addr.tmod 32 = addr % 32 from Int.tmod_eq_emod_of_nonneg ha0]
  obtain ⟨o, ho⟩ := Int.eq_ofNat_of_zero_le (Int.emod_nonneg addr (show (32 : Int) ≠ 0 by decide))
  have ho32 : o < 32 := by omega
  rw [ho]
  refine OpsW.call rfl rfl rfl (mem_load (H.perm q1m) hs k o hk hd (by omega) (by omega) (by decide) (by decide) (by decide)) ?_
  rintro _ w ⟨rfl, H⟩
  repeat' (first | (refine OpsW.go ?_; first | refine OpsW.st rfl ?_ | refine OpsW.ld H (by (first | exact p0 | exact p1 | exact p2 | exact p3 | exact p4 | exact p5 | exact p6 | exact p7)) rfl rfl rfl rfl (by rfl) rfl ?_ | refine OpsW.ldA H (by (first | exact p0 | exact p1 | exact p2 | exact p3 | exact p4 | exact p5 | exact p6 | exact p7)) rfl rfl rfl (by rfl) rfl ?_ | refine OpsW.box H rfl rfl rfl fun _ _ H => ?_ | refine OpsW.alloc H rfl rfl rfl rfl fun _ _ H => ?_ | refine OpsW.str H (by (first | exact p0 | exact p1 | exact p2 | exact p3 | exact p4 | exact p5 | exact p6 | exact p7)) rfl rfl rfl rfl rfl rfl (by first | decide | (simp; done) | (simp; omega)) fun _ H => ?_ | refine OpsW.strA H (by (first | exact p0 | exact p1 | exact p2 | exact p3 | exact p4 | exact p5 | exact p6 | exact p7)) rfl rfl rfl rfl rfl rfl (by first | decide | (simp; done) | (simp; omega)) fun _ H => ?_) | (refine CW.go ?_; first | refine CW.condT rfl ?_ | refine CW.condF rfl ?_ | refine CW.seqR ?_ | refine CW.seqDc ?_ | refine CW.seqDb ?_ | refine CW.seqDl ?_ | refine CW.seqDs ?_ | refine CW.seqDk ?_ | refine CW.block ?_ | refine CW.region ?_ | refine CW.ret ?_ | refine CW.exit ?_ | refine CW.skip ?_) | refine OpsW.nil ?_)
  refine OpsW.call rfl rfl rfl (mem_save H hs k o x hk hd (by omega) (by omega) (by decide) (by decide) (by decide)) ?_
  rintro _ w ⟨rfl, H⟩
  repeat' (first | (refine OpsW.go ?_; first | refine OpsW.st rfl ?_ | refine OpsW.ld H (by (first | exact p0 | exact p1 | exact p2 | exact p3 | exact p4 | exact p5 | exact p6 | exact p7)) rfl rfl rfl rfl (by rfl) rfl ?_ | refine OpsW.ldA H (by (first | exact p0 | exact p1 | exact p2 | exact p3 | exact p4 | exact p5 | exact p6 | exact p7)) rfl rfl rfl (by rfl) rfl ?_ | refine OpsW.box H rfl rfl rfl fun _ _ H => ?_ | refine OpsW.alloc H rfl rfl rfl rfl fun _ _ H => ?_ | refine OpsW.str H (by (first | exact p0 | exact p1 | exact p2 | exact p3 | exact p4 | exact p5 | exact p6 | exact p7)) rfl rfl rfl rfl rfl rfl (by first | decide | (simp; done) | (simp; omega)) fun _ H => ?_ | refine OpsW.strA H (by (first | exact p0 | exact p1 | exact p2 | exact p3 | exact p4 | exact p5 | exact p6 | exact p7)) rfl rfl rfl rfl rfl rfl (by first | decide | (simp; done) | (simp; omega)) fun _ H => ?_) | (refine CW.go ?_; first | refine CW.condT rfl ?_ | refine CW.condF rfl ?_ | refine CW.seqR ?_ | refine CW.seqDc ?_ | refine CW.seqDb ?_ | refine CW.seqDl ?_ | refine CW.seqDs ?_ | refine CW.seqDk ?_ | refine CW.block ?_ | refine CW.region ?_ | refine CW.ret ?_ | refine CW.exit ?_ | refine CW.skip ?_) | refine OpsW.nil ?_)
  refine OpsW.call rfl rfl rfl (mem_load H (saveS_ok hs) k o hk (saveS_data hd) (by omega) (by omega) (by decide) (by decide) (by decide)) ?_
  rintro _ w ⟨rfl, H⟩
  have hwo := hw o ho32
  have hlo := load_ok hwo.1
  have hso := save_of hwo
  repeat' (first | (refine OpsW.go ?_; first | refine OpsW.st rfl ?_ | refine OpsW.ld H (by (first | exact p0 | exact p1 | exact p2 | exact p3 | exact p4 | exact p5 | exact p6 | exact p7)) rfl rfl rfl rfl (by rfl) rfl ?_ | refine OpsW.ldA H (by (first | exact p0 | exact p1 | exact p2 | exact p3 | exact p4 | exact p5 | exact p6 | exact p7)) rfl rfl rfl (by rfl) rfl ?_ | refine OpsW.box H rfl rfl rfl fun _ _ H => ?_ | refine OpsW.alloc H rfl rfl rfl rfl fun _ _ H => ?_ | refine OpsW.str H (by (first | exact p0 | exact p1 | exact p2 | exact p3 | exact p4 | exact p5 | exact p6 | exact p7)) rfl rfl rfl rfl rfl rfl (by first | decide | (simp; done) | (simp; omega)) fun _ H => ?_ | refine OpsW.strA H (by (first | exact p0 | exact p1 | exact p2 | exact p3 | exact p4 | exact p5 | exact p6 | exact p7)) rfl rfl rfl rfl rfl rfl (by first | decide | (simp; done) | (simp; omega)) fun _ H => ?_) | (refine CW.go ?_; first | refine CW.condT rfl ?_ | refine CW.condF rfl ?_ | refine CW.seqR ?_ | refine CW.seqDc ?_ | refine CW.seqDb ?_ | refine CW.seqDl ?_ | refine CW.seqDs ?_ | refine CW.seqDk ?_ | refine CW.block ?_ | refine CW.region ?_ | refine CW.ret ?_ | refine CW.exit ?_ | refine CW.skip ?_) | refine OpsW.nil ?_)
  rw [i64_and5, hr]
  cases hro : roR r
  · have hro' : (bits .and .i64 (r : Int) 5 != 0) = false := hro
    rw [hro] at hso
    have hs0 : s.save k o = 0 := hso
    have hls := load_save (s := s) (k := k) (addr := o) (x := x) (by omega) hs0
    rw [hro', hs0, hls]
    obtain ⟨bc, ws, hits, hg, H2⟩ := mc_open (H.perm p3)
    replace H := H2.perm r2
    clear H2
    repeat' (first | (refine OpsW.go ?_; first | refine OpsW.st rfl ?_ | refine OpsW.ld H (by (first | exact p0 | exact p1 | exact p2 | exact p3 | exact p4 | exact p5 | exact p6 | exact p7)) rfl rfl rfl rfl (by rfl) rfl ?_ | refine OpsW.ldA H (by (first | exact p0 | exact p1 | exact p2 | exact p3 | exact p4 | exact p5 | exact p6 | exact p7)) rfl rfl rfl (by rfl) rfl ?_ | refine OpsW.box H rfl rfl rfl fun _ _ H => ?_ | refine OpsW.alloc H rfl rfl rfl rfl fun _ _ H => ?_ | refine OpsW.str H (by (first | exact p0 | exact p1 | exact p2 | exact p3 | exact p4 | exact p5 | exact p6 | exact p7)) rfl rfl rfl rfl rfl rfl (by first | decide | (simp; done) | (simp; omega)) fun _ H => ?_ | refine OpsW.strA H (by (first | exact p0 | exact p1 | exact p2 | exact p3 | exact p4 | exact p5 | exact p6 | exact p7)) rfl rfl rfl rfl rfl rfl (by first | decide | (simp; done) | (simp; omega)) fun _ H => ?_) | (refine CW.go ?_; first | refine CW.condT rfl ?_ | refine CW.condF rfl ?_ | refine CW.seqR ?_ | refine CW.seqDc ?_ | refine CW.seqDb ?_ | refine CW.seqDl ?_ | refine CW.seqDs ?_ | refine CW.seqDk ?_ | refine CW.block ?_ | refine CW.region ?_ | refine CW.ret ?_ | refine CW.exit ?_ | refine CW.skip ?_) | refine OpsW.nil ?_)
    have hwf : ((s.saveS k o x).walk k o).2.1 = 0 := by
      rw [walk_saveS]; exact hwo.1
    (first | refine CW.drawN mo H fun w H => ?_ | refine CW.seqDrawN mo H fun w H => ?_)
    repeat' (first | refine AnyN.take (i := 0) rfl rfl rfl (by decide +kernel) ?_ | refine AnyN.take (i := 1) rfl rfl rfl (by decide +kernel) ?_ | refine AnyN.take (i := 2) rfl rfl rfl (by decide +kernel) ?_ | refine AnyN.take (i := 3) rfl rfl rfl (by decide +kernel) ?_ | refine AnyN.take (i := 4) rfl rfl rfl (by decide +kernel) ?_ | refine AnyN.take (i := 5) rfl rfl rfl (by decide +kernel) ?_ | refine AnyN.take (i := 6) rfl rfl rfl (by decide +kernel) ?_ | refine AnyN.take (i := 7) rfl rfl rfl (by decide +kernel) ?_ | refine AnyN.take (i := 8) rfl rfl rfl (by decide +kernel) ?_ | refine AnyN.take (i := 9) rfl rfl rfl (by decide +kernel) ?_ | refine AnyN.take (i := 10) rfl rfl rfl (by decide +kernel) ?_ | refine AnyN.take (i := 11) rfl rfl rfl (by decide +kernel) ?_ | refine AnyN.take (i := 12) rfl rfl rfl (by decide +kernel) ?_ | refine AnyN.take (i := 13) rfl rfl rfl (by decide +kernel) ?_ | refine AnyN.take (i := 14) rfl rfl rfl (by decide +kernel) ?_ | refine AnyN.take (i := 15) rfl rfl rfl (by decide +kernel) ?_ | refine AnyN.take (i := 16) rfl rfl rfl (by decide +kernel) ?_ | refine AnyN.take (i := 17) rfl rfl rfl (by decide +kernel) ?_ | refine AnyN.take (i := 18) rfl rfl rfl (by decide +kernel) ?_ | refine AnyN.take (i := 19) rfl rfl rfl (by decide +kernel) ?_ | refine AnyN.take (i := 20) rfl rfl rfl (by decide +kernel) ?_ | refine AnyN.take (i := 21) rfl rfl rfl (by decide +kernel) ?_ | refine AnyN.take (i := 22) rfl rfl rfl (by decide +kernel) ?_ | refine AnyN.take (i := 23) rfl rfl rfl (by decide +kernel) ?_ | refine AnyN.take (i := 24) rfl rfl rfl (by decide +kernel) ?_ | refine AnyN.take (i := 25) rfl rfl rfl (by decide +kernel) ?_ | refine AnyN.take (i := 26) rfl rfl rfl (by decide +kernel) ?_ | refine AnyN.take (i := 27) rfl rfl rfl (by decide +kernel) ?_)
    repeat' (first | exact AllI.nil' rfl | refine AllI.cons' rfl rfl ?_ ?_ | (first | refine AnyN.take (i := 0) rfl rfl rfl (by decide +kernel) ?_ | refine AnyN.take (i := 1) rfl rfl rfl (by decide +kernel) ?_ | refine AnyN.take (i := 2) rfl rfl rfl (by decide +kernel) ?_ | refine AnyN.take (i := 3) rfl rfl rfl (by decide +kernel) ?_ | refine AnyN.take (i := 4) rfl rfl rfl (by decide +kernel) ?_ | refine AnyN.take (i := 5) rfl rfl rfl (by decide +kernel) ?_ | refine AnyN.take (i := 6) rfl rfl rfl (by decide +kernel) ?_ | refine AnyN.take (i := 7) rfl rfl rfl (by decide +kernel) ?_ | refine AnyN.take (i := 8) rfl rfl rfl (by decide +kernel) ?_ | refine AnyN.take (i := 9) rfl rfl rfl (by decide +kernel) ?_ | refine AnyN.take (i := 10) rfl rfl rfl (by decide +kernel) ?_ | refine AnyN.take (i := 11) rfl rfl rfl (by decide +kernel) ?_ | refine AnyN.take (i := 12) rfl rfl rfl (by decide +kernel) ?_ | refine AnyN.take (i := 13) rfl rfl rfl (by decide +kernel) ?_ | refine AnyN.take (i := 14) rfl rfl rfl (by decide +kernel) ?_ | refine AnyN.take (i := 15) rfl rfl rfl (by decide +kernel) ?_ | refine AnyN.take (i := 16) rfl rfl rfl (by decide +kernel) ?_ | refine AnyN.take (i := 17) rfl rfl rfl (by decide +kernel) ?_ | refine AnyN.take (i := 18) rfl rfl rfl (by decide +kernel) ?_ | refine AnyN.take (i := 19) rfl rfl rfl (by decide +kernel) ?_ | refine AnyN.take (i := 20) rfl rfl rfl (by decide +kernel) ?_ | refine AnyN.take (i := 21) rfl rfl rfl (by decide +kernel) ?_ | refine AnyN.take (i := 22) rfl rfl rfl (by decide +kernel) ?_ | refine AnyN.take (i := 23) rfl rfl rfl (by decide +kernel) ?_ | refine AnyN.take (i := 24) rfl rfl rfl (by decide +kernel) ?_ | refine AnyN.take (i := 25) rfl rfl rfl (by decide +kernel) ?_ | refine AnyN.take (i := 26) rfl rfl rfl (by decide +kernel) ?_ | refine AnyN.take (i := 27) rfl rfl rfl (by decide +kernel) ?_) | refine AnyN.step rfl rfl ?_ | (first | (refine OpsW.go ?_; first | refine OpsW.st rfl ?_ | refine OpsW.ld H (by (first | exact p0 | exact p1 | exact p2 | exact p3 | exact p4 | exact p5 | exact p6 | exact p7)) rfl rfl rfl rfl (by rfl) rfl ?_ | refine OpsW.ldA H (by (first | exact p0 | exact p1 | exact p2 | exact p3 | exact p4 | exact p5 | exact p6 | exact p7)) rfl rfl rfl (by rfl) rfl ?_ | refine OpsW.box H rfl rfl rfl fun _ _ H => ?_ | refine OpsW.alloc H rfl rfl rfl rfl fun _ _ H => ?_ | refine OpsW.str H (by (first | exact p0 | exact p1 | exact p2 | exact p3 | exact p4 | exact p5 | exact p6 | exact p7)) rfl rfl rfl rfl rfl rfl (by first | decide | (simp; done) | (simp; omega)) fun _ H => ?_ | refine OpsW.strA H (by (first | exact p0 | exact p1 | exact p2 | exact p3 | exact p4 | exact p5 | exact p6 | exact p7)) rfl rfl rfl rfl rfl rfl (by first | decide | (simp; done) | (simp; omega)) fun _ H => ?_) | (refine CW.go ?_; first | refine CW.condT rfl ?_ | refine CW.condF rfl ?_ | refine CW.seqR ?_ | refine CW.seqD ?_ | refine CW.block ?_ | refine CW.region ?_ | refine CW.ret ?_ | refine CW.exit ?_ | refine CW.skip ?_) | refine OpsW.nil ?_) | (refine OpsW.call rfl rfl rfl (via H (by first | exact .refl _ | exact r1 | exact r2) fun H => walk_ H (saveS_ok hs) k o hk (saveS_data hd) (by omega) (by omega)) ?_; rintro _ w ⟨rfl, H⟩))
    all_goals
      refine AnyN.done rfl ?_
      rw [hwf, hlo]
      repeat' (first | (refine OpsW.go ?_; first | refine OpsW.st rfl ?_ | refine OpsW.ld H (by (first | exact p0 | exact p1 | exact p2 | exact p3 | exact p4 | exact p5 | exact p6 | exact p7)) rfl rfl rfl rfl (by rfl) rfl ?_ | refine OpsW.ldA H (by (first | exact p0 | exact p1 | exact p2 | exact p3 | exact p4 | exact p5 | exact p6 | exact p7)) rfl rfl rfl (by rfl) rfl ?_ | refine OpsW.box H rfl rfl rfl fun _ _ H => ?_ | refine OpsW.alloc H rfl rfl rfl rfl fun _ _ H => ?_ | refine OpsW.str H (by (first | exact p0 | exact p1 | exact p2 | exact p3 | exact p4 | exact p5 | exact p6 | exact p7)) rfl rfl rfl rfl rfl rfl (by first | decide | (simp; done) | (simp; omega)) fun _ H => ?_ | refine OpsW.strA H (by (first | exact p0 | exact p1 | exact p2 | exact p3 | exact p4 | exact p5 | exact p6 | exact p7)) rfl rfl rfl rfl rfl rfl (by first | decide | (simp; done) | (simp; omega)) fun _ H => ?_) | (refine CW.go ?_; first | refine CW.condT rfl ?_ | refine CW.condF rfl ?_ | refine CW.seqR ?_ | refine CW.seqDc ?_ | refine CW.seqDb ?_ | refine CW.seqDl ?_ | refine CW.seqDs ?_ | refine CW.seqDk ?_ | refine CW.block ?_ | refine CW.region ?_ | refine CW.ret ?_ | refine CW.exit ?_ | refine CW.skip ?_) | refine OpsW.nil ?_)
      refine OpsW.gs rfl rfl rfl (fun _ => ?_) (fun h' => absurd h' (by simp))
      repeat' (first | (refine OpsW.go ?_; first | refine OpsW.st rfl ?_ | refine OpsW.ld H (by (first | exact p0 | exact p1 | exact p2 | exact p3 | exact p4 | exact p5 | exact p6 | exact p7)) rfl rfl rfl rfl (by rfl) rfl ?_ | refine OpsW.ldA H (by (first | exact p0 | exact p1 | exact p2 | exact p3 | exact p4 | exact p5 | exact p6 | exact p7)) rfl rfl rfl (by rfl) rfl ?_ | refine OpsW.box H rfl rfl rfl fun _ _ H => ?_ | refine OpsW.alloc H rfl rfl rfl rfl fun _ _ H => ?_ | refine OpsW.str H (by (first | exact p0 | exact p1 | exact p2 | exact p3 | exact p4 | exact p5 | exact p6 | exact p7)) rfl rfl rfl rfl rfl rfl (by first | decide | (simp; done) | (simp; omega)) fun _ H => ?_ | refine OpsW.strA H (by (first | exact p0 | exact p1 | exact p2 | exact p3 | exact p4 | exact p5 | exact p6 | exact p7)) rfl rfl rfl rfl rfl rfl (by first | decide | (simp; done) | (simp; omega)) fun _ H => ?_) | (refine CW.go ?_; first | refine CW.condT rfl ?_ | refine CW.condF rfl ?_ | refine CW.seqR ?_ | refine CW.seqDc ?_ | refine CW.seqDb ?_ | refine CW.seqDl ?_ | refine CW.seqDs ?_ | refine CW.seqDk ?_ | refine CW.block ?_ | refine CW.region ?_ | refine CW.ret ?_ | refine CW.exit ?_ | refine CW.skip ?_) | refine OpsW.nil ?_)
      exact ret1 rfl ⟨rfl, by (first | exact H | exact H.drop | exact H.d2 | exact H.d3 | exact H.d4 | exact H.d5 | exact H.d6 | exact H.d7)⟩
  · have hro' : (bits .and .i64 (r : Int) 5 != 0) = true := hro
    rw [hro] at hso
    have hs4 : s.save k o = 4 := hso
    rw [saveS_no (by rw [hs4]; decide)] at H ⊢
    rw [hro', hs4, hlo]
    repeat' (first | (refine OpsW.go ?_; first | refine OpsW.st rfl ?_ | refine OpsW.ld H (by (first | exact p0 | exact p1 | exact p2 | exact p3 | exact p4 | exact p5 | exact p6 | exact p7)) rfl rfl rfl rfl (by rfl) rfl ?_ | refine OpsW.ldA H (by (first | exact p0 | exact p1 | exact p2 | exact p3 | exact p4 | exact p5 | exact p6 | exact p7)) rfl rfl rfl (by rfl) rfl ?_ | refine OpsW.box H rfl rfl rfl fun _ _ H => ?_ | refine OpsW.alloc H rfl rfl rfl rfl fun _ _ H => ?_ | refine OpsW.str H (by (first | exact p0 | exact p1 | exact p2 | exact p3 | exact p4 | exact p5 | exact p6 | exact p7)) rfl rfl rfl rfl rfl rfl (by first | decide | (simp; done) | (simp; omega)) fun _ H => ?_ | refine OpsW.strA H (by (first | exact p0 | exact p1 | exact p2 | exact p3 | exact p4 | exact p5 | exact p6 | exact p7)) rfl rfl rfl rfl rfl rfl (by first | decide | (simp; done) | (simp; omega)) fun _ H => ?_) | (refine CW.go ?_; first | refine CW.condT rfl ?_ | refine CW.condF rfl ?_ | refine CW.seqR ?_ | refine CW.seqDc ?_ | refine CW.seqDb ?_ | refine CW.seqDl ?_ | refine CW.seqDs ?_ | refine CW.seqDk ?_ | refine CW.block ?_ | refine CW.region ?_ | refine CW.ret ?_ | refine CW.exit ?_ | refine CW.skip ?_) | refine OpsW.nil ?_)
    refine ret1 rfl ⟨?_, by (first | exact H | exact H.drop | exact H.d2 | exact H.d3 | exact H.d4 | exact H.d5 | exact H.d6 | exact H.d7)⟩
    show Value.bool (_ == _) = _
    rw [beq_self_eq_true]
end Go.Proofs.YtnfefbhjdncccaaDoor.X
