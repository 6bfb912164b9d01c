/- Chapter 17: the memory and the document's system that its laws make; the first example; conditions: none. -/
import Derived.Test.YtnfefbhjdncccaaDoorA17s
import Derived.Test.YtnfefbhjdncccaaDoorA8z
import Derived.Test.YtnfefbhjdncccaaDoorL11w
namespace Go.Proofs.YtnfefbhjdncccaaDoor.X
open Go Go.Proofs
set_option linter.unusedSimpArgs false
set_option linter.unusedVariables false
/-- The errors that chapter 17 may meet. -/
structure EC (As : List HP) (ads : List Addr) : Prop where
  s : GlobV As 5 (eA ads 2)
  r : GlobV As 1 (eA ads 3)
  m : GlobV As 0 (eA ads 4)
  f : GlobV As 2 (eA ads 6)
  w : GlobV As 4 (eA ads 11)
theorem EC.tail {As : List HP} {ads : List Addr} {A : HP} (h : EC As ads) : EC (A :: As) ads := ⟨h.s.tail, h.r.tail, h.m.tail, h.f.tail, h.w.tail⟩
theorem errsC {W : World} (h : Errs W 237 [5, 1, 0, 2, 4]) : ∃ ads : List Addr, EC [snap W] ads := by
  obtain ⟨a, ha⟩ := h.get 0 rfl
  obtain ⟨b, hb⟩ := h.get 1 rfl
  obtain ⟨c, hc⟩ := h.get 2 rfl
  obtain ⟨d, hd⟩ := h.get 3 rfl
  obtain ⟨e, he⟩ := h.get 4 rfl
  exact ⟨[a, a, b, c, a, d, a, a, a, a, e], ha, hb, hc, hd, he⟩
section
variable {z w : World} {Rs As : List HP} {bn bp bs ba b : Nat} {s : St} {ads : List Addr}
theorem st_pageMakeC (H : Sat z w (blk bs 38 [.pointer (some ⟨bn, 0, none⟩), .pointer (some ⟨bp, 0, none⟩)] :: nodesP bn s :: pagesP bp s :: Rs)) (hs : s.ok) (hE : EC Rs ads) (v : Value) (l : List Int) (hl : l.length ≤ 32) (hv : SlR Rs v 1 l.length (l.map (.int .u32))) (q : Nat) (hq : fst_ s.M s.g = some q) :
    Spec cf 18 #[.pointer (some ⟨bp, 0, none⟩), v] w fun e w' => e = .tuple #[.int .i64 q, .int .i64 (s.g q).ver, .nilIface] ∧ Sat z w' (blk bs 38 [.pointer (some ⟨bn, 0, none⟩), .pointer (some ⟨bp, 0, none⟩)] :: nodesP bn (s.newP q l) :: pagesP bp (s.newP q l) :: Rs) := by
  obtain ⟨ba, b, H⟩ := pages_open (H.perm (pS (pS p0)))
  have g6 : GlobV (blk bs 38 [.pointer (some ⟨bn, 0, none⟩), .pointer (some ⟨bp, 0, none⟩)] :: nodesP bn s :: Rs) 2 (errV (ads.getD 5 ⟨0, 0, none⟩)) := hE.f.tail.tail
  obtain ⟨h1, h2, h3⟩ := fst_some hq
  exact (page_make H hs.m1 g6 v l hl hv.tail.tail q h1 h2 h3).mono fun e w h4 => ⟨h4.1, (pages_close (s := s.newP q l) h4.2).perm (pS (pS p0)).symm⟩
theorem st_nodeMakeC (H : Sat z w (blk bs 38 [.pointer (some ⟨bn, 0, none⟩), .pointer (some ⟨bp, 0, none⟩)] :: nodesP bn s :: pagesP bp s :: Rs)) (hs : s.ok) (hE : EC Rs ads) (v : Value) (l : List K) (hl : l.length ≤ 16) (hok : fitE l = 0) (hv : SlR Rs v 5 l.length (l.flatMap K.l)) (q : Nat) (hq : fst_ s.N s.f = some q) :
    Spec cf 17 #[.pointer (some ⟨bn, 0, none⟩), v] w fun e w' => e = .tuple #[.int .i64 q, .int .i64 (s.f q).ver, .nilIface] ∧ Sat z w' (blk bs 38 [.pointer (some ⟨bn, 0, none⟩), .pointer (some ⟨bp, 0, none⟩)] :: nodesP bn (s.newN q l) :: pagesP bp (s.newN q l) :: Rs) := by
  obtain ⟨ba, b, H⟩ := nodes_open (H.perm (pS p0))
  have g2 : GlobV (blk bs 38 [.pointer (some ⟨bn, 0, none⟩), .pointer (some ⟨bp, 0, none⟩)] :: pagesP bp s :: Rs) 5 (errV (ads.getD 1 ⟨0, 0, none⟩)) := hE.s.tail.tail
  have g3 : GlobV (blk bs 38 [.pointer (some ⟨bn, 0, none⟩), .pointer (some ⟨bp, 0, none⟩)] :: pagesP bp s :: Rs) 1 (errV (ads.getD 2 ⟨0, 0, none⟩)) := hE.r.tail.tail
  have g4 : GlobV (blk bs 38 [.pointer (some ⟨bn, 0, none⟩), .pointer (some ⟨bp, 0, none⟩)] :: pagesP bp s :: Rs) 0 (errV (ads.getD 3 ⟨0, 0, none⟩)) := hE.m.tail.tail
  have g6 : GlobV (blk bs 38 [.pointer (some ⟨bn, 0, none⟩), .pointer (some ⟨bp, 0, none⟩)] :: pagesP bp s :: Rs) 2 (errV (ads.getD 5 ⟨0, 0, none⟩)) := hE.f.tail.tail
  obtain ⟨h1, h2, h3⟩ := fst_some hq
  exact (node_make H hs.n1 g2 g3 g4 g6 v l hl hok hv.tail.tail q h1 h2 h3).mono fun e w h4 => ⟨h4.1, (nodes_close (s := s.newN q l) h4.2).perm (pS p0).symm⟩
end
def k17 : K := ⟨2, 0, 0, 0, 1⟩
def sA17 : St := St.new 2 4
def sB17 (l : List Int) : St := sA17.newP 0 l
def sC17 (l : List Int) : St := (sB17 l).newP 1 []
def s17 (l : List Int) : St := (sC17 l).newN 0 [wQ 0, wQ 1]
theorem sA17_ok : sA17.ok := ok_new (by decide) (by decide) (by decide) (by decide)
theorem sB17_ok (l : List Int) : (sB17 l).ok := sA17_ok.newP
theorem sC17_ok (l : List Int) : (sC17 l).ok := (sB17_ok l).newP
theorem s17_ok (l : List Int) : (s17 l).ok := (sC17_ok l).newN
theorem sA17_fst : fst_ sA17.M sA17.g = some 0 := by kernel_rfl
theorem sB17_fst (l : List Int) : fst_ (sB17 l).M (sB17 l).g = some 1 := by
  have : fst_ (sB17 []).M (sB17 []).g = some 1 := by kernel_rfl
  exact this
theorem sC17_fst (l : List Int) : fst_ (sC17 l).N (sC17 l).f = some 0 := by
  have : fst_ (sC17 []).N (sC17 []).f = some 0 := by kernel_rfl
  exact this
theorem sC17_pk0 (l : List Int) : (sC17 l).pageKey 0 = wQ 0 := by
  have : (sC17 []).pageKey 0 = wQ 0 := by kernel_rfl
  exact this
theorem sC17_pk1 (l : List Int) : (sC17 l).pageKey 1 = wQ 1 := by
  have : (sC17 []).pageKey 1 = wQ 1 := by kernel_rfl
  exact this
theorem s17_nk (l : List Int) : (s17 l).nodeKey 0 1 = k17 := by
  have : (s17 []).nodeKey 0 1 = k17 := by kernel_rfl
  exact this
theorem sA17_there : (sA17.g 0).there = false := rfl
theorem sB17_there (l : List Int) : ((sB17 l).g 1).there = false := by
  have : ((sB17 []).g 1).there = false := by kernel_rfl
  exact this
theorem sC17_there (l : List Int) : ((sC17 l).f 0).there = false := by
  have : ((sC17 []).f 0).there = false := by kernel_rfl
  exact this
theorem sC17_t (l : List Int) (q : Nat) (h : q < 2) : ((sC17 l).g q).there = true ∧ ((sC17 l).g q).ver = 0 := by
  have : ∀ q : Nat, q < 2 → ((sC17 []).g q).there = true ∧ ((sC17 []).g q).ver = 0 := by decide +kernel
  exact this q h
theorem sA17_M : sA17.M ≤ 64 := by show 4 ≤ 64; decide
theorem sB17_M (l : List Int) : (sB17 l).M ≤ 64 := by show 4 ≤ 64; decide
theorem sC17_M (l : List Int) : (sC17 l).M ≤ 64 := by show 4 ≤ 64; decide
theorem sC17_N (l : List Int) : (sC17 l).N ≤ 64 := by show 2 ≤ 64; decide
theorem sC17_q (l : List Int) (q : Nat) (h : q < 2) : q < (sC17 l).M := by show q < 4; omega
def Dm.z : Dm := ⟨fun _ => 0, 0, 0, 0, fun _ => K.void, K.void, K.void, K.void, 0⟩
theorem dmz_ok : DOk Dm.z := ⟨fun _ => Int.le_refl 0, fun _ => by show (0 : Int) < 4294967296; decide, Int.le_refl 0, by decide, fun _ => Int.le_refl 0, fun _ => by show (0 : Int) < 4294967296; decide, Int.le_refl 0⟩
theorem Ev.fault_ (e : Ev) : e.l[26]? = some (.int .i64 e.fault) := rfl
theorem Ev.addr_ (e : Ev) : e.l[27]? = some (.int .u32 e.addr) := rfl
theorem loadz17 : (s17 []).load K.void 0 = (0, 2) := by kernel_rfl
theorem stepz17 : stepP (s17 []) Dm.z = (Ev.bad 2 0, Dm.z, s17 []) := by
  have : (s17 []).load Dm.z.mem Dm.z.pc = (0, 2) := loadz17
  unfold stepP
  rw [this, if_pos (by decide)]; rfl
theorem s17_m (l : List Int) (hw : ∀ n ∈ l, 0 ≤ n ∧ n < 4294967296) (hb : Nat) (h : hb ≤ 900000) : MOk (s17 l) hb := by
  refine ⟨s17_ok l, fun a c => ?_, fun a c => ?_, fun a c => ?_, h⟩
  · show 0 ≤ ((if a = 0 then (fun i => ([wQ 0, wQ 1] : List K).getD i K.void) else fun _ => K.void) c).data
    split
    · match c with
      | 0 => exact Int.le_refl 0
      | 1 => exact Int.le_refl 0
      | c + 2 => exact Int.le_refl 0
    · exact Int.le_refl 0
  · show 0 ≤ (if a = 1 then (fun i => ([] : List Int).getD i 0) else if a = 0 then (fun i => l.getD i 0) else fun _ => 0) c
    split
    · exact Int.le_refl 0
    · split
      · show 0 ≤ l.getD c 0
        rw [List.getD_eq_getElem?_getD]
        cases h : l[c]? with
        | none => exact Int.le_refl 0
        | some n => exact (hw n (List.mem_of_getElem? h)).1
      · exact Int.le_refl 0
  · show (if a = 1 then (fun i => ([] : List Int).getD i 0) else if a = 0 then (fun i => l.getD i 0) else fun _ => 0) c < 4294967296
    split
    · show (0 : Int) < 4294967296; decide
    · split
      · show l.getD c 0 < 4294967296
        rw [List.getD_eq_getElem?_getD]
        cases h : l[c]? with
        | none => show (0 : Int) < 4294967296; decide
        | some n => exact (hw n (List.mem_of_getElem? h)).2
      · show (0 : Int) < 4294967296; decide
theorem dmF {z w : World} {Rs : List HP} {b E : Nat} {l : List Value} (d : Dm) (H : Sat z w (blk b E l :: Rs)) (h : l = d.c) : Sat z w (blk b E d.c :: Rs) := h ▸ H
attribute [local irreducible] CW OpsW RetW Spec blk snap DrawP AnyW AnyM AnyN bits IntKind.wrap vec arena kds nds wds pgs eA nodesP pagesP cacheP wns St.walk St.put St.find mcP memP sA17 sB17 sC17 s17 syP Dm.c Ev.l
section
variable {z w : World} {As : List HP} {ads : List Addr}
set_option maxHeartbeats 4000000 in
set_option maxRecDepth 20000 in
theorem made17_ (H : Sat z w As) (hE : EC As ads) (v : Value) (l : List Int) (hl : l.length ≤ 32) (hv : SlR As v 1 l.length (l.map (.int .u32))) :
    Spec cf 31 #[v] w fun e w' => ∃ bm bx : Nat, e = .tuple #[.pointer (some ⟨bm, 0, none⟩), .pointer (some ⟨bx, 0, none⟩), k17.v] ∧ Sat z w' (memP bm 4 (s17 l) 0 :: syP bx (s17 l) :: As) := by
  obtain ⟨a, cap, rfl⟩ := lenW hv
  refine enter (l := [.slice a l.length cap]) Tryd.func31 rfl rfl rfl rfl rfl ?_
  repeat' (first | (refine zA ?_; first | refine zB ?_ | refine zC H ?_ | refine zD H ?_ | refine zE H fun _ _ H => ?_ | refine zF H fun _ _ H => ?_ | refine zG H fun _ H => ?_ | refine zH H fun _ H => ?_) | (refine zI ?_; first | refine zJ ?_ | refine zK ?_ | refine zL ?_ | refine zM ?_ | refine zN ?_ | refine zO ?_ | refine zP ?_ | refine zQ ?_ | refine zR ?_) | refine zS ?_)
  rename_i bk _
  refine OpsW.call rfl rfl rfl (mem_new H 2 4 (by decide) (by decide) (by decide) (by decide) 4 (by decide) (by decide)) ?_
  rintro _ w ⟨bm, bs, bn, bp, rfl, H⟩
  rw [show St.new 2 4 = sA17 by with_unfolding_all rfl] at H
  repeat' (first | (refine zA ?_; first | refine zB ?_) | (refine zI ?_; first | refine zJ ?_ | refine zK ?_ | refine zL ?_ | refine CW.seqDc ?_ | refine CW.seqDb ?_ | refine CW.seqDl ?_ | refine CW.seqDs ?_ | refine CW.seqDk ?_ | refine zN ?_ | refine zO ?_ | refine zP ?_ | refine zQ ?_ | refine zR ?_) | refine zS ?_)
  refine OpsW.call rfl rfl rfl (sy_small H 2 4 (by decide) (by decide) (by decide) (by decide)) ?_
  rintro _ w ⟨bx, rfl, H⟩
  rw [show St.new 2 4 = sA17 by with_unfolding_all rfl] at H
  replace H := H.perm q1m
  repeat' (first | (refine zA ?_; first | refine zB ?_) | (refine zI ?_; first | refine zJ ?_ | refine zK ?_ | refine zL ?_ | refine CW.seqDc ?_ | refine CW.seqDb ?_ | refine CW.seqDl ?_ | refine CW.seqDs ?_ | refine CW.seqDk ?_ | refine zN ?_ | refine zO ?_ | refine zP ?_ | refine zQ ?_ | refine zR ?_) | refine zS ?_)
  refine CW.cond rfl (fun h => absurd (of_decide_eq_true h) (by omega)) (fun _ => ?_)
  repeat' (first | (refine zA ?_; first | refine zB ?_) | (refine zI ?_; first | refine zJ ?_ | refine zK ?_ | refine zL ?_ | refine CW.seqDc ?_ | refine CW.seqDb ?_ | refine CW.seqDl ?_ | refine CW.seqDs ?_ | refine CW.seqDk ?_ | refine zN ?_ | refine zO ?_ | refine zP ?_ | refine zQ ?_ | refine zR ?_) | refine zS ?_)
  refine OpsW.ldmc H p3 rfl rfl rfl rfl rfl ?_
  repeat' (first | (refine zA ?_; first | refine zB ?_ | refine zC H ?_ | refine zD H ?_ | refine zE H fun _ _ H => ?_ | refine zF H fun _ _ H => ?_ | refine zG H fun _ H => ?_ | refine zH H fun _ H => ?_) | (refine zI ?_; first | refine zJ ?_ | refine zK ?_ | refine zL ?_ | refine CW.seqDc ?_ | refine CW.seqDb ?_ | refine CW.seqDl ?_ | refine CW.seqDs ?_ | refine CW.seqDk ?_ | refine zN ?_ | refine zO ?_ | refine zP ?_ | refine zQ ?_ | refine zR ?_) | refine zS ?_)
  refine OpsW.call rfl rfl rfl (st_pageMakeC H sA17_ok hE.tail.tail.tail _ l hl hv.tail.tail.tail 0 sA17_fst) ?_
  rintro _ w ⟨rfl, H⟩
  replace H := mc_to (s' := sA17.newP 0 l) (fun ws h => good_newP h sA17_there) H
  rw [show sA17.newP 0 l = sB17 l by with_unfolding_all rfl] at H
  repeat' (first | (refine zA ?_; first | refine zB ?_) | (refine zI ?_; first | refine zJ ?_ | refine zK ?_ | refine zL ?_ | refine CW.seqDc ?_ | refine CW.seqDb ?_ | refine CW.seqDl ?_ | refine CW.seqDs ?_ | refine CW.seqDk ?_ | refine zN ?_ | refine zO ?_ | refine zP ?_ | refine zQ ?_ | refine zR ?_) | refine zS ?_)
  refine OpsW.ldmc H p3 rfl rfl rfl rfl rfl ?_
  repeat' (first | (refine zA ?_; first | refine zB ?_ | refine zC H ?_ | refine zD H ?_ | refine zE H fun _ _ H => ?_ | refine zF H fun _ _ H => ?_ | refine zG H fun _ H => ?_ | refine zH H fun _ H => ?_) | (refine zI ?_; first | refine zJ ?_ | refine zK ?_ | refine zL ?_ | refine CW.seqDc ?_ | refine CW.seqDb ?_ | refine CW.seqDl ?_ | refine CW.seqDs ?_ | refine CW.seqDk ?_ | refine zN ?_ | refine zO ?_ | refine zP ?_ | refine zQ ?_ | refine zR ?_) | refine zS ?_)
  refine OpsW.call rfl rfl rfl (st_pageMakeC H (sB17_ok l) hE.tail.tail.tail _ [] (by decide) SlR.nil_ 1 (sB17_fst l)) ?_
  rintro _ w ⟨rfl, H⟩
  replace H := mc_to (s' := (sB17 l).newP 1 []) (fun ws h => good_newP h (sB17_there l)) H
  rw [show (sB17 l).newP 1 [] = sC17 l by with_unfolding_all rfl] at H
  repeat' (first | (refine zA ?_; first | refine zB ?_) | (refine zI ?_; first | refine zJ ?_ | refine zK ?_ | refine zL ?_ | refine CW.seqDc ?_ | refine CW.seqDb ?_ | refine CW.seqDl ?_ | refine CW.seqDs ?_ | refine CW.seqDk ?_ | refine zN ?_ | refine zO ?_ | refine zP ?_ | refine zQ ?_ | refine zR ?_) | refine zS ?_)
  have hp0 : ∀ {w : World} {R : List HP}, Sat z w (blk bs 38 [.pointer (some ⟨bn, 0, none⟩), .pointer (some ⟨bp, 0, none⟩)] :: nodesP bn (sC17 l) :: pagesP bp (sC17 l) :: R) → Spec cf 20 #[.pointer (some ⟨bs, 0, none⟩), .int .i64 0] w fun e w' => e = (wQ 0).v ∧ Sat z w' (blk bs 38 [.pointer (some ⟨bn, 0, none⟩), .pointer (some ⟨bp, 0, none⟩)] :: nodesP bn (sC17 l) :: pagesP bp (sC17 l) :: R) := fun {w R} H => by
    have := store_pageKey H (sC17_ok l) 0
    rw [sC17_pk0 l] at this; exact this
  have hp1 : ∀ {w : World} {R : List HP}, Sat z w (blk bs 38 [.pointer (some ⟨bn, 0, none⟩), .pointer (some ⟨bp, 0, none⟩)] :: nodesP bn (sC17 l) :: pagesP bp (sC17 l) :: R) → Spec cf 20 #[.pointer (some ⟨bs, 0, none⟩), .int .i64 1] w fun e w' => e = (wQ 1).v ∧ Sat z w' (blk bs 38 [.pointer (some ⟨bn, 0, none⟩), .pointer (some ⟨bp, 0, none⟩)] :: nodesP bn (sC17 l) :: pagesP bp (sC17 l) :: R) := fun {w R} H => by
    have := store_pageKey H (sC17_ok l) 1
    rw [sC17_pk1 l] at this; exact this
  (first | refine CW.seqDraw mo H [0, 1, 3, 7, 15, 31, 63, 0, 128, 384, 896, 1920, 0, 4096, 12288, 28672, 65408, 130944, 262143] fun w H => ?_ | refine CW.draw mo H [0, 1, 3, 7, 15, 31, 63, 0, 128, 384, 896, 1920, 0, 4096, 12288, 28672, 65408, 130944, 262143] fun w H => ?_); refine AnyW.segX (m := 18) (by kernel_rfl) (by kernel_rfl) H rfl ?_
  refine DrawX.cons rfl (fun X τ w H => OpsW.st rfl (OpsW.nil ⟨rfl, H⟩)) ?_
  refine DrawX.cons rfl (fun X τ w H => OpsW.st rfl (OpsW.nil ⟨rfl, H⟩)) ?_
  refine DrawX.cons rfl (fun X τ w H => OpsW.st rfl (OpsW.nil ⟨rfl, H⟩)) ?_
  refine DrawX.cons rfl (fun X τ w H => OpsW.ldmc H p4 rfl rfl rfl rfl rfl (OpsW.nil ⟨rfl, H⟩)) ?_
  refine DrawX.cons rfl (fun X τ w H => OpsW.st rfl (OpsW.nil ⟨rfl, H⟩)) ?_
  refine DrawX.cons rfl (fun X τ w H => OpsW.st rfl (OpsW.nil ⟨rfl, H⟩)) ?_
  refine DrawX.cons rfl (fun X τ w H => OpsW.ld H p1 rfl rfl rfl rfl (by rfl) rfl (OpsW.nil ⟨rfl, H⟩)) ?_
  refine DrawX.cons rfl (fun X τ w H => OpsW.st rfl (OpsW.nil ⟨rfl, H⟩)) ?_
  refine DrawX.cons rfl (fun X τ w H => OpsW.st rfl (OpsW.nil ⟨rfl, H⟩)) ?_
  refine DrawX.cons rfl (fun X τ w H => OpsW.st rfl (OpsW.nil ⟨rfl, H⟩)) ?_
  refine DrawX.cons rfl (fun X τ w H => OpsW.ldmc H p4 rfl rfl rfl rfl rfl (OpsW.nil ⟨rfl, H⟩)) ?_
  refine DrawX.cons rfl (fun X τ w H => OpsW.call rfl rfl rfl (via H (by exact r1) fun H => hp0 H) fun _ w h => by obtain ⟨rfl, H⟩ := h; exact OpsW.nil ⟨rfl, H⟩) ?_
  refine DrawX.cons rfl (fun X τ w H => OpsW.st rfl (OpsW.nil ⟨rfl, H⟩)) ?_
  refine DrawX.cons rfl (fun X τ w H => OpsW.st rfl (OpsW.nil ⟨rfl, H⟩)) ?_
  refine DrawX.cons rfl (fun X τ w H => OpsW.st rfl (OpsW.nil ⟨rfl, H⟩)) ?_
  refine DrawX.cons rfl (fun X τ w H => OpsW.ldmc H p4 rfl rfl rfl rfl rfl (OpsW.nil ⟨rfl, H⟩)) ?_
  refine DrawX.cons rfl (fun X τ w H => OpsW.call rfl rfl rfl (via H (by exact r1) fun H => hp1 H) fun _ w h => by obtain ⟨rfl, H⟩ := h; exact OpsW.nil ⟨rfl, H⟩) ?_
  refine DrawX.bsl (by kernel_rfl) rfl rfl rfl rfl rfl (fun τ => rfl) rfl ?_
  refine DrawX.nilS (q := 17) (fun _ => rfl) (fun _ => rfl) fun bb w H => ?_
  dsimp only
  refine AnyW.one (by kernel_rfl) (by kernel_rfl) rfl ?_
  refine OpsW.call rfl rfl rfl (st_nodeMakeC (H.perm r1) (sC17_ok l) hE.tail.tail.tail.tail _ [wQ 0, wQ 1] (by decide) (by decide) (SlR.of_blk (r := []) rfl (Nat.le_refl 2)) 0 (sC17_fst l)) ?_
  rintro _ w ⟨rfl, H⟩
  refine OpsW.nil ?_
  refine AnyW.done ?_
  replace H := (H.perm p3).drop
  replace H := mc_to (s' := (sC17 l).newN 0 [wQ 0, wQ 1]) (fun ws h => good_newN h (sC17_there l)) H
  rw [show (sC17 l).newN 0 [wQ 0, wQ 1] = s17 l by with_unfolding_all rfl] at H
  replace H := H.perm p4
  repeat' (first | (refine zA ?_; first | refine zB ?_) | (refine zI ?_; first | refine zJ ?_ | refine zK ?_ | refine zL ?_ | refine CW.seqDc ?_ | refine CW.seqDb ?_ | refine CW.seqDl ?_ | refine CW.seqDs ?_ | refine CW.seqDk ?_ | refine zN ?_ | refine zO ?_ | refine zP ?_ | refine zQ ?_ | refine zR ?_) | refine zS ?_)
  refine OpsW.call rfl rfl rfl (sy_makePage H sA17_M _ l hl hv.tail.tail.tail.tail.tail 0 sA17_fst) ?_
  rintro _ w ⟨rfl, H⟩
  rw [show sA17.newP 0 l = sB17 l by with_unfolding_all rfl] at H
  repeat' (first | (refine zA ?_; first | refine zB ?_) | (refine zI ?_; first | refine zJ ?_ | refine zK ?_ | refine zL ?_ | refine CW.seqDc ?_ | refine CW.seqDb ?_ | refine CW.seqDl ?_ | refine CW.seqDs ?_ | refine CW.seqDk ?_ | refine zN ?_ | refine zO ?_ | refine zP ?_ | refine zQ ?_ | refine zR ?_) | refine zS ?_)
  refine OpsW.call rfl rfl rfl (sy_makePage H (sB17_M l) _ [] (by decide) SlR.nil_ 1 (sB17_fst l)) ?_
  rintro _ w ⟨rfl, H⟩
  rw [show (sB17 l).newP 1 [] = sC17 l by with_unfolding_all rfl] at H
  repeat' (first | (refine zA ?_; first | refine zB ?_) | (refine zI ?_; first | refine zJ ?_ | refine zK ?_ | refine zL ?_ | refine CW.seqDc ?_ | refine CW.seqDb ?_ | refine CW.seqDl ?_ | refine CW.seqDs ?_ | refine CW.seqDk ?_ | refine zN ?_ | refine zO ?_ | refine zP ?_ | refine zQ ?_ | refine zR ?_) | refine zS ?_)
  have hk0 := sy_keyP H (sC17_M l) 0 (sC17_q l 0 (by decide)) (sC17_t l 0 (by decide)).1
  rw [(sC17_t l 0 (by decide)).2] at hk0
  refine OpsW.call rfl rfl rfl hk0 ?_
  rintro _ w ⟨rfl, H⟩
  repeat' (first | (refine zA ?_; first | refine zB ?_) | (refine zI ?_; first | refine zJ ?_ | refine zK ?_ | refine zL ?_ | refine CW.seqDc ?_ | refine CW.seqDb ?_ | refine CW.seqDl ?_ | refine CW.seqDs ?_ | refine CW.seqDk ?_ | refine zN ?_ | refine zO ?_ | refine zP ?_ | refine zQ ?_ | refine zR ?_) | refine zS ?_)
  have hk1 := sy_keyP H (sC17_M l) 1 (sC17_q l 1 (by decide)) (sC17_t l 1 (by decide)).1
  rw [(sC17_t l 1 (by decide)).2] at hk1
  refine OpsW.call rfl rfl rfl hk1 ?_
  rintro _ w ⟨rfl, H⟩
  repeat' (first | (refine zA ?_; first | refine zB ?_) | (refine zI ?_; first | refine zJ ?_ | refine zK ?_ | refine zL ?_ | refine CW.seqDc ?_ | refine CW.seqDb ?_ | refine CW.seqDl ?_ | refine CW.seqDs ?_ | refine CW.seqDk ?_ | refine zN ?_ | refine zO ?_ | refine zP ?_ | refine zQ ?_ | refine zR ?_) | refine zS ?_)
  refine OpsW.bsl H rfl rfl rfl rfl rfl rfl rfl rfl fun bc w H => ?_
  repeat' (first | (refine zA ?_; first | refine zB ?_) | (refine zI ?_; first | refine zJ ?_ | refine zK ?_ | refine zL ?_ | refine CW.seqDc ?_ | refine CW.seqDb ?_ | refine CW.seqDl ?_ | refine CW.seqDs ?_ | refine CW.seqDk ?_ | refine zN ?_ | refine zO ?_ | refine zP ?_ | refine zQ ?_ | refine zR ?_) | refine zS ?_)
  refine OpsW.call rfl rfl rfl (sy_makeNode (H.perm p1) (sC17_N l) _ [wQ 0, wQ 1] (by decide) (fun k hk => by
    rcases List.mem_cons.1 hk with rfl | hk
    · decide
    rcases List.mem_cons.1 hk with rfl | hk
    · decide
    · cases hk) (SlR.of_blk (r := []) rfl (Nat.le_refl 2)) 0 (sC17_fst l)) ?_
  rintro _ w ⟨rfl, H⟩
  rw [show (sC17 l).newN 0 [wQ 0, wQ 1] = s17 l by with_unfolding_all rfl] at H
  repeat' (first | (refine zA ?_; first | refine zB ?_) | (refine zI ?_; first | refine zJ ?_ | refine zK ?_ | refine zL ?_ | refine CW.seqDc ?_ | refine CW.seqDb ?_ | refine CW.seqDl ?_ | refine CW.seqDs ?_ | refine CW.seqDk ?_ | refine zN ?_ | refine zO ?_ | refine zP ?_ | refine zQ ?_ | refine zR ?_) | refine zS ?_)
  refine OpsW.ldmc H p5 rfl rfl rfl rfl rfl ?_
  repeat' (first | (refine zA ?_; first | refine zB ?_) | (refine zI ?_; first | refine zJ ?_ | refine zK ?_ | refine zL ?_ | refine CW.seqDc ?_ | refine CW.seqDb ?_ | refine CW.seqDl ?_ | refine CW.seqDs ?_ | refine CW.seqDk ?_ | refine zN ?_ | refine zO ?_ | refine zP ?_ | refine zQ ?_ | refine zR ?_) | refine zS ?_)
  refine OpsW.call rfl rfl rfl (via H (by exact r2) fun H => store_nodeKey H (s17_ok l) 0 1) ?_
  rw [s17_nk l]
  rintro _ w ⟨rfl, H⟩
  repeat' (first | (refine zA ?_; first | refine zB ?_ | refine zC H ?_ | refine zD H ?_ | refine zE H fun _ _ H => ?_ | refine zF H fun _ _ H => ?_ | refine zG H fun _ H => ?_ | refine zH H fun _ H => ?_) | (refine zI ?_; first | refine zJ ?_ | refine zK ?_ | refine zL ?_ | refine CW.seqDc ?_ | refine CW.seqDb ?_ | refine CW.seqDl ?_ | refine CW.seqDs ?_ | refine CW.seqDk ?_ | refine zN ?_ | refine zO ?_ | refine zP ?_ | refine zQ ?_ | refine zR ?_) | refine zS ?_)
  refine ret3c rfl rfl (resA H (by (first | exact p0 | exact p1 | exact p2 | exact p3 | exact p4 | exact p5 | exact p6 | exact p7)) rfl rfl (by rfl)) ⟨bm, bx, rfl, ?_⟩
  exact memP_close (((H.drop.perm p1).drop).perm q1m)
set_option maxHeartbeats 4000000 in
set_option maxRecDepth 20000 in
theorem first17_ (H : Sat z w As) (hE : EC As ads) : Spec cf 30 #[] w fun e w' => e = .bool true ∧ Sat z w' As := by
  refine enter (l := []) Tryd.func30 rfl rfl rfl rfl rfl ?_
  repeat' (first | (refine zA ?_; first | refine zB ?_ | refine zC H ?_ | refine zD H ?_ | refine zE H fun _ _ H => ?_ | refine zF H fun _ _ H => ?_ | refine zG H fun _ H => ?_ | refine zH H fun _ H => ?_) | (refine zI ?_; first | refine zJ ?_ | refine zK ?_ | refine zL ?_ | refine CW.seqDc ?_ | refine CW.seqDb ?_ | refine CW.seqDl ?_ | refine CW.seqDs ?_ | refine CW.seqDk ?_ | refine zN ?_ | refine zO ?_ | refine zP ?_ | refine zQ ?_ | refine zR ?_) | refine zS ?_)
  refine OpsW.call rfl rfl rfl (made17_ H hE _ [] (by decide) SlR.nil_) ?_
  rintro _ w ⟨bm, bx, rfl, H⟩
  repeat' (first | (refine zA ?_; first | refine zB ?_ | refine zC H ?_ | refine zD H ?_ | refine zE H fun _ _ H => ?_ | refine zF H fun _ _ H => ?_ | refine zG H fun _ H => ?_ | refine zH H fun _ H => ?_) | (refine zI ?_; first | refine zJ ?_ | refine zK ?_ | refine zL ?_ | refine CW.seqDc ?_ | refine CW.seqDb ?_ | refine CW.seqDl ?_ | refine CW.seqDs ?_ | refine CW.seqDk ?_ | refine zN ?_ | refine zO ?_ | refine zP ?_ | refine zQ ?_ | refine zR ?_) | refine zS ?_)
  replace H := dmF Dm.z H (by with_unfolding_all rfl)
  have hst := step_ (H.perm (p1.cons _)) (s17_m [] (fun n h => by cases h) 0 (by decide)) (by decide) dmz_ok hE.r.tail.tail hE.w.tail.tail
  rw [stepz17] at hst
  refine OpsW.call rfl rfl rfl hst ?_
  rintro _ w ⟨rfl, H⟩
  refine OpsW.alloc H rfl rfl rfl rfl fun be w H => ?_
  refine OpsW.strF H p0 rfl rfl rfl (Ev.scl _) rfl (Ev.len _) (by rw [Ev.len]; decide) fun w H => ?_
  rw [splice_full (by rw [Ev.len]; rfl)] at H
  repeat' (first | (refine zA ?_; first | refine zB ?_ | refine zC H ?_ | refine zD H ?_ | refine zE H fun _ _ H => ?_ | refine zF H fun _ _ H => ?_ | refine zG H fun _ H => ?_ | refine zH H fun _ H => ?_) | (refine zI ?_; first | refine zJ ?_ | refine zK ?_ | refine zL ?_ | refine CW.seqDc ?_ | refine CW.seqDb ?_ | refine CW.seqDl ?_ | refine CW.seqDs ?_ | refine CW.seqDk ?_ | refine zN ?_ | refine zO ?_ | refine zP ?_ | refine zQ ?_ | refine zR ?_) | refine zS ?_)
  refine OpsW.ld H p0 rfl rfl rfl rfl (Ev.kind_ _) rfl ?_
  repeat' (first | (refine zA ?_; first | refine zB ?_ | refine zC H ?_ | refine zD H ?_ | refine zE H fun _ _ H => ?_ | refine zF H fun _ _ H => ?_ | refine zG H fun _ H => ?_ | refine zH H fun _ H => ?_) | (refine zI ?_; first | refine zJ ?_ | refine zK ?_ | refine zL ?_ | refine CW.seqDc ?_ | refine CW.seqDb ?_ | refine CW.seqDl ?_ | refine CW.seqDs ?_ | refine CW.seqDk ?_ | refine zN ?_ | refine zO ?_ | refine zP ?_ | refine zQ ?_ | refine zR ?_) | refine zS ?_)
  refine OpsW.ld H p0 rfl rfl rfl rfl (Ev.fault_ _) rfl ?_
  repeat' (first | (refine zA ?_; first | refine zB ?_ | refine zC H ?_ | refine zD H ?_ | refine zE H fun _ _ H => ?_ | refine zF H fun _ _ H => ?_ | refine zG H fun _ H => ?_ | refine zH H fun _ H => ?_) | (refine zI ?_; first | refine zJ ?_ | refine zK ?_ | refine zL ?_ | refine CW.seqDc ?_ | refine CW.seqDb ?_ | refine CW.seqDl ?_ | refine CW.seqDs ?_ | refine CW.seqDk ?_ | refine zN ?_ | refine zO ?_ | refine zP ?_ | refine zQ ?_ | refine zR ?_) | refine zS ?_)
  exact ret1 rfl ⟨rfl, by (first | exact H | exact H.drop | exact H.d2 | exact H.d3 | exact H.d4 | exact H.d5 | exact H.d6 | exact H.d7)⟩
end
end Go.Proofs.YtnfefbhjdncccaaDoor.X
