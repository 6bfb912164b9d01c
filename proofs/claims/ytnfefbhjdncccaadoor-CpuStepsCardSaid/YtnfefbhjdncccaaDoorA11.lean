/- Contracts of chapter 11 (mem): loading and storing behind a cache; conditions: none. -/
import Derived.Test.YtnfefbhjdncccaaDoorP10
namespace Go.Proofs.YtnfefbhjdncccaaDoor.X
open Go Go.Proofs
set_option linter.unusedSimpArgs false
set_option linter.unusedVariables false
/-- A walk depends on which keys are live, and on the keys of nodes, alone. -/
theorem wk_congr {s s' : St} (hl : ∀ k, s'.live k = s.live k) (hk : ∀ id i, s'.key id i = s.key id i) : ∀ (n : Nat) (above : Int) (k : K) (addr : Int) (ro : Bool) (ns : List Int), s'.wk n above k addr ro ns = s.wk n above k addr ro ns
  | 0, _, _, _, _, _ => rfl
  | n + 1, above, k, addr, ro, ns => by
    unfold St.wk
    rw [hl, hk, wk_congr hl hk n]
theorem walk_setW {s : St} {id i x : Int} (k : K) (addr : Int) : (s.setW id i x).walk k addr = s.walk k addr :=
  wk_congr (fun k => by unfold St.setW; split <;> rfl) (fun id i => by unfold St.setW; split <;> rfl) 6 5 k addr false []
theorem good_setW {s : St} {ws : List Wy} {id i x : Int} (h : good s ws) : good (s.setW id i x) ws := fun y hy => ⟨(h y hy).1, fun addr h0 he => by rw [walk_setW]; exact (h y hy).2 addr h0 he⟩
/-- What is live stays so, the keys that it has too: what was found is found. -/
theorem wk_mono {s s' : St} (hl : ∀ k, s.live k = true → s'.live k = true) (hk : ∀ id i, onN s.N s.f id = true → s'.key id i = s.key id i) : ∀ (n : Nat) (above : Int) (k : K) (addr : Int) (ro : Bool) (ns : List Int), (s.wk n above k addr ro ns).2.1 = 0 → s'.wk n above k addr ro ns = s.wk n above k addr ro ns
  | 0, _, _, _, _, _, _ => rfl
  | n + 1, above, k, addr, ro, ns, hf => by
    unfold St.wk at hf ⊢
    by_cases h1 : k.mem = false ∨ s.live k = false
    · rw [if_pos h1] at hf; exact absurd hf (by show ¬ (2 = 0); decide)
    have h1' : ¬ (k.mem = false ∨ s'.live k = false) := by
      intro e
      rcases e with e | e
      · exact h1 (.inl e)
      · cases h : s.live k
        · exact h1 (.inr h)
        · rw [hl k h] at e; cases e
    rw [if_neg h1] at hf ⊢
    rw [if_neg h1']
    by_cases h2 : above ≤ k.hgt
    · rw [if_pos h2, if_pos h2]
    rw [if_neg h2] at hf ⊢
    rw [if_neg h2]
    by_cases h3 : psz k.hgt ≤ addr
    · rw [if_pos h3, if_pos h3]
    rw [if_neg h3] at hf ⊢
    rw [if_neg h3]
    by_cases h4 : k.kind = 3
    · rw [if_pos h4, if_pos h4]
    rw [if_neg h4] at hf ⊢
    rw [if_neg h4]
    have hon : onN s.N s.f k.id = true := by
      have hl1 : s.live k = true := by
        cases h : s.live k
        · exact absurd (.inr h) h1
        · rfl
      have hm1 : k.mem = true := by
        cases h : k.mem
        · exact absurd (.inl h) h1
        · rfl
      have hk2 : k.kind = 2 := by
        unfold K.mem at hm1
        simp [h4] at hm1
        exact hm1.1
      unfold St.live liveAt at hl1
      rw [if_pos hk2, Bool.and_eq_true] at hl1
      exact hl1.1
    rw [hk _ _ hon]
    exact wk_mono hl hk n _ _ _ _ _ hf
theorem good_mono {s s' : St} {ws : List Wy} (h : good s ws) (hl : ∀ k, s.live k = true → s'.live k = true) (hk : ∀ id i, onN s.N s.f id = true → s'.key id i = s.key id i) : good s' ws := fun y hy => ⟨(h y hy).1, fun addr h0 he => by
  have := (h y hy).2 addr h0 he
  rw [← this]
  exact wk_mono hl hk 6 5 y.root addr false [] (by show (s.walk y.root addr).2.1 = 0; rw [this])⟩
theorem onN_ne {N : Nat} {f : Nat → Pl} {q : Nat} (hq : (f q).there = false) {id : Int} (h : onN N f id = true) : id.toNat ≠ q := by
  obtain ⟨j, rfl, hj, ht⟩ := onN_at h
  intro e
  have : j = q := e
  rw [this] at ht; rw [hq] at ht; cases ht
theorem onN_take {N : Nat} {f g : Nat → Pl} {q : Nat} (hg : ∀ j, j ≠ q → g j = f j) (hq : (f q).there = false) {id ver : Int} (h : liveAt N f id ver = true) : liveAt N g id ver = true := by
  have h0 := h
  unfold liveAt at h ⊢
  rw [Bool.and_eq_true] at h
  have hne := onN_ne hq h.1
  obtain ⟨j, rfl, hj, ht⟩ := onN_at h.1
  have hgj : g j = f j := hg j hne
  show (onN N g (j : Int) && (g j).ver == ver) = true
  have h1 : onN N g (j : Int) = onN N f (j : Int) := by
    unfold onN
    show (_ && (g j).there) = (_ && (f j).there)
    rw [hgj]
  rw [h1, hgj, Bool.and_eq_true]; exact h
theorem good_newP {s : St} {ws : List Wy} {q : Nat} {l : List Int} (h : good s ws) (hq : (s.g q).there = false) : good (s.newP q l) ws :=
  good_mono h (fun k hk => by
    unfold St.live at hk ⊢
    split at hk
    · rename_i h1; rw [if_pos h1]; exact hk
    · rename_i h1
      rw [if_neg h1]
      split at hk
      · rename_i h2; rw [if_pos h2]
        exact onN_take (f := s.g) (q := q) (fun j hj => if_neg hj) hq hk
      · cases hk) (fun _ _ _ => rfl)
theorem good_newN {s : St} {ws : List Wy} {q : Nat} {l : List K} (h : good s ws) (hq : (s.f q).there = false) : good (s.newN q l) ws :=
  good_mono h (fun k hk => by
    unfold St.live at hk ⊢
    split at hk
    · rename_i h1; rw [if_pos h1]
      exact onN_take (f := s.f) (q := q) (fun j hj => if_neg hj) hq hk
    · rename_i h1
      rw [if_neg h1]; exact hk) (fun id i hon => by
    have hne := onN_ne hq hon
    have h1 : onN (s.newN q l).N (s.newN q l).f id = onN s.N s.f id := by
      obtain ⟨j, rfl, hj, ht⟩ := onN_at hon
      unfold onN
      show (_ && (if j = q then (s.f q).take else s.f j).there) = (_ && (s.f j).there)
      rw [if_neg (show j ≠ q from hne)]; rfl
    unfold St.key St.hasN
    rw [h1]
    show (if _ then (if id.toNat = q then (fun i => l.getD i K.void) else s.nd id.toNat) i.toNat else K.void) = _
    rw [if_neg hne])
theorem cache_mkm {z w : World} {Rs : List HP} {bc : Nat} {n hits : Int} (H : Sat z w (blk bc 176 [.int .i64 n, .slice none 0 0, .int .i64 hits] :: Rs)) : Sat z w (cacheP bc n [] hits :: Rs) := by
  have H1 : Sat z w (blk bc 176 [.int .i64 n, .slice none ([] : List WyA).length 0, .int .i64 hits] :: vec 186 none ([] : List WyA).length 0 10 (([] : List WyA).flatMap Wy.c) :: wns [] :: Rs) := by
    have H2 := (Sat.vnil (E := 186) (sz := 10) (Sat.mkemp H))
    exact H2.perm ((pS (pS p0)).trans ((p0 : List.Perm _ _)))
  exact cache_close H1
/-- The memory's own part: what is remembered is right; so many times at most one was there. -/
def mcP (bm bs : Nat) (size : Int) (s : St) (hb : Nat) : HP := fun h => ∃ bc : Nat, ∃ ws : List Wy, ∃ hits : Int, (good s ws ∧ (ws.length : Int) ≤ size ∧ 0 ≤ hits ∧ hits ≤ hb) ∧ stars [blk bm 34 [.pointer (some ⟨bs, 0, none⟩), .int .i64 size, .pointer (some ⟨bc, 0, none⟩)], cacheP bc size ws hits] h
section
variable {z w : World} {Rs As : List HP} {ads : List Addr} {bm bs bn bp bc : Nat} {size : Int} {s : St} {hb : Nat} {ws : List Wy} {hits : Int}
theorem nodes_setW {id i x : Int} : nodesP bn (s.setW id i x) = nodesP bn s := by unfold St.setW; split <;> rfl
theorem mc_open (H : Sat z w (mcP bm bs size s hb :: Rs)) : ∃ bc : Nat, ∃ ws : List Wy, ∃ hits : Int, (good s ws ∧ (ws.length : Int) ≤ size ∧ 0 ≤ hits ∧ hits ≤ hb) ∧ Sat z w (blk bm 34 [.pointer (some ⟨bs, 0, none⟩), .int .i64 size, .pointer (some ⟨bc, 0, none⟩)] :: cacheP bc size ws hits :: Rs) := by
  obtain ⟨bc, H⟩ := H.ex
  obtain ⟨ws, H⟩ := H.ex
  obtain ⟨hits, H⟩ := H.ex
  obtain ⟨e, H⟩ := H.and_
  exact ⟨bc, ws, hits, e, H.splits⟩
theorem mc_close (e : good s ws ∧ (ws.length : Int) ≤ size ∧ 0 ≤ hits ∧ hits ≤ hb) (H : Sat z w (blk bm 34 [.pointer (some ⟨bs, 0, none⟩), .int .i64 size, .pointer (some ⟨bc, 0, none⟩)] :: cacheP bc size ws hits :: Rs)) : Sat z w (mcP bm bs size s hb :: Rs) :=
  (Sat.joins (m := [blk bm 34 [.pointer (some ⟨bs, 0, none⟩), .int .i64 size, .pointer (some ⟨bc, 0, none⟩)], cacheP bc size ws hits]) H).imp fun h x => ⟨bc, ws, hits, e, x⟩
theorem mc_imp {s' : St} {hb' : Nat} (k : ∀ ws, good s ws → good s' ws) (hh : hb ≤ hb') : ∀ h, mcP bm bs size s hb h → mcP bm bs size s' hb' h := by
  rintro h ⟨bc, ws, hits, ⟨e1, e2, e3, e4⟩, x⟩
  exact ⟨bc, ws, hits, ⟨k ws e1, e2, e3, by omega⟩, x⟩
attribute [local irreducible] CW OpsW RetW Spec blk snap DrawP AnyW AnyM AnyN bits IntKind.wrap vec arena kds nds wds pgs eA cacheP wns St.walk St.put St.find mcP
attribute [local irreducible] pagesP nodesP
theorem rm3 {S1 S2 S3 A B : HP} {R : List HP} : (A :: B :: S1 :: S2 :: S3 :: R).Perm (S1 :: S2 :: S3 :: B :: A :: R) := (List.Perm.swap _ _ _).trans r2
theorem mc_end {S1 S2 S3 : HP} (e : good s ws ∧ (ws.length : Int) ≤ size ∧ 0 ≤ hits ∧ hits ≤ hb) (H : Sat z w (S1 :: S2 :: S3 :: cacheP bc size ws hits :: blk bm 34 [.pointer (some ⟨bs, 0, none⟩), .int .i64 size, .pointer (some ⟨bc, 0, none⟩)] :: Rs)) : Sat z w (S1 :: S2 :: S3 :: mcP bm bs size s hb :: Rs) :=
  (mc_close e (((H.perm p4).perm p4).perm (.swap _ _ _))).perm p3.symm
theorem q1m {A S1 S2 S3 S4 : HP} {R : List HP} : (A :: S1 :: S2 :: S3 :: S4 :: R).Perm (S1 :: S2 :: S3 :: S4 :: A :: R) :=
  (List.perm_append_comm (l₁ := [A]) (l₂ := [S1, S2, S3, S4])).append_right R
theorem mc_fin {A S1 S2 S3 D : HP} (e : good s ws ∧ (ws.length : Int) ≤ size ∧ 0 ≤ hits ∧ hits ≤ hb) (H : Sat z w (blk bm 34 [.pointer (some ⟨bs, 0, none⟩), .int .i64 size, .pointer (some ⟨bc, 0, none⟩)] :: cacheP bc size ws hits :: A :: S1 :: S2 :: S3 :: D :: Rs)) : Sat z w (S1 :: S2 :: S3 :: mcP bm bs size s hb :: Rs) :=
  ((((((mc_close e H).perm p1).drop).perm p4).drop).perm p3.symm)
theorem q2m {A B S1 S2 S3 S4 : HP} {R : List HP} : (A :: B :: S1 :: S2 :: S3 :: S4 :: R).Perm (S1 :: S2 :: S3 :: S4 :: A :: B :: R) :=
  (List.perm_append_comm (l₁ := [A, B]) (l₂ := [S1, S2, S3, S4])).append_right R
set_option maxRecDepth 20000 in
theorem mem_find (H : Sat z w (blk bs 38 [.pointer (some ⟨bn, 0, none⟩), .pointer (some ⟨bp, 0, none⟩)] :: nodesP bn s :: pagesP bp s :: mcP bm bs size s hb :: Rs)) (hs : s.ok) (k : K) (addr : Int) (hd : 0 ≤ k.data) (hk : ∀ a c, 0 ≤ (s.nd a c).data) (ha : 0 ≤ addr) (ha2 : addr < 4294967296) (hs1 : 1 ≤ size) (hsz : size ≤ 64) (hbb : hb ≤ 900000) :
    Spec cf 57 #[.pointer (some ⟨bm, 0, none⟩), k.v, .int .u32 addr] w fun e w' => e = .tuple #[(s.walk k addr).1.v, .int .i64 (s.walk k addr).2.1] ∧ Sat z w' (blk bs 38 [.pointer (some ⟨bn, 0, none⟩), .pointer (some ⟨bp, 0, none⟩)] :: nodesP bn s :: pagesP bp s :: mcP bm bs size s (hb + 1) :: Rs) := by
  obtain ⟨bc, ws, hits, ⟨g1, g2, g3, g4⟩, H2⟩ := mc_open (H.perm p3)
  replace H := H2.perm rm3
  clear H2
  refine enter (l := [.pointer (some ⟨bm, 0, none⟩), k.v, .int .u32 addr]) Tryd.func57 rfl rfl rfl rfl rfl ?_
  repeat' (first | (refine zA ?_; first | refine zB ?_ | refine zC H ?_ | refine zD H ?_ | refine zE H fun _ _ H => ?_ | refine zF H fun _ _ H => ?_ | refine zG H fun _ H => ?_ | refine zH H fun _ H => ?_) | (refine zI ?_; first | refine zJ ?_ | refine zK ?_ | refine zL ?_ | refine CW.seqDc ?_ | refine CW.seqDb ?_ | refine CW.seqDl ?_ | refine CW.seqDs ?_ | refine CW.seqDk ?_ | refine zN ?_ | refine zO ?_ | refine zP ?_ | refine zQ ?_ | refine zR ?_) | refine zS ?_)
  have hfg := find_good (s := s) (size := size) (ws := ws) (k := k) g1 ha hs1 g2
  (first | refine CW.seqDraw mo H [0, 1, 3, 7, 0, 16, 48, 112, 0, 0, 1023, 2047, 2047, 8191, 16383] fun w H => ?_ | refine CW.draw mo H [0, 1, 3, 7, 0, 16, 48, 112, 0, 0, 1023, 2047, 2047, 8191, 16383] fun w H => ?_); refine AnyW.seg (m := 10) (by kernel_rfl) (by kernel_rfl) H rfl ?_
  repeat' (first | (refine DrawP.nil ?_; intro w H) | (refine DrawP.go ?_; first | refine DrawP.cons rfl (fun τ w H => OpsW.st rfl (OpsW.nil ⟨rfl, H⟩)) ?_ | refine DrawP.cons rfl (fun τ w H => OpsW.ld H (by (first | exact p0 | exact p1 | exact p2 | exact p3 | exact p4 | exact p5 | exact p6 | exact p7)) rfl rfl rfl rfl (by rfl) rfl (OpsW.nil ⟨rfl, H⟩)) ?_ | refine DrawP.cons rfl (fun τ w H => OpsW.ldA H (by (first | exact p0 | exact p1 | exact p2 | exact p3 | exact p4 | exact p5 | exact p6 | exact p7)) rfl rfl rfl (by rfl) rfl (OpsW.nil ⟨rfl, H⟩)) ?_) | refine DrawP.split (fun h => ?_) (fun h => ?_))
  refine AnyW.one (by kernel_rfl) (by kernel_rfl) rfl ?_
  have hf := cache_find (H.perm q2m) hs k addr hd hk ha ha2 hs1 hsz g2 g3 (by omega)
  rw [find_walk g1 ha hs1 g2, hfg.2.1] at hf
  refine OpsW.call rfl rfl rfl hf ?_
  rintro _ w ⟨rfl, H⟩
  refine OpsW.nil ?_
  refine AnyW.seg (m := 13) (by kernel_rfl) (by kernel_rfl) H rfl ?_
  repeat' (first | (refine DrawP.nil ?_; intro w H) | (refine DrawP.go ?_; first | refine DrawP.cons rfl (fun τ w H => OpsW.st rfl (OpsW.nil ⟨rfl, H⟩)) ?_ | refine DrawP.cons rfl (fun τ w H => OpsW.ld H (by (first | exact p0 | exact p1 | exact p2 | exact p3 | exact p4 | exact p5 | exact p6 | exact p7)) rfl rfl rfl rfl (by rfl) rfl (OpsW.nil ⟨rfl, H⟩)) ?_ | refine DrawP.cons rfl (fun τ w H => OpsW.ldA H (by (first | exact p0 | exact p1 | exact p2 | exact p3 | exact p4 | exact p5 | exact p6 | exact p7)) rfl rfl rfl (by rfl) rfl (OpsW.nil ⟨rfl, H⟩)) ?_) | refine DrawP.split (fun h => ?_) (fun h => ?_))
  refine AnyW.one (by kernel_rfl) (by kernel_rfl) rfl ?_
  (first | (refine zA ?_; first | refine zB ?_ | refine zC H ?_ | refine zD H ?_ | refine zE H fun _ _ H => ?_ | refine zF H fun _ _ H => ?_ | refine zG H fun _ H => ?_ | refine zH H fun _ H => ?_) | (refine zI ?_; first | refine zJ ?_ | refine zK ?_ | refine zL ?_ | refine zM ?_ | refine zN ?_ | refine zO ?_ | refine zP ?_ | refine zQ ?_ | refine zR ?_) | refine zS ?_)
  refine OpsW.nil ?_
  refine AnyW.one (by kernel_rfl) (by kernel_rfl) rfl ?_
  (first | (refine zA ?_; first | refine zB ?_ | refine zC H ?_ | refine zD H ?_ | refine zE H fun _ _ H => ?_ | refine zF H fun _ _ H => ?_ | refine zG H fun _ H => ?_ | refine zH H fun _ H => ?_) | (refine zI ?_; first | refine zJ ?_ | refine zK ?_ | refine zL ?_ | refine zM ?_ | refine zN ?_ | refine zO ?_ | refine zP ?_ | refine zQ ?_ | refine zR ?_) | refine zS ?_)
  refine OpsW.nil ?_
  refine AnyW.done ?_
  repeat' (first | (refine zA ?_; first | refine zB ?_ | refine zC H ?_ | refine zD H ?_ | refine zE H fun _ _ H => ?_ | refine zF H fun _ _ H => ?_ | refine zG H fun _ H => ?_ | refine zH H fun _ H => ?_) | (refine zI ?_; first | refine zJ ?_ | refine zK ?_ | refine zL ?_ | refine zM ?_ | refine zN ?_ | refine zO ?_ | refine zP ?_ | refine zQ ?_ | refine zR ?_) | refine zS ?_)
  refine ret2c (resA H (by (first | exact p0 | exact p1 | exact p2 | exact p3 | exact p4 | exact p5 | exact p6 | exact p7)) rfl rfl (by rfl)) rfl ⟨rfl, ?_⟩
  exact mc_end ⟨hfg.2.2.1, hfg.2.2.2.1, by have := hfg.2.2.2.2.1; omega, by have := hfg.2.2.2.2.2; omega⟩ ((H.drop.perm p4).drop)
/-- A word that is loaded, and the fault. -/
def St.load (s : St) (k : K) (addr : Int) : Int × Nat := if (s.walk k addr).2.1 ≠ 0 then (0, (s.walk k addr).2.1) else (s.word (s.walk k addr).1.page (s.walk k addr).1.at_, 0)
def St.save (s : St) (k : K) (addr : Int) : Nat := if (s.walk k addr).2.1 ≠ 0 then (s.walk k addr).2.1 else if (s.walk k addr).1.ro = true then 4 else 0
def St.saveS (s : St) (k : K) (addr x : Int) : St := if s.save k addr = 0 then s.setW (s.walk k addr).1.page (s.walk k addr).1.at_ x else s
set_option maxHeartbeats 4000000 in
set_option maxRecDepth 20000 in
theorem mem_load (H : Sat z w (blk bs 38 [.pointer (some ⟨bn, 0, none⟩), .pointer (some ⟨bp, 0, none⟩)] :: nodesP bn s :: pagesP bp s :: mcP bm bs size s hb :: Rs)) (hs : s.ok) (k : K) (addr : Int) (hd : 0 ≤ k.data) (hk : ∀ a c, 0 ≤ (s.nd a c).data) (ha : 0 ≤ addr) (ha2 : addr < 4294967296) (hs1 : 1 ≤ size) (hsz : size ≤ 64) (hbb : hb ≤ 900000) :
    Spec cf 23 #[.pointer (some ⟨bm, 0, none⟩), k.v, .int .u32 addr] w fun e w' => e = .tuple #[.int .u32 (s.load k addr).1, .int .i64 (s.load k addr).2] ∧ Sat z w' (blk bs 38 [.pointer (some ⟨bn, 0, none⟩), .pointer (some ⟨bp, 0, none⟩)] :: nodesP bn s :: pagesP bp s :: mcP bm bs size s (hb + 1) :: Rs) := by
  refine enter (l := [.pointer (some ⟨bm, 0, none⟩), k.v, .int .u32 addr]) Tryd.func23 rfl rfl rfl rfl rfl ?_
  repeat' (first | (refine zA ?_; first | refine zB ?_ | refine zC H ?_ | refine zD H ?_ | refine zE H fun _ _ H => ?_ | refine zF H fun _ _ H => ?_ | refine zG H fun _ H => ?_ | refine zH H fun _ H => ?_) | (refine zI ?_; first | refine zJ ?_ | refine zK ?_ | refine zL ?_ | refine CW.seqDc ?_ | refine CW.seqDb ?_ | refine CW.seqDl ?_ | refine CW.seqDs ?_ | refine CW.seqDk ?_ | refine zN ?_ | refine zO ?_ | refine zP ?_ | refine zQ ?_ | refine zR ?_) | refine zS ?_)
  refine OpsW.call rfl rfl rfl (mem_find (H.perm q1m) hs k addr hd hk ha ha2 hs1 hsz hbb) ?_
  rintro _ w ⟨rfl, H⟩
  by_cases hf : (s.walk k addr).2.1 = 0
  · rw [hf]
    have e : s.load k addr = (s.word (s.walk k addr).1.page (s.walk k addr).1.at_, 0) := by rw [St.load, if_neg (fun x => x hf)]
    rw [e]
    obtain ⟨bc, ws, hits, hg4, H2⟩ := mc_open (H.perm p3)
    replace H := H2
    clear H2
    repeat' (first | (refine zA ?_; first | refine zB ?_ | refine zC H ?_ | refine zD H ?_ | refine zE H fun _ _ H => ?_ | refine zF H fun _ _ H => ?_ | refine zG H fun _ H => ?_ | refine zH H fun _ H => ?_) | (refine zI ?_; first | refine zJ ?_ | refine zK ?_ | refine zL ?_ | refine CW.seqDc ?_ | refine CW.seqDb ?_ | refine CW.seqDl ?_ | refine CW.seqDs ?_ | refine CW.seqDk ?_ | refine zN ?_ | refine zO ?_ | refine zP ?_ | refine zQ ?_ | refine zR ?_) | refine zS ?_)
    (first | refine CW.seqDraw mo H [0, 1, 3, 7, 15, 31, 63, 0, 128, 0, 512, 2047, 4095, 8191, 8191, 16383, 65535] fun w H => ?_ | refine CW.draw mo H [0, 1, 3, 7, 15, 31, 63, 0, 128, 0, 512, 2047, 4095, 8191, 8191, 16383, 65535] fun w H => ?_); refine AnyW.seg (m := 11) (by kernel_rfl) (by kernel_rfl) H rfl ?_
    repeat' (first | (refine DrawP.nil ?_; intro w H) | (refine DrawP.go ?_; first | refine DrawP.cons rfl (fun τ w H => OpsW.st rfl (OpsW.nil ⟨rfl, H⟩)) ?_ | refine DrawP.cons rfl (fun τ w H => OpsW.ld H (by (first | exact p0 | exact p1 | exact p2 | exact p3 | exact p4 | exact p5 | exact p6 | exact p7)) rfl rfl rfl rfl (by rfl) rfl (OpsW.nil ⟨rfl, H⟩)) ?_ | refine DrawP.cons rfl (fun τ w H => OpsW.ldA H (by (first | exact p0 | exact p1 | exact p2 | exact p3 | exact p4 | exact p5 | exact p6 | exact p7)) rfl rfl rfl (by rfl) rfl (OpsW.nil ⟨rfl, H⟩)) ?_) | refine DrawP.split (fun h => ?_) (fun h => ?_))
    refine AnyW.one (by kernel_rfl) (by kernel_rfl) rfl ?_
    refine OpsW.call rfl rfl rfl (via H (by exact r3) fun H => st_pageRead H hs (s.walk k addr).1.page (s.walk k addr).1.at_) ?_
    rintro _ w ⟨rfl, H⟩
    refine OpsW.nil ?_
    refine AnyW.one (by kernel_rfl) (by kernel_rfl) rfl ?_
    (first | (refine zA ?_; first | refine zB ?_ | refine zC H ?_ | refine zD H ?_ | refine zE H fun _ _ H => ?_ | refine zF H fun _ _ H => ?_ | refine zG H fun _ H => ?_ | refine zH H fun _ H => ?_) | (refine zI ?_; first | refine zJ ?_ | refine zK ?_ | refine zL ?_ | refine zM ?_ | refine zN ?_ | refine zO ?_ | refine zP ?_ | refine zQ ?_ | refine zR ?_) | refine zS ?_)
    refine OpsW.nil ?_
    refine AnyW.seg (m := 17) (by kernel_rfl) (by kernel_rfl) H rfl ?_
    repeat' (first | (refine DrawP.nil ?_; intro w H) | (refine DrawP.go ?_; first | refine DrawP.cons rfl (fun τ w H => OpsW.st rfl (OpsW.nil ⟨rfl, H⟩)) ?_ | refine DrawP.cons rfl (fun τ w H => OpsW.ld H (by (first | exact p0 | exact p1 | exact p2 | exact p3 | exact p4 | exact p5 | exact p6 | exact p7)) rfl rfl rfl rfl (by rfl) rfl (OpsW.nil ⟨rfl, H⟩)) ?_ | refine DrawP.cons rfl (fun τ w H => OpsW.ldA H (by (first | exact p0 | exact p1 | exact p2 | exact p3 | exact p4 | exact p5 | exact p6 | exact p7)) rfl rfl rfl (by rfl) rfl (OpsW.nil ⟨rfl, H⟩)) ?_) | refine DrawP.split (fun h => ?_) (fun h => ?_))
    refine AnyW.done ?_
    repeat' (first | (refine zA ?_; first | refine zB ?_ | refine zC H ?_ | refine zD H ?_ | refine zE H fun _ _ H => ?_ | refine zF H fun _ _ H => ?_ | refine zG H fun _ H => ?_ | refine zH H fun _ H => ?_) | (refine zI ?_; first | refine zJ ?_ | refine zK ?_ | refine zL ?_ | refine zM ?_ | refine zN ?_ | refine zO ?_ | refine zP ?_ | refine zQ ?_ | refine zR ?_) | refine zS ?_)
    exact ret2 rfl rfl ⟨rfl, mc_fin hg4 ((H.perm p2).perm p2)⟩
  · have e : s.load k addr = (0, (s.walk k addr).2.1) := by rw [St.load, if_pos hf]
    rw [e]
    repeat' (first | (refine zA ?_; first | refine zB ?_ | refine zC H ?_ | refine zD H ?_ | refine zE H fun _ _ H => ?_ | refine zF H fun _ _ H => ?_ | refine zG H fun _ H => ?_ | refine zH H fun _ H => ?_) | (refine zI ?_; first | refine zJ ?_ | refine zK ?_ | refine zL ?_ | refine CW.seqDc ?_ | refine CW.seqDb ?_ | refine CW.seqDl ?_ | refine CW.seqDs ?_ | refine CW.seqDk ?_ | refine zN ?_ | refine zO ?_ | refine zP ?_ | refine zQ ?_ | refine zR ?_) | refine zS ?_)
    rw [show (((s.walk k addr).2.1 : Int) != 0) = true from bne_iff_ne.2 (by omega)]
    repeat' (first | (refine zA ?_; first | refine zB ?_ | refine zC H ?_ | refine zD H ?_ | refine zE H fun _ _ H => ?_ | refine zF H fun _ _ H => ?_ | refine zG H fun _ H => ?_ | refine zH H fun _ H => ?_) | (refine zI ?_; first | refine zJ ?_ | refine zK ?_ | refine zL ?_ | refine CW.seqDc ?_ | refine CW.seqDb ?_ | refine CW.seqDl ?_ | refine CW.seqDs ?_ | refine CW.seqDk ?_ | refine zN ?_ | refine zO ?_ | refine zP ?_ | refine zQ ?_ | refine zR ?_) | refine zS ?_)
    exact ret2 rfl rfl ⟨rfl, (H.drop.perm p4).drop⟩
set_option maxHeartbeats 4000000 in
set_option maxRecDepth 20000 in
theorem mem_save (H : Sat z w (blk bs 38 [.pointer (some ⟨bn, 0, none⟩), .pointer (some ⟨bp, 0, none⟩)] :: nodesP bn s :: pagesP bp s :: mcP bm bs size s hb :: Rs)) (hs : s.ok) (k : K) (addr x : Int) (hd : 0 ≤ k.data) (hk : ∀ a c, 0 ≤ (s.nd a c).data) (ha : 0 ≤ addr) (ha2 : addr < 4294967296) (hs1 : 1 ≤ size) (hsz : size ≤ 64) (hbb : hb ≤ 900000) :
    Spec cf 22 #[.pointer (some ⟨bm, 0, none⟩), k.v, .int .u32 addr, .int .u32 x] w fun e w' => e = .int .i64 (s.save k addr) ∧ Sat z w' (blk bs 38 [.pointer (some ⟨bn, 0, none⟩), .pointer (some ⟨bp, 0, none⟩)] :: nodesP bn (s.saveS k addr x) :: pagesP bp (s.saveS k addr x) :: mcP bm bs size (s.saveS k addr x) (hb + 1) :: Rs) := by
  refine enter (l := [.pointer (some ⟨bm, 0, none⟩), k.v, .int .u32 addr, .int .u32 x]) Tryd.func22 rfl rfl rfl rfl rfl ?_
  repeat' (first | (refine zA ?_; first | refine zB ?_ | refine zC H ?_ | refine zD H ?_ | refine zE H fun _ _ H => ?_ | refine zF H fun _ _ H => ?_ | refine zG H fun _ H => ?_ | refine zH H fun _ H => ?_) | (refine zI ?_; first | refine zJ ?_ | refine zK ?_ | refine zL ?_ | refine CW.seqDc ?_ | refine CW.seqDb ?_ | refine CW.seqDl ?_ | refine CW.seqDs ?_ | refine CW.seqDk ?_ | refine zN ?_ | refine zO ?_ | refine zP ?_ | refine zQ ?_ | refine zR ?_) | refine zS ?_)
  refine OpsW.call rfl rfl rfl (mem_find (H.perm q1m) hs k addr hd hk ha ha2 hs1 hsz hbb) ?_
  rintro _ w ⟨rfl, H⟩
  by_cases hf : (s.walk k addr).2.1 = 0
  · rw [hf]
    cases hro : (s.walk k addr).1.ro
    · have e : s.save k addr = 0 := by rw [St.save, if_neg (fun x => x hf), if_neg (by rw [hro]; decide)]
      have e2 : s.saveS k addr x = s.setW (s.walk k addr).1.page (s.walk k addr).1.at_ x := by rw [St.saveS, if_pos e]
      rw [e, e2, nodes_setW]
      repeat' (first | (refine zA ?_; first | refine zB ?_ | refine zC H ?_ | refine zD H ?_ | refine zE H fun _ _ H => ?_ | refine zF H fun _ _ H => ?_ | refine zG H fun _ H => ?_ | refine zH H fun _ H => ?_) | (refine zI ?_; first | refine zJ ?_ | refine zK ?_ | refine zL ?_ | refine CW.seqDc ?_ | refine CW.seqDb ?_ | refine CW.seqDl ?_ | refine CW.seqDs ?_ | refine CW.seqDk ?_ | refine zN ?_ | refine zO ?_ | refine zP ?_ | refine zQ ?_ | refine zR ?_) | refine zS ?_)
      rw [hro]
      obtain ⟨bc, ws, hits, hg4, H2⟩ := mc_open (H.perm p4)
      replace H := H2
      clear H2
      repeat' (first | (refine zA ?_; first | refine zB ?_ | refine zC H ?_ | refine zD H ?_ | refine zE H fun _ _ H => ?_ | refine zF H fun _ _ H => ?_ | refine zG H fun _ H => ?_ | refine zH H fun _ H => ?_) | (refine zI ?_; first | refine zJ ?_ | refine zK ?_ | refine zL ?_ | refine CW.seqDc ?_ | refine CW.seqDb ?_ | refine CW.seqDl ?_ | refine CW.seqDs ?_ | refine CW.seqDk ?_ | refine zN ?_ | refine zO ?_ | refine zP ?_ | refine zQ ?_ | refine zR ?_) | refine zS ?_)
      (first | refine CW.seqDraw mo H [0, 1, 3, 7, 15, 31, 63, 0, 128, 0, 512, 0, 4095] fun w H => ?_ | refine CW.draw mo H [0, 1, 3, 7, 15, 31, 63, 0, 128, 0, 512, 0, 4095] fun w H => ?_); refine AnyW.seg (m := 12) (by kernel_rfl) (by kernel_rfl) H rfl ?_
      repeat' (first | (refine DrawP.nil ?_; intro w H) | (refine DrawP.go ?_; first | refine DrawP.cons rfl (fun τ w H => OpsW.st rfl (OpsW.nil ⟨rfl, H⟩)) ?_ | refine DrawP.cons rfl (fun τ w H => OpsW.ld H (by (first | exact p0 | exact p1 | exact p2 | exact p3 | exact p4 | exact p5 | exact p6 | exact p7)) rfl rfl rfl rfl (by rfl) rfl (OpsW.nil ⟨rfl, H⟩)) ?_ | refine DrawP.cons rfl (fun τ w H => OpsW.ldA H (by (first | exact p0 | exact p1 | exact p2 | exact p3 | exact p4 | exact p5 | exact p6 | exact p7)) rfl rfl rfl (by rfl) rfl (OpsW.nil ⟨rfl, H⟩)) ?_) | refine DrawP.split (fun h => ?_) (fun h => ?_))
      refine AnyW.one (by kernel_rfl) (by kernel_rfl) rfl ?_
      refine OpsW.call rfl rfl rfl (pageP_write (H.perm p5) hs (s.walk k addr).1.page (s.walk k addr).1.at_ x) ?_
      rintro _ w ⟨rfl, H⟩
      replace H := H.perm p5.symm
      refine OpsW.nil ?_
      refine AnyW.done ?_
      repeat' (first | (refine zA ?_; first | refine zB ?_ | refine zC H ?_ | refine zD H ?_ | refine zE H fun _ _ H => ?_ | refine zF H fun _ _ H => ?_ | refine zG H fun _ H => ?_ | refine zH H fun _ H => ?_) | (refine zI ?_; first | refine zJ ?_ | refine zK ?_ | refine zL ?_ | refine zM ?_ | refine zN ?_ | refine zO ?_ | refine zP ?_ | refine zQ ?_ | refine zR ?_) | refine zS ?_)
      exact ret1 rfl ⟨rfl, mc_fin ⟨good_setW hg4.1, hg4.2⟩ H⟩
    · have e : s.save k addr = 4 := by rw [St.save, if_neg (fun x => x hf), if_pos hro]
      have e2 : s.saveS k addr x = s := by rw [St.saveS, e]; rfl
      rw [e, e2]
      repeat' (first | (refine zA ?_; first | refine zB ?_ | refine zC H ?_ | refine zD H ?_ | refine zE H fun _ _ H => ?_ | refine zF H fun _ _ H => ?_ | refine zG H fun _ H => ?_ | refine zH H fun _ H => ?_) | (refine zI ?_; first | refine zJ ?_ | refine zK ?_ | refine zL ?_ | refine CW.seqDc ?_ | refine CW.seqDb ?_ | refine CW.seqDl ?_ | refine CW.seqDs ?_ | refine CW.seqDk ?_ | refine zN ?_ | refine zO ?_ | refine zP ?_ | refine zQ ?_ | refine zR ?_) | refine zS ?_)
      rw [hro]
      repeat' (first | (refine zA ?_; first | refine zB ?_ | refine zC H ?_ | refine zD H ?_ | refine zE H fun _ _ H => ?_ | refine zF H fun _ _ H => ?_ | refine zG H fun _ H => ?_ | refine zH H fun _ H => ?_) | (refine zI ?_; first | refine zJ ?_ | refine zK ?_ | refine zL ?_ | refine CW.seqDc ?_ | refine CW.seqDb ?_ | refine CW.seqDl ?_ | refine CW.seqDs ?_ | refine CW.seqDk ?_ | refine zN ?_ | refine zO ?_ | refine zP ?_ | refine zQ ?_ | refine zR ?_) | refine zS ?_)
      exact ret1 rfl ⟨rfl, (H.drop.perm p4).drop⟩
  · have e : s.save k addr = (s.walk k addr).2.1 := by rw [St.save, if_pos hf]
    have e2 : s.saveS k addr x = s := by rw [St.saveS, e, if_neg hf]
    rw [e, e2]
    repeat' (first | (refine zA ?_; first | refine zB ?_ | refine zC H ?_ | refine zD H ?_ | refine zE H fun _ _ H => ?_ | refine zF H fun _ _ H => ?_ | refine zG H fun _ H => ?_ | refine zH H fun _ H => ?_) | (refine zI ?_; first | refine zJ ?_ | refine zK ?_ | refine zL ?_ | refine CW.seqDc ?_ | refine CW.seqDb ?_ | refine CW.seqDl ?_ | refine CW.seqDs ?_ | refine CW.seqDk ?_ | refine zN ?_ | refine zO ?_ | refine zP ?_ | refine zQ ?_ | refine zR ?_) | refine zS ?_)
    rw [show (((s.walk k addr).2.1 : Int) != 0) = true from bne_iff_ne.2 (by omega)]
    repeat' (first | (refine zA ?_; first | refine zB ?_ | refine zC H ?_ | refine zD H ?_ | refine zE H fun _ _ H => ?_ | refine zF H fun _ _ H => ?_ | refine zG H fun _ H => ?_ | refine zH H fun _ H => ?_) | (refine zI ?_; first | refine zJ ?_ | refine zK ?_ | refine zL ?_ | refine CW.seqDc ?_ | refine CW.seqDb ?_ | refine CW.seqDl ?_ | refine CW.seqDs ?_ | refine CW.seqDk ?_ | refine zN ?_ | refine zO ?_ | refine zP ?_ | refine zQ ?_ | refine zR ?_) | refine zS ?_)
    exact ret1 rfl ⟨rfl, (H.drop.perm p4).drop⟩
set_option maxHeartbeats 4000000 in
set_option maxRecDepth 20000 in
theorem mem_new (H : Sat z w Rs) (N M : Nat) (hN0 : 1 ≤ N) (hN : N ≤ 256) (hM0 : 1 ≤ M) (hM : M ≤ 256) (n : Nat) (h1 : 1 ≤ n) (h2 : n ≤ 64) :
    Spec cf 16 #[.int .i64 N, .int .i64 M, .int .i64 n] w fun e w' => ∃ bm bs bn bp : Nat, e = .tuple #[.pointer (some ⟨bm, 0, none⟩), .nilIface] ∧ Sat z w' (blk bs 38 [.pointer (some ⟨bn, 0, none⟩), .pointer (some ⟨bp, 0, none⟩)] :: nodesP bn (St.new N M) :: pagesP bp (St.new N M) :: mcP bm bs n (St.new N M) 0 :: Rs) := by
  refine enter (l := [.int .i64 N, .int .i64 M, .int .i64 n]) Tryd.func16 rfl rfl rfl rfl rfl ?_
  repeat' (first | (refine zA ?_; first | refine zB ?_ | refine zC H ?_ | refine zD H ?_ | refine zE H fun _ _ H => ?_ | refine zF H fun _ _ H => ?_ | refine zG H fun _ H => ?_ | refine zH H fun _ H => ?_) | (refine zI ?_; first | refine zJ ?_ | refine zK ?_ | refine zL ?_ | refine CW.seqDc ?_ | refine CW.seqDb ?_ | refine CW.seqDl ?_ | refine CW.seqDs ?_ | refine CW.seqDk ?_ | refine zN ?_ | refine zO ?_ | refine zP ?_ | refine zQ ?_ | refine zR ?_) | refine zS ?_)
  refine OpsW.call rfl rfl rfl (store_new N M hN0 hN hM0 hM H) ?_
  rintro _ w ⟨bs, bn, bp, rfl, H⟩
  repeat' (first | (refine zA ?_; first | refine zB ?_ | refine zC H ?_ | refine zD H ?_ | refine zE H fun _ _ H => ?_ | refine zF H fun _ _ H => ?_ | refine zG H fun _ H => ?_ | refine zH H fun _ H => ?_) | (refine zI ?_; first | refine zJ ?_ | refine zK ?_ | refine zL ?_ | refine CW.seqDc ?_ | refine CW.seqDb ?_ | refine CW.seqDl ?_ | refine CW.seqDs ?_ | refine CW.seqDk ?_ | refine zN ?_ | refine zO ?_ | refine zP ?_ | refine zQ ?_ | refine zR ?_) | refine zS ?_)
  refine OpsW.call rfl rfl rfl (cache_new H n h1 h2) ?_
  rintro _ w ⟨bc, rfl, H⟩
  replace H := cache_mkm H
  repeat' (first | (refine zA ?_; first | refine zB ?_ | refine zC H ?_ | refine zD H ?_ | refine zE H fun _ _ H => ?_ | refine zF H fun _ _ H => ?_ | refine zG H fun _ H => ?_ | refine zH H fun _ H => ?_) | (refine zI ?_; first | refine zJ ?_ | refine zK ?_ | refine zL ?_ | refine CW.seqDc ?_ | refine CW.seqDb ?_ | refine CW.seqDl ?_ | refine CW.seqDs ?_ | refine CW.seqDk ?_ | refine zN ?_ | refine zO ?_ | refine zP ?_ | refine zQ ?_ | refine zR ?_) | refine zS ?_)
  exact ret2 rfl rfl ⟨_, bs, bn, bp, rfl, (mc_close ⟨good_nil _, by show (0 : Int) ≤ n; omega, Int.le_refl 0, Int.le_refl 0⟩ H).perm p3.symm⟩
end
end Go.Proofs.YtnfefbhjdncccaaDoor.X
