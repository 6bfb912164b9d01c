/- The first examples of chapter 10; conditions: none. -/
import Derived.Test.YtgaabaohkpjllaaDoorA10m
namespace Go.Proofs.YtgaabaohkpjllaaDoor.X
open Go Go.Proofs
set_option linter.unusedSimpArgs false
set_option linter.unusedVariables false
def kT : K := ⟨2, 0, 0, 0, 1⟩
/-- The store of the first example. -/
def sT : St := stOf (treeL 16 1 [0, 1, 0] Yt.z).2
theorem kT_eq : (treeL 16 1 [0, 1, 0] Yt.z).1 = kT := by kernel_rfl
theorem sT_walk0 : (sT.walk kT 3).1.page = 0 ∧ (sT.walk kT 3).1.at_ = 3 ∧ (sT.walk kT 3).1.ro = false ∧ (sT.walk kT 3).2.1 = 0 ∧ (sT.walk kT 3).2.2 = [0] := by decide +kernel
theorem wkq {x : Plc × Nat × List Int} {p a : Int} {r : Bool} {f : Nat} {ns : List Int} (h : x.1.page = p ∧ x.1.at_ = a ∧ x.1.ro = r ∧ x.2.1 = f ∧ x.2.2 = ns) : x = (⟨p, a, r⟩, f, ns) := by
  obtain ⟨⟨a, b, c⟩, d, e⟩ := x
  obtain ⟨rfl, rfl, rfl, rfl, rfl⟩ := h; rfl
theorem sT_walk : sT.walk kT 3 = (⟨0, 3, false⟩, 0, [0]) := wkq sT_walk0
theorem stOf_ok (y : Yt) : (stOf y).ok := sKy_ok y _
theorem stOf_d {y : Yt} (h : y.d0) (a c : Nat) : 0 ≤ ((stOf y).nd a c).data := sKy_d h _ a c
theorem sT_eq : stOf (treeL 16 1 [0, 1, 0] Yt.z).2 = sT := rfl
theorem sT_ok : sT.ok := by unfold sT; exact stOf_ok _
theorem Yt.z_d0 : Yt.z.d0 := fun _ _ => Int.le_refl 0
theorem sT_d (a c : Nat) : 0 ≤ (sT.nd a c).data := by unfold sT; exact stOf_d ((treeL_d0 16 1 _ _).2 Yt.z_d0) a c
theorem cache_mk {z w : World} {Rs : List HP} {bc : Nat} {n hits : Int} (H : Sat z w (blk bc 102 [.int .i64 n, .slice none 0 0, .int .i64 hits] :: Rs)) : Sat z w (cacheP bc n [] hits :: Rs) := by
  have H1 : Sat z w (blk bc 102 [.int .i64 n, .slice none ([] : List WyA).length 0, .int .i64 hits] :: vec 104 none ([] : List WyA).length 0 10 (([] : List WyA).flatMap Wy.c) :: wns [] :: Rs) := by
    have H2 := (Sat.vnil (E := 104) (sz := 10) (Sat.mkemp H))
    exact H2.perm ((pS (pS p0)).trans ((p0 : List.Perm _ _)))
  exact cache_close H1
theorem q1 {A S1 S2 S3 S4 : HP} {R : List HP} : (A :: S1 :: S2 :: S3 :: S4 :: R).Perm (S1 :: S2 :: S3 :: S4 :: A :: R) :=
  (List.perm_append_comm (l₁ := [A]) (l₂ := [S1, S2, S3, S4])).append_right R
theorem q2 {A B S1 S2 S3 S4 : HP} {R : List HP} : (A :: B :: S1 :: S2 :: S3 :: S4 :: R).Perm (S1 :: S2 :: S3 :: S4 :: A :: B :: R) :=
  (List.perm_append_comm (l₁ := [A, B]) (l₂ := [S1, S2, S3, S4])).append_right R
theorem q3 {A B C S1 S2 S3 S4 : HP} {R : List HP} : (A :: B :: C :: S1 :: S2 :: S3 :: S4 :: R).Perm (S1 :: S2 :: S3 :: S4 :: A :: B :: C :: R) :=
  (List.perm_append_comm (l₁ := [A, B, C]) (l₂ := [S1, S2, S3, S4])).append_right R
theorem K.same_self (k : K) : k.same k = true := (K.same_iff k k).2 rfl
attribute [local irreducible] CW OpsW RetW Spec blk snap DrawP AnyW AnyM AnyN bits IntKind.wrap vec arena kds nds wds pgs eA nodesP pagesP cacheP wns treeL St.walk sKy sNd sPg St.put sT
/-- The caches of the first example. -/
theorem sT_find1 : sT.find 4 [] kT 3 = (⟨0, 3, false⟩, 0, [⟨kT, 0, [0], ⟨0, 3, false⟩⟩], 0) := by
  unfold St.find
  rw [sT_walk]; rfl
theorem sT_find2 : sT.find 4 [⟨kT, 0, [0], ⟨0, 3, false⟩⟩] kT 3 = (⟨0, 3, false⟩, 0, [⟨kT, 0, [0], ⟨0, 3, false⟩⟩], 1) := by
  unfold St.find
  rw [show ([⟨kT, 0, [0], ⟨0, 3, false⟩⟩] : List Wy).find? (fun x => x.page == 3 / 32 && x.root.same kT) = some ⟨kT, 0, [0], ⟨0, 3, false⟩⟩ by rw [List.find?_cons_of_pos (by rw [K.same_self]; rfl)]]
  rfl
section
variable {z w : World} {Rs As : List HP} {ads : List Addr} {bc bn bp bs : Nat} {s : St} {size hits : Int} {ws : List Wy}
/-- What is asked of a cache behind a store, known by what it gives. -/
theorem find_is {k : K} {addr : Int} {p : Plc} {f : Nat} {ws2 : List Wy} {n : Int} (e : s.find size ws k addr = (p, f, ws2, n)) (H : Sat z w (blk bs 32 [.pointer (some ⟨bn, 0, none⟩), .pointer (some ⟨bp, 0, none⟩)] :: nodesP bn s :: pagesP bp s :: cacheP bc size ws hits :: Rs)) (hs : s.ok) (hd : 0 ≤ k.data) (hk : ∀ a c, 0 ≤ (s.nd a c).data) (ha : 0 ≤ addr) (ha2 : addr < 4294967296) (hs1 : 1 ≤ size) (hsz : size ≤ 64) (hws : (ws.length : Int) ≤ size) (hh0 : 0 ≤ hits) (hh : hits ≤ 1000000) :
    Spec cf 27 #[.pointer (some ⟨bc, 0, none⟩), .pointer (some ⟨bs, 0, none⟩), k.v, .int .u32 addr] w fun e w' => e = .tuple #[p.v, .int .i64 f] ∧ Sat z w' (blk bs 32 [.pointer (some ⟨bn, 0, none⟩), .pointer (some ⟨bp, 0, none⟩)] :: nodesP bn s :: pagesP bp s :: cacheP bc size ws2 (hits + n) :: Rs) := by
  have := cache_find H hs k addr hd hk ha ha2 hs1 hsz hws hh0 hh
  rw [e] at this; exact this
theorem hits_ (H : Sat z w (blk bs 32 [.pointer (some ⟨bn, 0, none⟩), .pointer (some ⟨bp, 0, none⟩)] :: nodesP bn s :: pagesP bp s :: cacheP bc size ws hits :: Rs)) : Spec cf 29 #[.pointer (some ⟨bc, 0, none⟩)] w fun e w' => e = .int .i64 hits ∧ Sat z w' (blk bs 32 [.pointer (some ⟨bn, 0, none⟩), .pointer (some ⟨bp, 0, none⟩)] :: nodesP bn s :: pagesP bp s :: cacheP bc size ws hits :: Rs) := by
  obtain ⟨l, a, cap, rfl, H2⟩ := cache_open (H.perm (pS (pS (pS p0))))
  exact (cache_hits H2).mono fun e w h => ⟨h.1, (cache_close h.2).perm (pS (pS (pS p0))).symm⟩
theorem len_ (H : Sat z w (blk bs 32 [.pointer (some ⟨bn, 0, none⟩), .pointer (some ⟨bp, 0, none⟩)] :: nodesP bn s :: pagesP bp s :: cacheP bc size ws hits :: Rs)) : Spec cf 28 #[.pointer (some ⟨bc, 0, none⟩)] w fun e w' => e = .int .i64 ws.length ∧ Sat z w' (blk bs 32 [.pointer (some ⟨bn, 0, none⟩), .pointer (some ⟨bp, 0, none⟩)] :: nodesP bn s :: pagesP bp s :: cacheP bc size ws hits :: Rs) := by
  obtain ⟨l, a, cap, rfl, H2⟩ := cache_open (H.perm (pS (pS (pS p0))))
  exact (cache_len H2).mono fun e w h => ⟨by rw [h.1, List.length_map], (cache_close h.2).perm (pS (pS (pS p0))).symm⟩
theorem clear_ (H : Sat z w (blk bs 32 [.pointer (some ⟨bn, 0, none⟩), .pointer (some ⟨bp, 0, none⟩)] :: nodesP bn s :: pagesP bp s :: cacheP bc size ws hits :: Rs)) : Spec cf 32 #[.pointer (some ⟨bc, 0, none⟩)] w fun e w' => e = .tuple #[] ∧ Sat z w' (blk bs 32 [.pointer (some ⟨bn, 0, none⟩), .pointer (some ⟨bp, 0, none⟩)] :: nodesP bn s :: pagesP bp s :: cacheP bc size [] hits :: Rs) := by
  obtain ⟨l, a, cap, rfl, H2⟩ := cache_open (H.perm (pS (pS (pS p0))))
  refine (cache_clear H2).mono fun e w h => ⟨h.1, ?_⟩
  have H3 := (h.2.perm (pS (pS p0))).drop
  have H4 := (H3.perm (pS p0)).drop
  have H5 := cache_mk H4
  exact H5.perm (pS (pS (pS p0))).symm
theorem forget_ {v : Value} {L : List Int} (H : Sat z w (blk bs 32 [.pointer (some ⟨bn, 0, none⟩), .pointer (some ⟨bp, 0, none⟩)] :: nodesP bn s :: pagesP bp s :: cacheP bc size ws hits :: Rs)) (hL : L.length ≤ 1000) (hv : SlR Rs v 1 L.length (L.map (.int .i64))) (hw : ws.length ≤ 1000) (hns : ∀ x ∈ ws, x.ns.length ≤ 1000) :
    Spec cf 35 #[.pointer (some ⟨bc, 0, none⟩), v] w fun e w' => e = .tuple #[] ∧ Sat z w' (blk bs 32 [.pointer (some ⟨bn, 0, none⟩), .pointer (some ⟨bp, 0, none⟩)] :: nodesP bn s :: pagesP bp s :: cacheP bc size (ws.filter fun x => !x.through L) hits :: Rs) :=
  (cache_forget (H.perm (pS (pS (pS p0)))) hL hv.tail.tail.tail hw hns).mono fun e w h => ⟨h.1, h.2.perm (pS (pS (pS p0))).symm⟩
set_option maxHeartbeats 4000000 in
set_option maxRecDepth 20000 in
theorem first10_ (H : Sat z w As) (hE : EN As ads) : Spec cf 25 #[] w fun e w' => e = .bool true ∧ Sat z w' As := by
  refine enter (l := []) Tryd.func25 rfl rfl rfl rfl rfl ?_
  repeat' (first | (refine OpsW.go ?_; first | refine OpsW.st rfl ?_ | refine OpsW.ld H (by (first | exact p0 | exact p1 | exact p2 | exact p3 | exact p4 | exact p5 | exact p6 | exact p7)) rfl rfl rfl rfl (by rfl) rfl ?_ | refine OpsW.ldA H (by (first | exact p0 | exact p1 | exact p2 | exact p3 | exact p4 | exact p5 | exact p6 | exact p7)) rfl rfl rfl (by rfl) rfl ?_ | refine OpsW.box H rfl rfl rfl fun _ _ H => ?_ | refine OpsW.alloc H rfl rfl rfl rfl fun _ _ H => ?_ | refine OpsW.str H (by (first | exact p0 | exact p1 | exact p2 | exact p3 | exact p4 | exact p5 | exact p6 | exact p7)) rfl rfl rfl rfl rfl rfl (by first | decide | (simp; done) | (simp; omega)) fun _ H => ?_ | refine OpsW.strA H (by (first | exact p0 | exact p1 | exact p2 | exact p3 | exact p4 | exact p5 | exact p6 | exact p7)) rfl rfl rfl rfl rfl rfl (by first | decide | (simp; done) | (simp; omega)) fun _ H => ?_) | (refine CW.go ?_; first | refine CW.condT rfl ?_ | refine CW.condF rfl ?_ | refine CW.seqR ?_ | refine CW.seqDc ?_ | refine CW.seqDb ?_ | refine CW.seqDl ?_ | refine CW.seqDs ?_ | refine CW.seqDk ?_ | refine CW.block ?_ | refine CW.region ?_ | refine CW.ret ?_ | refine CW.exit ?_ | refine CW.skip ?_) | refine OpsW.nil ?_)
  refine OpsW.bsl H rfl rfl rfl rfl rfl rfl rfl rfl fun bb w H => ?_
  repeat' (first | (refine OpsW.go ?_; first | refine OpsW.st rfl ?_ | refine OpsW.ld H (by (first | exact p0 | exact p1 | exact p2 | exact p3 | exact p4 | exact p5 | exact p6 | exact p7)) rfl rfl rfl rfl (by rfl) rfl ?_ | refine OpsW.ldA H (by (first | exact p0 | exact p1 | exact p2 | exact p3 | exact p4 | exact p5 | exact p6 | exact p7)) rfl rfl rfl (by rfl) rfl ?_ | refine OpsW.box H rfl rfl rfl fun _ _ H => ?_ | refine OpsW.alloc H rfl rfl rfl rfl fun _ _ H => ?_ | refine OpsW.str H (by (first | exact p0 | exact p1 | exact p2 | exact p3 | exact p4 | exact p5 | exact p6 | exact p7)) rfl rfl rfl rfl rfl rfl (by first | decide | (simp; done) | (simp; omega)) fun _ H => ?_ | refine OpsW.strA H (by (first | exact p0 | exact p1 | exact p2 | exact p3 | exact p4 | exact p5 | exact p6 | exact p7)) rfl rfl rfl rfl rfl rfl (by first | decide | (simp; done) | (simp; omega)) fun _ H => ?_) | (refine CW.go ?_; first | refine CW.condT rfl ?_ | refine CW.condF rfl ?_ | refine CW.seqR ?_ | refine CW.seqDc ?_ | refine CW.seqDb ?_ | refine CW.seqDl ?_ | refine CW.seqDs ?_ | refine CW.seqDk ?_ | refine CW.block ?_ | refine CW.region ?_ | refine CW.ret ?_ | refine CW.exit ?_ | refine CW.skip ?_) | refine OpsW.nil ?_)
  have hm := made10_ H hE.tail 1 (by decide) [0, 1, 0] (by decide) _ (SlR.of_blk (r := []) rfl (Nat.le_refl 3))
  rw [kT_eq, sT_eq] at hm
  refine OpsW.call rfl rfl rfl hm ?_
  rintro _ w ⟨bs, bn, bp, rfl, H⟩
  repeat' (first | (refine OpsW.go ?_; first | refine OpsW.st rfl ?_ | refine OpsW.ld H (by (first | exact p0 | exact p1 | exact p2 | exact p3 | exact p4 | exact p5 | exact p6 | exact p7)) rfl rfl rfl rfl (by rfl) rfl ?_ | refine OpsW.ldA H (by (first | exact p0 | exact p1 | exact p2 | exact p3 | exact p4 | exact p5 | exact p6 | exact p7)) rfl rfl rfl (by rfl) rfl ?_ | refine OpsW.box H rfl rfl rfl fun _ _ H => ?_ | refine OpsW.alloc H rfl rfl rfl rfl fun _ _ H => ?_ | refine OpsW.str H (by (first | exact p0 | exact p1 | exact p2 | exact p3 | exact p4 | exact p5 | exact p6 | exact p7)) rfl rfl rfl rfl rfl rfl (by first | decide | (simp; done) | (simp; omega)) fun _ H => ?_ | refine OpsW.strA H (by (first | exact p0 | exact p1 | exact p2 | exact p3 | exact p4 | exact p5 | exact p6 | exact p7)) rfl rfl rfl rfl rfl rfl (by first | decide | (simp; done) | (simp; omega)) fun _ H => ?_) | (refine CW.go ?_; first | refine CW.condT rfl ?_ | refine CW.condF rfl ?_ | refine CW.seqR ?_ | refine CW.seqDc ?_ | refine CW.seqDb ?_ | refine CW.seqDl ?_ | refine CW.seqDs ?_ | refine CW.seqDk ?_ | refine CW.block ?_ | refine CW.region ?_ | refine CW.ret ?_ | refine CW.exit ?_ | refine CW.skip ?_) | refine OpsW.nil ?_)
  rename_i bk _ _
  refine OpsW.call rfl rfl rfl (cache_new H 4 (by decide) (by decide)) ?_
  rintro _ w ⟨bc, rfl, H⟩
  replace H := cache_mk H
  replace H := H.perm r2
  repeat' (first | (refine OpsW.go ?_; first | refine OpsW.st rfl ?_ | refine OpsW.ld H (by (first | exact p0 | exact p1 | exact p2 | exact p3 | exact p4 | exact p5 | exact p6 | exact p7)) rfl rfl rfl rfl (by rfl) rfl ?_ | refine OpsW.ldA H (by (first | exact p0 | exact p1 | exact p2 | exact p3 | exact p4 | exact p5 | exact p6 | exact p7)) rfl rfl rfl (by rfl) rfl ?_ | refine OpsW.box H rfl rfl rfl fun _ _ H => ?_ | refine OpsW.alloc H rfl rfl rfl rfl fun _ _ H => ?_ | refine OpsW.str H (by (first | exact p0 | exact p1 | exact p2 | exact p3 | exact p4 | exact p5 | exact p6 | exact p7)) rfl rfl rfl rfl rfl rfl (by first | decide | (simp; done) | (simp; omega)) fun _ H => ?_ | refine OpsW.strA H (by (first | exact p0 | exact p1 | exact p2 | exact p3 | exact p4 | exact p5 | exact p6 | exact p7)) rfl rfl rfl rfl rfl rfl (by first | decide | (simp; done) | (simp; omega)) fun _ H => ?_) | (refine CW.go ?_; first | refine CW.condT rfl ?_ | refine CW.condF rfl ?_ | refine CW.seqR ?_ | refine CW.seqDc ?_ | refine CW.seqDb ?_ | refine CW.seqDl ?_ | refine CW.seqDs ?_ | refine CW.seqDk ?_ | refine CW.block ?_ | refine CW.region ?_ | refine CW.ret ?_ | refine CW.exit ?_ | refine CW.skip ?_) | refine OpsW.nil ?_)
  refine OpsW.call rfl rfl rfl (find_is sT_find1 H sT_ok (by decide) sT_d (by decide) (by decide) (by decide) (by decide) (by decide) (by decide) (by decide)) ?_
  rintro _ w ⟨rfl, H⟩
  repeat' (first | (refine OpsW.go ?_; first | refine OpsW.st rfl ?_ | refine OpsW.ld H (by (first | exact p0 | exact p1 | exact p2 | exact p3 | exact p4 | exact p5 | exact p6 | exact p7)) rfl rfl rfl rfl (by rfl) rfl ?_ | refine OpsW.ldA H (by (first | exact p0 | exact p1 | exact p2 | exact p3 | exact p4 | exact p5 | exact p6 | exact p7)) rfl rfl rfl (by rfl) rfl ?_ | refine OpsW.box H rfl rfl rfl fun _ _ H => ?_ | refine OpsW.alloc H rfl rfl rfl rfl fun _ _ H => ?_ | refine OpsW.str H (by (first | exact p0 | exact p1 | exact p2 | exact p3 | exact p4 | exact p5 | exact p6 | exact p7)) rfl rfl rfl rfl rfl rfl (by first | decide | (simp; done) | (simp; omega)) fun _ H => ?_ | refine OpsW.strA H (by (first | exact p0 | exact p1 | exact p2 | exact p3 | exact p4 | exact p5 | exact p6 | exact p7)) rfl rfl rfl rfl rfl rfl (by first | decide | (simp; done) | (simp; omega)) fun _ H => ?_) | (refine CW.go ?_; first | refine CW.condT rfl ?_ | refine CW.condF rfl ?_ | refine CW.seqR ?_ | refine CW.seqDc ?_ | refine CW.seqDb ?_ | refine CW.seqDl ?_ | refine CW.seqDs ?_ | refine CW.seqDk ?_ | refine CW.block ?_ | refine CW.region ?_ | refine CW.ret ?_ | refine CW.exit ?_ | refine CW.skip ?_) | refine OpsW.nil ?_)
  refine OpsW.call rfl rfl rfl (find_is sT_find2 (H.perm q1) sT_ok (by decide) sT_d (by decide) (by decide) (by decide) (by decide) (by decide) (by decide) (by decide)) ?_
  rintro _ w ⟨rfl, H⟩
  repeat' (first | (refine OpsW.go ?_; first | refine OpsW.st rfl ?_ | refine OpsW.ld H (by (first | exact p0 | exact p1 | exact p2 | exact p3 | exact p4 | exact p5 | exact p6 | exact p7)) rfl rfl rfl rfl (by rfl) rfl ?_ | refine OpsW.ldA H (by (first | exact p0 | exact p1 | exact p2 | exact p3 | exact p4 | exact p5 | exact p6 | exact p7)) rfl rfl rfl (by rfl) rfl ?_ | refine OpsW.box H rfl rfl rfl fun _ _ H => ?_ | refine OpsW.alloc H rfl rfl rfl rfl fun _ _ H => ?_ | refine OpsW.str H (by (first | exact p0 | exact p1 | exact p2 | exact p3 | exact p4 | exact p5 | exact p6 | exact p7)) rfl rfl rfl rfl rfl rfl (by first | decide | (simp; done) | (simp; omega)) fun _ H => ?_ | refine OpsW.strA H (by (first | exact p0 | exact p1 | exact p2 | exact p3 | exact p4 | exact p5 | exact p6 | exact p7)) rfl rfl rfl rfl rfl rfl (by first | decide | (simp; done) | (simp; omega)) fun _ H => ?_) | (refine CW.go ?_; first | refine CW.condT rfl ?_ | refine CW.condF rfl ?_ | refine CW.seqR ?_ | refine CW.seqDc ?_ | refine CW.seqDb ?_ | refine CW.seqDl ?_ | refine CW.seqDs ?_ | refine CW.seqDk ?_ | refine CW.block ?_ | refine CW.region ?_ | refine CW.ret ?_ | refine CW.exit ?_ | refine CW.skip ?_) | refine OpsW.nil ?_)
  refine OpsW.call rfl rfl rfl (via H (by exact q1) fun H => hits_ H) ?_
  rintro _ w ⟨rfl, H⟩
  repeat' (first | (refine OpsW.go ?_; first | refine OpsW.st rfl ?_ | refine OpsW.ld H (by (first | exact p0 | exact p1 | exact p2 | exact p3 | exact p4 | exact p5 | exact p6 | exact p7)) rfl rfl rfl rfl (by rfl) rfl ?_ | refine OpsW.ldA H (by (first | exact p0 | exact p1 | exact p2 | exact p3 | exact p4 | exact p5 | exact p6 | exact p7)) rfl rfl rfl (by rfl) rfl ?_ | refine OpsW.box H rfl rfl rfl fun _ _ H => ?_ | refine OpsW.alloc H rfl rfl rfl rfl fun _ _ H => ?_ | refine OpsW.str H (by (first | exact p0 | exact p1 | exact p2 | exact p3 | exact p4 | exact p5 | exact p6 | exact p7)) rfl rfl rfl rfl rfl rfl (by first | decide | (simp; done) | (simp; omega)) fun _ H => ?_ | refine OpsW.strA H (by (first | exact p0 | exact p1 | exact p2 | exact p3 | exact p4 | exact p5 | exact p6 | exact p7)) rfl rfl rfl rfl rfl rfl (by first | decide | (simp; done) | (simp; omega)) fun _ H => ?_) | (refine CW.go ?_; first | refine CW.condT rfl ?_ | refine CW.condF rfl ?_ | refine CW.seqR ?_ | refine CW.seqDc ?_ | refine CW.seqDb ?_ | refine CW.seqDl ?_ | refine CW.seqDs ?_ | refine CW.seqDk ?_ | refine CW.block ?_ | refine CW.region ?_ | refine CW.ret ?_ | refine CW.exit ?_ | refine CW.skip ?_) | refine OpsW.nil ?_)
  exact ret1 rfl ⟨rfl, H.drop.drop.drop.drop.drop.drop.drop.drop⟩
end
end Go.Proofs.YtgaabaohkpjllaaDoor.X
