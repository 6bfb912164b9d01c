/- Contracts of chapter 8 (store): the store's functions; conditions: none. -/
import Derived.Test.YtnfefbhjdncccaaDoorA8
import Derived.Test.YtnfefbhjdncccaaDoorGC
--AUTODROP
namespace Go.Proofs.YtnfefbhjdncccaaDoor.X
open Go Go.Proofs
set_option linter.unusedSimpArgs false
set_option linter.unusedVariables false
attribute [local irreducible] CW OpsW RetW Spec blk snap DrawP AnyW AnyM AnyN bits IntKind.wrap vec arena kds nds wds pgs eA nodesP pagesP
section
variable {z w : World} {Rs As : List HP} {bn bp bs ba b : Nat} {s : St} {ads : List Addr}
theorem r1 {A S1 S2 S3 : HP} {R : List HP} : (A :: S1 :: S2 :: S3 :: R).Perm (S1 :: S2 :: S3 :: A :: R) :=
  (List.perm_append_comm (l₁ := [A]) (l₂ := [S1, S2, S3])).append_right R
theorem r2 {A B S1 S2 S3 : HP} {R : List HP} : (A :: B :: S1 :: S2 :: S3 :: R).Perm (S1 :: S2 :: S3 :: A :: B :: R) :=
  (List.perm_append_comm (l₁ := [A, B]) (l₂ := [S1, S2, S3])).append_right R
theorem r3 {A B D S1 S2 S3 : HP} {R : List HP} : (A :: B :: D :: S1 :: S2 :: S3 :: R).Perm (S1 :: S2 :: S3 :: A :: B :: D :: R) :=
  (List.perm_append_comm (l₁ := [A, B, D]) (l₂ := [S1, S2, S3])).append_right R
theorem back {f : FuncId} {args : Array Value} {v : Value} {As Bs : List HP} (p : As.Perm Bs) (h : Spec cf f args w fun e w' => e = v ∧ Sat z w' Bs) : Spec cf f args w fun e w' => e = v ∧ Sat z w' As :=
  h.mono fun e w h => ⟨h.1, h.2.perm p.symm⟩
def St.new (N M : Nat) : St := ⟨N, fun _ => Pl.z, fun _ _ => K.void, M, fun _ => Pl.z, fun _ _ => 0⟩
theorem store_new (N M : Nat) (hN0 : 1 ≤ N) (hN : N ≤ 256) (hM0 : 1 ≤ M) (hM : M ≤ 256) (H : Sat z w Rs) :
    Spec cf 49 #[.int .i64 N, .int .i64 M] w fun e w' => ∃ bs bn bp : Nat, e = .tuple #[.pointer (some ⟨bs, 0, none⟩), .nilIface] ∧ Sat z w' (blk bs 38 [.pointer (some ⟨bn, 0, none⟩), .pointer (some ⟨bp, 0, none⟩)] :: nodesP bn (St.new N M) :: pagesP bp (St.new N M) :: Rs) := by
  refine enter (l := [.int .i64 N, .int .i64 M]) Tryd.func49 rfl rfl rfl rfl rfl ?_
  repeat' (first | (refine zA ?_; first | refine zB ?_ | refine zC H ?_ | refine zD H ?_ | refine zE H fun _ _ H => ?_ | refine zF H fun _ _ H => ?_ | refine zG H fun _ H => ?_ | refine zH H fun _ H => ?_) | (refine zI ?_; first | refine zJ ?_ | refine zK ?_ | refine zL ?_ | refine zM ?_ | refine zN ?_ | refine zO ?_ | refine zP ?_ | refine zQ ?_ | refine zR ?_) | refine zS ?_)
  refine OpsW.call rfl rfl rfl (node_new hN0 hN H) ?_
  rintro _ w ⟨bn, ba, b, rfl, H⟩
  replace H := nodes_close (s := St.new N M) H
  repeat' (first | (refine zA ?_; first | refine zB ?_ | refine zC H ?_ | refine zD H ?_ | refine zE H fun _ _ H => ?_ | refine zF H fun _ _ H => ?_ | refine zG H fun _ H => ?_ | refine zH H fun _ H => ?_) | (refine zI ?_; first | refine zJ ?_ | refine zK ?_ | refine zL ?_ | refine zM ?_ | refine zN ?_ | refine zO ?_ | refine zP ?_ | refine zQ ?_ | refine zR ?_) | refine zS ?_)
  refine OpsW.call rfl rfl rfl (page_new hM0 hM H) ?_
  rintro _ w ⟨bp, ba, b, rfl, H⟩
  replace H := pages_close (s := St.new N M) H
  repeat' (first | (refine zA ?_; first | refine zB ?_ | refine zC H ?_ | refine zD H ?_ | refine zE H fun _ _ H => ?_ | refine zF H fun _ _ H => ?_ | refine zG H fun _ H => ?_ | refine zH H fun _ H => ?_) | (refine zI ?_; first | refine zJ ?_ | refine zK ?_ | refine zL ?_ | refine zM ?_ | refine zN ?_ | refine zO ?_ | refine zP ?_ | refine zQ ?_ | refine zR ?_) | refine zS ?_)
  exact ret2 rfl rfl ⟨_, bn, bp, rfl, H.perm (.cons _ (.swap _ _ _))⟩
theorem store_live (H : Sat z w (blk bs 38 [.pointer (some ⟨bn, 0, none⟩), .pointer (some ⟨bp, 0, none⟩)] :: nodesP bn s :: pagesP bp s :: Rs)) (hs : s.ok) (k : K) :
    Spec cf 95 #[.pointer (some ⟨bs, 0, none⟩), k.v] w fun e w' => e = .bool (s.live k) ∧ Sat z w' (blk bs 38 [.pointer (some ⟨bn, 0, none⟩), .pointer (some ⟨bp, 0, none⟩)] :: nodesP bn s :: pagesP bp s :: Rs) := by
  refine enter (l := [.pointer (some ⟨bs, 0, none⟩), k.v]) Tryd.func95 rfl rfl rfl rfl rfl ?_
  repeat' (first | (refine zA ?_; first | refine zB ?_ | refine zC H ?_ | refine zD H ?_ | refine zE H fun _ _ H => ?_ | refine zF H fun _ _ H => ?_ | refine zG H fun _ H => ?_ | refine zH H fun _ H => ?_) | (refine zI ?_; first | refine zJ ?_ | refine zK ?_ | refine zL ?_ | refine zM ?_ | refine zN ?_ | refine zO ?_ | refine zP ?_ | refine zQ ?_ | refine zR ?_) | refine zS ?_)
  refine CW.cond rfl (fun h2 => ?_) (fun h2 => ?_)
  · have e2 : k.kind = 2 := eq_of_beq h2
    obtain ⟨ba, b, H⟩ := nodes_open (H.perm (pS (pS p0)))
    repeat' (first | (refine zA ?_; first | refine zB ?_ | refine zC H ?_ | refine zD H ?_ | refine zE H fun _ _ H => ?_ | refine zF H fun _ _ H => ?_ | refine zG H fun _ H => ?_ | refine zH H fun _ H => ?_) | (refine zI ?_; first | refine zJ ?_ | refine zK ?_ | refine zL ?_ | refine zM ?_ | refine zN ?_ | refine zO ?_ | refine zP ?_ | refine zQ ?_ | refine zR ?_) | refine zS ?_)
    (first | refine CW.seqDraw mo H [0, 1, 3, 7, 15, 31, 63, 0, 128, 0, 512, 2047, 4095] fun w H => ?_ | refine CW.draw mo H [0, 1, 3, 7, 15, 31, 63, 0, 128, 0, 512, 2047, 4095] fun w H => ?_); refine AnyW.seg (m := 13) (by kernel_rfl) (by kernel_rfl) H rfl ?_
    repeat' (first | (refine DrawP.nil ?_; intro w H) | (refine DrawP.go ?_; first | refine DrawP.cons rfl (fun τ w H => OpsW.st rfl (OpsW.nil ⟨rfl, H⟩)) ?_ | refine DrawP.cons rfl (fun τ w H => OpsW.ld H (by (first | exact p0 | exact p1 | exact p2 | exact p3 | exact p4 | exact p5 | exact p6 | exact p7)) rfl rfl rfl rfl (by rfl) rfl (OpsW.nil ⟨rfl, H⟩)) ?_ | refine DrawP.cons rfl (fun τ w H => OpsW.ldA H (by (first | exact p0 | exact p1 | exact p2 | exact p3 | exact p4 | exact p5 | exact p6 | exact p7)) rfl rfl rfl (by rfl) rfl (OpsW.nil ⟨rfl, H⟩)) ?_ | (refine DrawP.goCall ?_; first | refine DrawP.cons rfl (fun τ w H => OpsW.call rfl rfl rfl (back (pS p0) (arenaN_live (H.perm (pS p0)) hs.n1 k.id k.ver)) fun _ w h => by obtain ⟨rfl, H⟩ := h; exact OpsW.nil ⟨rfl, H⟩) ?_)) | refine DrawP.split (fun h => ?_) (fun h => ?_))
    refine AnyW.done ?_
    repeat' (first | (refine zA ?_; first | refine zB ?_ | refine zC H ?_ | refine zD H ?_ | refine zE H fun _ _ H => ?_ | refine zF H fun _ _ H => ?_ | refine zG H fun _ H => ?_ | refine zH H fun _ H => ?_) | (refine zI ?_; first | refine zJ ?_ | refine zK ?_ | refine zL ?_ | refine zM ?_ | refine zN ?_ | refine zO ?_ | refine zP ?_ | refine zQ ?_ | refine zR ?_) | refine zS ?_)
    refine ret1 rfl ⟨by rw [St.live, if_pos e2], ?_⟩
    exact (((nodes_close H).perm (pS p0)).drop).perm (.swap _ _ _)
  · repeat' (first | (refine zA ?_; first | refine zB ?_ | refine zC H ?_ | refine zD H ?_ | refine zE H fun _ _ H => ?_ | refine zF H fun _ _ H => ?_ | refine zG H fun _ H => ?_ | refine zH H fun _ H => ?_) | (refine zI ?_; first | refine zJ ?_ | refine zK ?_ | refine zL ?_ | refine zM ?_ | refine zN ?_ | refine zO ?_ | refine zP ?_ | refine zQ ?_ | refine zR ?_) | refine zS ?_)
    refine CW.cond rfl (fun h3 => ?_) (fun h3 => ?_)
    · have e3 : k.kind = 3 := eq_of_beq h3
      obtain ⟨ba, b, H⟩ := pages_open (H.perm (pS (pS (pS p0))))
      repeat' (first | (refine zA ?_; first | refine zB ?_ | refine zC H ?_ | refine zD H ?_ | refine zE H fun _ _ H => ?_ | refine zF H fun _ _ H => ?_ | refine zG H fun _ H => ?_ | refine zH H fun _ H => ?_) | (refine zI ?_; first | refine zJ ?_ | refine zK ?_ | refine zL ?_ | refine zM ?_ | refine zN ?_ | refine zO ?_ | refine zP ?_ | refine zQ ?_ | refine zR ?_) | refine zS ?_)
      (first | refine CW.seqDraw mo H [0, 1, 3, 7, 15, 31, 63, 0, 128, 0, 512, 2047, 4095] fun w H => ?_ | refine CW.draw mo H [0, 1, 3, 7, 15, 31, 63, 0, 128, 0, 512, 2047, 4095] fun w H => ?_); refine AnyW.seg (m := 13) (by kernel_rfl) (by kernel_rfl) H rfl ?_
      repeat' (first | (refine DrawP.nil ?_; intro w H) | (refine DrawP.go ?_; first | refine DrawP.cons rfl (fun τ w H => OpsW.st rfl (OpsW.nil ⟨rfl, H⟩)) ?_ | refine DrawP.cons rfl (fun τ w H => OpsW.ld H (by (first | exact p0 | exact p1 | exact p2 | exact p3 | exact p4 | exact p5 | exact p6 | exact p7)) rfl rfl rfl rfl (by rfl) rfl (OpsW.nil ⟨rfl, H⟩)) ?_ | refine DrawP.cons rfl (fun τ w H => OpsW.ldA H (by (first | exact p0 | exact p1 | exact p2 | exact p3 | exact p4 | exact p5 | exact p6 | exact p7)) rfl rfl rfl (by rfl) rfl (OpsW.nil ⟨rfl, H⟩)) ?_ | (refine DrawP.goCall ?_; first | refine DrawP.cons rfl (fun τ w H => OpsW.call rfl rfl rfl (back (pS p0) (arenaN_live (H.perm (pS p0)) hs.m1 k.id k.ver)) fun _ w h => by obtain ⟨rfl, H⟩ := h; exact OpsW.nil ⟨rfl, H⟩) ?_)) | refine DrawP.split (fun h => ?_) (fun h => ?_))
      refine AnyW.done ?_
      repeat' (first | (refine zA ?_; first | refine zB ?_ | refine zC H ?_ | refine zD H ?_ | refine zE H fun _ _ H => ?_ | refine zF H fun _ _ H => ?_ | refine zG H fun _ H => ?_ | refine zH H fun _ H => ?_) | (refine zI ?_; first | refine zJ ?_ | refine zK ?_ | refine zL ?_ | refine zM ?_ | refine zN ?_ | refine zO ?_ | refine zP ?_ | refine zQ ?_ | refine zR ?_) | refine zS ?_)
      refine ret1 rfl ⟨by rw [St.live, if_neg (by omega), if_pos e3], ?_⟩
      exact (((pages_close H).perm (pS p0)).drop).perm (pS (pS p0)).symm
    · repeat' (first | (refine zA ?_; first | refine zB ?_ | refine zC H ?_ | refine zD H ?_ | refine zE H fun _ _ H => ?_ | refine zF H fun _ _ H => ?_ | refine zG H fun _ H => ?_ | refine zH H fun _ H => ?_) | (refine zI ?_; first | refine zJ ?_ | refine zK ?_ | refine zL ?_ | refine zM ?_ | refine zN ?_ | refine zO ?_ | refine zP ?_ | refine zQ ?_ | refine zR ?_) | refine zS ?_)
      exact ret1 rfl ⟨by rw [St.live, if_neg (ne_of_beq_false h2), if_neg (ne_of_beq_false h3)], H.drop⟩
def St.swap (s : St) (k : K) (i : Int) (x : K) : K × Nat := if s.may k 2 true ≠ 0 then (K.void, s.may k 2 true) else if s.hasN k.id i = false then (K.void, 3) else if x.ec ≠ 0 then (K.void, x.ec) else (s.key k.id i, 0)
def St.nodeKey (s : St) (id h : Int) : K := if onN s.N s.f id = false ∨ h < 0 ∨ 4 < h then K.void else ⟨2, id, (s.f id.toNat).ver, 0, h⟩
theorem store_nodeKey (H : Sat z w (blk bs 38 [.pointer (some ⟨bn, 0, none⟩), .pointer (some ⟨bp, 0, none⟩)] :: nodesP bn s :: pagesP bp s :: Rs)) (hs : s.ok) (id h : Int) :
    Spec cf 21 #[.pointer (some ⟨bs, 0, none⟩), .int .i64 id, .int .i64 h] w fun e w' => e = (s.nodeKey id h).v ∧ Sat z w' (blk bs 38 [.pointer (some ⟨bn, 0, none⟩), .pointer (some ⟨bp, 0, none⟩)] :: nodesP bn s :: pagesP bp s :: Rs) := by
  refine enter (l := [.pointer (some ⟨bs, 0, none⟩), .int .i64 id, .int .i64 h]) Tryd.func21 rfl rfl rfl rfl rfl ?_
  obtain ⟨ba, b, H⟩ := nodes_open (H.perm (pS p0))
  repeat' (first | (refine zA ?_; first | refine zB ?_ | refine zC H ?_ | refine zD H ?_ | refine zE H fun _ _ H => ?_ | refine zF H fun _ _ H => ?_ | refine zG H fun _ H => ?_ | refine zH H fun _ H => ?_) | (refine zI ?_; first | refine zJ ?_ | refine zK ?_ | refine zL ?_ | refine zM ?_ | refine zN ?_ | refine zO ?_ | refine zP ?_ | refine zQ ?_ | refine zR ?_) | refine zS ?_)
  refine OpsW.call rfl rfl rfl (back (pS (pS p0)) (arenaN_there (H.perm (pS (pS p0))) hs.n1 id)) ?_
  rintro _ w ⟨rfl, H⟩
  cases hon : onN s.N s.f id
  · repeat' (first | (refine zA ?_; first | refine zB ?_ | refine zC H ?_ | refine zD H ?_ | refine zE H fun _ _ H => ?_ | refine zF H fun _ _ H => ?_ | refine zG H fun _ H => ?_ | refine zH H fun _ H => ?_) | (refine zI ?_; first | refine zJ ?_ | refine zK ?_ | refine zL ?_ | refine zM ?_ | refine zN ?_ | refine zO ?_ | refine zP ?_ | refine zQ ?_ | refine zR ?_) | refine zS ?_)
    refine ret1c (resA H (by (first | exact p0 | exact p1 | exact p2 | exact p3 | exact p4 | exact p5 | exact p6 | exact p7)) rfl rfl (by rfl)) ?_
    exact ⟨by rw [St.nodeKey, if_pos (.inl hon)]; rfl, (nodes_close H.drop).perm (.swap _ _ _)⟩
  · repeat' (first | (refine zA ?_; first | refine zB ?_ | refine zC H ?_ | refine zD H ?_ | refine zE H fun _ _ H => ?_ | refine zF H fun _ _ H => ?_ | refine zG H fun _ H => ?_ | refine zH H fun _ H => ?_) | (refine zI ?_; first | refine zJ ?_ | refine zK ?_ | refine zL ?_ | refine zM ?_ | refine zN ?_ | refine zO ?_ | refine zP ?_ | refine zQ ?_ | refine zR ?_) | refine zS ?_)
    refine OpsW.gs rfl rfl rfl (fun h1 => ?_) (fun h1 => ?_)
    · repeat' (first | (refine zA ?_; first | refine zB ?_ | refine zC H ?_ | refine zD H ?_ | refine zE H fun _ _ H => ?_ | refine zF H fun _ _ H => ?_ | refine zG H fun _ H => ?_ | refine zH H fun _ H => ?_) | (refine zI ?_; first | refine zJ ?_ | refine zK ?_ | refine zL ?_ | refine zM ?_ | refine zN ?_ | refine zO ?_ | refine zP ?_ | refine zQ ?_ | refine zR ?_) | refine zS ?_)
      refine ret1c (resA H (by (first | exact p0 | exact p1 | exact p2 | exact p3 | exact p4 | exact p5 | exact p6 | exact p7)) rfl rfl (by rfl)) ?_
      exact ⟨by rw [St.nodeKey, if_pos (.inr (.inl (of_decide_eq_true h1)))]; rfl, (nodes_close H.drop).perm (.swap _ _ _)⟩
    · repeat' (first | (refine zA ?_; first | refine zB ?_ | refine zC H ?_ | refine zD H ?_ | refine zE H fun _ _ H => ?_ | refine zF H fun _ _ H => ?_ | refine zG H fun _ H => ?_ | refine zH H fun _ H => ?_) | (refine zI ?_; first | refine zJ ?_ | refine zK ?_ | refine zL ?_ | refine zM ?_ | refine zN ?_ | refine zO ?_ | refine zP ?_ | refine zQ ?_ | refine zR ?_) | refine zS ?_)
      refine CW.cond rfl (fun h2 => ?_) (fun h2 => ?_)
      · repeat' (first | (refine zA ?_; first | refine zB ?_ | refine zC H ?_ | refine zD H ?_ | refine zE H fun _ _ H => ?_ | refine zF H fun _ _ H => ?_ | refine zG H fun _ H => ?_ | refine zH H fun _ H => ?_) | (refine zI ?_; first | refine zJ ?_ | refine zK ?_ | refine zL ?_ | refine zM ?_ | refine zN ?_ | refine zO ?_ | refine zP ?_ | refine zQ ?_ | refine zR ?_) | refine zS ?_)
        refine ret1c (resA H (by (first | exact p0 | exact p1 | exact p2 | exact p3 | exact p4 | exact p5 | exact p6 | exact p7)) rfl rfl (by rfl)) ?_
        exact ⟨by rw [St.nodeKey, if_pos (.inr (.inr (of_decide_eq_true h2)))]; rfl, (nodes_close H.drop).perm (.swap _ _ _)⟩
      · obtain ⟨q, rfl, hq, hf⟩ := onN_at hon
        have h1' := of_decide_eq_false h1
        have h2' := of_decide_eq_false h2
        repeat' (first | (refine zA ?_; first | refine zB ?_ | refine zC H ?_ | refine zD H ?_ | refine zE H fun _ _ H => ?_ | refine zF H fun _ _ H => ?_ | refine zG H fun _ H => ?_ | refine zH H fun _ H => ?_) | (refine zI ?_; first | refine zJ ?_ | refine zK ?_ | refine zL ?_ | refine zM ?_ | refine zN ?_ | refine zO ?_ | refine zP ?_ | refine zQ ?_ | refine zR ?_) | refine zS ?_)
        refine OpsW.call rfl rfl rfl (back (pS (pS p0)) (arenaN_ver (H.perm (pS (pS p0))) q hq)) ?_
        rintro _ w ⟨rfl, H⟩
        repeat' (first | (refine zA ?_; first | refine zB ?_ | refine zC H ?_ | refine zD H ?_ | refine zE H fun _ _ H => ?_ | refine zF H fun _ _ H => ?_ | refine zG H fun _ H => ?_ | refine zH H fun _ H => ?_) | (refine zI ?_; first | refine zJ ?_ | refine zK ?_ | refine zL ?_ | refine zM ?_ | refine zN ?_ | refine zO ?_ | refine zP ?_ | refine zQ ?_ | refine zR ?_) | refine zS ?_)
        refine ret1c (resA H (by (first | exact p0 | exact p1 | exact p2 | exact p3 | exact p4 | exact p5 | exact p6 | exact p7)) rfl rfl (by rfl)) ?_
        refine ⟨?_, (nodes_close H.drop).perm (.swap _ _ _)⟩
        rw [St.nodeKey, if_neg (by rw [hon]; simp; omega), wrapu32, show h % 4294967296 = h by omega]; rfl
def St.pageKey (s : St) (id : Int) : K := if onN s.M s.g id = false then K.void else ⟨3, id, (s.g id.toNat).ver, 0, 0⟩
theorem store_pageKey (H : Sat z w (blk bs 38 [.pointer (some ⟨bn, 0, none⟩), .pointer (some ⟨bp, 0, none⟩)] :: nodesP bn s :: pagesP bp s :: Rs)) (hs : s.ok) (id : Int) :
    Spec cf 20 #[.pointer (some ⟨bs, 0, none⟩), .int .i64 id] w fun e w' => e = (s.pageKey id).v ∧ Sat z w' (blk bs 38 [.pointer (some ⟨bn, 0, none⟩), .pointer (some ⟨bp, 0, none⟩)] :: nodesP bn s :: pagesP bp s :: Rs) := by
  refine enter (l := [.pointer (some ⟨bs, 0, none⟩), .int .i64 id]) Tryd.func20 rfl rfl rfl rfl rfl ?_
  obtain ⟨ba, b, H⟩ := pages_open (H.perm (pS (pS p0)))
  repeat' (first | (refine zA ?_; first | refine zB ?_ | refine zC H ?_ | refine zD H ?_ | refine zE H fun _ _ H => ?_ | refine zF H fun _ _ H => ?_ | refine zG H fun _ H => ?_ | refine zH H fun _ H => ?_) | (refine zI ?_; first | refine zJ ?_ | refine zK ?_ | refine zL ?_ | refine zM ?_ | refine zN ?_ | refine zO ?_ | refine zP ?_ | refine zQ ?_ | refine zR ?_) | refine zS ?_)
  refine OpsW.call rfl rfl rfl (back (pS (pS p0)) (arenaN_there (H.perm (pS (pS p0))) hs.m1 id)) ?_
  rintro _ w ⟨rfl, H⟩
  cases hon : onN s.M s.g id
  · repeat' (first | (refine zA ?_; first | refine zB ?_ | refine zC H ?_ | refine zD H ?_ | refine zE H fun _ _ H => ?_ | refine zF H fun _ _ H => ?_ | refine zG H fun _ H => ?_ | refine zH H fun _ H => ?_) | (refine zI ?_; first | refine zJ ?_ | refine zK ?_ | refine zL ?_ | refine zM ?_ | refine zN ?_ | refine zO ?_ | refine zP ?_ | refine zQ ?_ | refine zR ?_) | refine zS ?_)
    refine ret1c (resA H (by (first | exact p0 | exact p1 | exact p2 | exact p3 | exact p4 | exact p5 | exact p6 | exact p7)) rfl rfl (by rfl)) ?_
    exact ⟨by rw [St.pageKey, if_pos hon]; rfl, (pages_close H.drop).perm (pS (pS p0)).symm⟩
  · obtain ⟨q, rfl, hq, hf⟩ := onN_at hon
    repeat' (first | (refine zA ?_; first | refine zB ?_ | refine zC H ?_ | refine zD H ?_ | refine zE H fun _ _ H => ?_ | refine zF H fun _ _ H => ?_ | refine zG H fun _ H => ?_ | refine zH H fun _ H => ?_) | (refine zI ?_; first | refine zJ ?_ | refine zK ?_ | refine zL ?_ | refine zM ?_ | refine zN ?_ | refine zO ?_ | refine zP ?_ | refine zQ ?_ | refine zR ?_) | refine zS ?_)
    refine OpsW.call rfl rfl rfl (back (pS (pS p0)) (arenaN_ver (H.perm (pS (pS p0))) q hq)) ?_
    rintro _ w ⟨rfl, H⟩
    repeat' (first | (refine zA ?_; first | refine zB ?_ | refine zC H ?_ | refine zD H ?_ | refine zE H fun _ _ H => ?_ | refine zF H fun _ _ H => ?_ | refine zG H fun _ H => ?_ | refine zH H fun _ H => ?_) | (refine zI ?_; first | refine zJ ?_ | refine zK ?_ | refine zL ?_ | refine zM ?_ | refine zN ?_ | refine zO ?_ | refine zP ?_ | refine zQ ?_ | refine zR ?_) | refine zS ?_)
    refine ret1c (resA H (by (first | exact p0 | exact p1 | exact p2 | exact p3 | exact p4 | exact p5 | exact p6 | exact p7)) rfl rfl (by rfl)) ?_
    refine ⟨?_, (pages_close H.drop).perm (pS (pS p0)).symm⟩
    rw [St.pageKey, if_neg (by rw [hon]; simp)]; rfl
end
end Go.Proofs.YtnfefbhjdncccaaDoor.X
