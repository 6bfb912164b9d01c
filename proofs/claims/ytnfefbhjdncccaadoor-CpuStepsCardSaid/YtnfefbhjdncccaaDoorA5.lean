/- Contracts of chapter 5 (page); conditions: none. -/
import Derived.Test.YtnfefbhjdncccaaDoorSE
import Derived.Test.YtnfefbhjdncccaaDoorGC
--AUTODROP
namespace Go.Proofs.YtnfefbhjdncccaaDoor.X
open Go Go.Proofs
set_option linter.unusedSimpArgs false
set_option linter.unusedVariables false
attribute [local irreducible] CW OpsW RetW Spec blk snap DrawP AnyW AnyM AnyN bits IntKind.wrap vec arena
/-- The words of a page, laid. -/
def wds (p : Nat → Int) : List Value := (mk 32 p).map (.int .u32)
theorem wds_len (p : Nat → Int) : (wds p).length = 32 := by rw [wds, List.length_map, mk_length]
theorem wds_scal (p : Nat → Int) : (wds p).all scal = true := by
  rw [List.all_eq_true]; intro x hx; obtain ⟨y, _, rfl⟩ := List.mem_map.1 hx; rfl
def pgs (N : Nat) (pg : Nat → Nat → Int) : List Value := (mk N pg).flatMap wds
section
variable {N : Nat} {pg : Nat → Nat → Int}
theorem pgs_len : (pgs N pg).length = N * 32 := by rw [pgs, fl_length wds 32 wds_len, mk_length]
theorem pgs_get {j i : Nat} (hj : j < N) (hi : i < 32) : (pgs N pg)[0 + j * 32 + i * 1]? = some (.int .u32 (pg j i)) := by
  have := fl_get wds 32 wds_len (mk N pg) [] j i (by rw [mk_length]; exact hj) hi
  rw [List.append_nil, mk_get] at this
  rw [Nat.zero_add, Nat.mul_one]
  refine this.trans ?_
  rw [wds, mk_map, mk_get? hi]
theorem pgs_set {j i : Nat} (hj : j < N) (hi : i < 32) (w : Int) : (pgs N pg).set (0 + j * 32 + i * 1) (.int .u32 w) = pgs N fun a => if a = j then (fun b => if b = i then w else pg j b) else pg a := by
  have := fl_set wds 32 wds_len (mk N pg) [] j i (by rw [mk_length]; exact hj) hi (.int .u32 w) (fun b => if b = i then w else pg j b) (by
    rw [mk_get, wds, wds, mk_map, mk_map, mk_set]
    exact mk_congr fun b _ => by by_cases e : b = i <;> simp [e])
  rw [List.append_nil, List.append_nil, mk_set] at this
  rw [Nat.zero_add, Nat.mul_one]; exact this
theorem pgs_splice {j : Nat} (hj : j < N) (p : Nat → Int) : splice (pgs N pg) (0 + j * 32) (wds p) = pgs N fun a => if a = j then p else pg a := by
  have := fl_splice wds 32 wds_len (mk N pg) j (by rw [mk_length]; exact hj) p
  rw [mk_set] at this
  rw [Nat.zero_add]; exact this
theorem pgs_take {j : Nat} (hj : j < N) : ((pgs N pg).drop (0 + j * 32)).take 32 = wds (pg j) := by
  have := fl_take wds 32 wds_len (mk N pg) [] j (by rw [mk_length]; exact hj)
  rw [List.append_nil, mk_get] at this
  rw [Nat.zero_add]; exact this
theorem pgs_repl (n : Nat) : repl n (List.replicate 32 (.int .u32 0)) = pgs n fun _ _ => 0 := by
  rw [pgs, ← mk_rep]
  induction n with
  | zero => rfl
  | succ n ih => rw [repl, ih, List.replicate_succ (n := n) (a := fun _ => (0 : Int)), List.flatMap_cons]; rfl
theorem wds_get {p : Nat → Int} {i : Nat} (h : i < 32) : (wds p)[i]? = some (.int .u32 (p i)) := by rw [wds, mk_map, mk_get? h]
theorem wds_lay (l : List Int) (h : l.length ≤ 32) : splice (wds fun _ => 0) 0 (l.map (.int .u32)) = wds fun i => l.getD i 0 := by
  have := splice_app (l.map (.int .u32)) [] (wds fun _ => 0) (by rw [wds_len]; simpa using h)
  rw [List.nil_append, List.nil_append, List.length_nil] at this
  rw [this]
  apply List.ext_getElem?
  intro i
  by_cases h1 : i < l.length
  · rw [List.getElem?_append_left (by simpa using h1), wds_get (by omega)]; simp [h1]
  · rw [List.getElem?_append_right (by simpa using h1), List.getElem?_drop]
    rw [show (l.map (Value.int .u32)).length + (i - (l.map (Value.int .u32)).length) = i by rw [List.length_map]; omega]
    by_cases h2 : i < 32
    · rw [wds_get h2, wds_get h2, List.getD_eq_getElem?_getD, List.getElem?_eq_none (by omega)]; rfl
    · rw [List.getElem?_eq_none (by rw [wds_len]; omega), List.getElem?_eq_none (by rw [wds_len]; omega)]
theorem wds0 : [.int .u32 0, .int .u32 0, .int .u32 0, .int .u32 0, .int .u32 0, .int .u32 0, .int .u32 0, .int .u32 0, .int .u32 0, .int .u32 0, .int .u32 0, .int .u32 0, .int .u32 0, .int .u32 0, .int .u32 0, .int .u32 0, .int .u32 0, .int .u32 0, .int .u32 0, .int .u32 0, .int .u32 0, .int .u32 0, .int .u32 0, .int .u32 0, .int .u32 0, .int .u32 0, .int .u32 0, .int .u32 0, .int .u32 0, .int .u32 0, .int .u32 0, .int .u32 0] = wds fun _ => 0 := rfl
end
theorem takeK_wds (p : Nat → Int) : takeK 32 (wds p) some = some (wds p) := by
  rw [takeK_run 32 _ _ (by rw [wds_len]; exact Nat.le_refl _), List.take_of_length_le (by rw [wds_len]; exact Nat.le_refl _)]
theorem takeK_pgs {N j : Nat} {pg : Nat → Nat → Int} (hj : j < N) : takeK 32 ((pgs N pg).drop (0 + j * 32)) some = some (wds (pg j)) := by
  rw [takeK_run 32 _ _ (by rw [List.length_drop, pgs_len]; omega), pgs_take hj]
theorem wds_over (p q : Nat → Int) : splice (wds p) 0 (wds q) = wds q := by
  have := splice_app (wds q) [] (wds p) (by rw [wds_len, wds_len]; exact Nat.le_refl _)
  rw [List.nil_append, List.nil_append, List.length_nil] at this
  rw [this, List.drop_of_length_le (by rw [wds_len, wds_len]; exact Nat.le_refl _), List.append_nil]
theorem slr_wds {As : List HP} {b : Nat} {E : TypeId} (p : Nat → Int) : SlR (blk b E (wds p) :: As) (.slice (some ⟨b, 0, none⟩) 32 32) 1 32 (wds p) := by
  have := SlR.of_blk (As := As) (b := b) (E := E) (r := []) (n := 32) (cap := 32) (sz := 1) (c := wds p) (wds_len _) (Nat.le_refl _)
  rwa [List.append_nil] at this
theorem u32_scal (l : List Int) : (l.map (Value.int .u32)).all scal = true := by
  rw [List.all_eq_true]; intro x hx; obtain ⟨y, _, rfl⟩ := List.mem_map.1 hx; rfl
attribute [local irreducible] wds pgs
section
variable {z w : World} {Rs : List HP} {bp ba b N : Nat} {f : Nat → Pl} {pg : Nat → Nat → Int}
set_option maxRecDepth 20000 in
theorem page_new (h1 : 1 ≤ N) (h2 : N ≤ 256) (H : Sat z w Rs) :
    Spec cf 85 #[.int .i64 N] w fun e w' => ∃ bp ba b : Nat, e = .tuple #[.pointer (some ⟨bp, 0, none⟩), .nilIface] ∧ Sat z w' (blk bp 133 [.pointer (some ⟨ba, 0, none⟩), .slice (some ⟨b, 0, none⟩) N N] :: arena ba (mk N fun _ => Pl.z) :: blk b 106 (pgs N fun _ _ => 0) :: Rs) := by
  refine enter (l := [.int .i64 N]) Tryd.func85 rfl rfl rfl rfl rfl ?_
  repeat' (first | (refine zA ?_; first | refine zB ?_ | refine zC H ?_ | refine zD H ?_ | refine zE H fun _ _ H => ?_ | refine zF H fun _ _ H => ?_ | refine zG H fun _ H => ?_ | refine zH H fun _ H => ?_) | (refine zI ?_; first | refine zJ ?_ | refine zK ?_ | refine zL ?_ | refine zM ?_ | refine zN ?_ | refine zO ?_ | refine zP ?_ | refine zQ ?_ | refine zR ?_) | refine zS ?_)
  refine OpsW.call rfl rfl rfl (arenaN_new h1 h2 H) ?_
  rintro _ w ⟨ba, rfl, H⟩
  repeat' (first | (refine zA ?_; first | refine zB ?_ | refine zC H ?_ | refine zD H ?_ | refine zE H fun _ _ H => ?_ | refine zF H fun _ _ H => ?_ | refine zG H fun _ H => ?_ | refine zH H fun _ H => ?_) | (refine zI ?_; first | refine zJ ?_ | refine zK ?_ | refine zL ?_ | refine zM ?_ | refine zN ?_ | refine zO ?_ | refine zP ?_ | refine zQ ?_ | refine zR ?_) | refine zS ?_)
  refine OpsW.mks H rfl rfl rfl rfl rfl (by omega) rfl rfl rfl rfl rfl fun b w H => ?_
  repeat' (first | (refine zA ?_; first | refine zB ?_ | refine zC H ?_ | refine zD H ?_ | refine zE H fun _ _ H => ?_ | refine zF H fun _ _ H => ?_ | refine zG H fun _ H => ?_ | refine zH H fun _ H => ?_) | (refine zI ?_; first | refine zJ ?_ | refine zK ?_ | refine zL ?_ | refine zM ?_ | refine zN ?_ | refine zO ?_ | refine zP ?_ | refine zQ ?_ | refine zR ?_) | refine zS ?_)
  refine ret2 rfl rfl ⟨_, ba, b, rfl, ?_⟩
  rw [← pgs_repl]
  exact H.perm (.cons _ (.swap _ _ _))
theorem page_is (H : Sat z w (blk bp 133 [.pointer (some ⟨ba, 0, none⟩), .slice (some ⟨b, 0, none⟩) N N] :: arena ba (mk N f) :: blk b 106 (pgs N pg) :: Rs)) (hN : N ≤ 256) (id at_ : Int) :
    Spec cf 59 #[.pointer (some ⟨bp, 0, none⟩), .int .i64 id, .int .i64 at_] w fun e w' => e = .bool (onN N f id && (decide (0 ≤ at_) && decide (at_ < 32))) ∧ Sat z w' (blk bp 133 [.pointer (some ⟨ba, 0, none⟩), .slice (some ⟨b, 0, none⟩) N N] :: arena ba (mk N f) :: blk b 106 (pgs N pg) :: Rs) := by
  refine enter (l := [.pointer (some ⟨bp, 0, none⟩), .int .i64 id, .int .i64 at_]) Tryd.func59 rfl rfl rfl rfl rfl ?_
  repeat' (first | (refine zA ?_; first | refine zB ?_ | refine zC H ?_ | refine zD H ?_ | refine zE H fun _ _ H => ?_ | refine zF H fun _ _ H => ?_ | refine zG H fun _ H => ?_ | refine zH H fun _ H => ?_) | (refine zI ?_; first | refine zJ ?_ | refine zK ?_ | refine zL ?_ | refine zM ?_ | refine zN ?_ | refine zO ?_ | refine zP ?_ | refine zQ ?_ | refine zR ?_) | refine zS ?_)
  refine OpsW.call rfl rfl rfl (arenaN_there (H.perm (pS p0)) hN id) ?_
  rintro _ w ⟨rfl, H⟩
  replace H := H.perm (pS p0)
  cases e : onN N f id
  · repeat' (first | (refine zA ?_; first | refine zB ?_ | refine zC H ?_ | refine zD H ?_ | refine zE H fun _ _ H => ?_ | refine zF H fun _ _ H => ?_ | refine zG H fun _ H => ?_ | refine zH H fun _ H => ?_) | (refine zI ?_; first | refine zJ ?_ | refine zK ?_ | refine zL ?_ | refine zM ?_ | refine zN ?_ | refine zO ?_ | refine zP ?_ | refine zQ ?_ | refine zR ?_) | refine zS ?_)
    exact ret1 rfl ⟨rfl, H⟩
  · repeat' (first | (refine zA ?_; first | refine zB ?_ | refine zC H ?_ | refine zD H ?_ | refine zE H fun _ _ H => ?_ | refine zF H fun _ _ H => ?_ | refine zG H fun _ H => ?_ | refine zH H fun _ H => ?_ | (refine OpsW.gs rfl rfl rfl (fun h => ?_) (fun h => ?_); fail_if_success (with_reducible have h2 : true = true := h); fail_if_success (with_reducible have h2 : false = true := h))) | (refine zI ?_; first | refine zJ ?_ | refine zK ?_ | refine zL ?_ | refine zM ?_ | refine zN ?_ | refine zO ?_ | refine zP ?_ | refine zQ ?_ | refine zR ?_ | (refine CW.cond rfl (fun h => ?_) (fun h => ?_))) | refine zS ?_)
    all_goals
      refine ret1 rfl ⟨?_, H⟩
      clear H
      first | (simp_all; done) | (simp_all; omega)
theorem page_make (H : Sat z w (blk bp 133 [.pointer (some ⟨ba, 0, none⟩), .slice (some ⟨b, 0, none⟩) N N] :: arena ba (mk N f) :: blk b 106 (pgs N pg) :: Rs)) (hN : N ≤ 256) {te : TypeId} {ve : Value} (hE : GlobV Rs 2 (.iface te ve)) (v : Value) (l : List Int) (hl : l.length ≤ 32) (hv : SlR Rs v 1 l.length (l.map (.int .u32))) (q : Nat) (hq : q < N) (hf : (f q).free = true) (hb : ∀ j, j < q → (f j).free = false) :
    Spec cf 18 #[.pointer (some ⟨bp, 0, none⟩), v] w fun e w' => e = .tuple #[.int .i64 q, .int .i64 (f q).ver, .nilIface] ∧ Sat z w' (blk bp 133 [.pointer (some ⟨ba, 0, none⟩), .slice (some ⟨b, 0, none⟩) N N] :: arena ba (mk N fun j => if j = q then (f q).take else f j) :: blk b 106 (pgs N fun a => if a = q then (fun i => l.getD i 0) else pg a) :: Rs) := by
  obtain ⟨a, cap, rfl⟩ := lenW hv
  refine enter (l := [.pointer (some ⟨bp, 0, none⟩), .slice a l.length cap]) Tryd.func18 rfl rfl rfl rfl rfl ?_
  repeat' (first | (refine zA ?_; first | refine zB ?_ | refine zC H ?_ | refine zD H ?_ | refine zE H fun _ _ H => ?_ | refine zF H fun _ _ H => ?_ | refine zG H fun _ H => ?_ | refine zH H fun _ H => ?_) | (refine zI ?_; first | refine zJ ?_ | refine zK ?_ | refine zL ?_ | refine zM ?_ | refine zN ?_ | refine zO ?_ | refine zP ?_ | refine zQ ?_ | refine zR ?_) | refine zS ?_)
  refine CW.cond rfl (fun h => absurd (of_decide_eq_true h) (by omega)) (fun h => ?_)
  repeat' (first | (refine zA ?_; first | refine zB ?_ | refine zC H ?_ | refine zD H ?_ | refine zE H fun _ _ H => ?_ | refine zF H fun _ _ H => ?_ | refine zG H fun _ H => ?_ | refine zH H fun _ H => ?_) | (refine zI ?_; first | refine zJ ?_ | refine zK ?_ | refine zL ?_ | refine zM ?_ | refine zN ?_ | refine zO ?_ | refine zP ?_ | refine zQ ?_ | refine zR ?_) | refine zS ?_)
  refine OpsW.call rfl rfl rfl (arenaN_take (H.perm (pS p0)) hN hE.tail.tail q hq hf hb) ?_
  rintro _ w ⟨rfl, H⟩
  replace H := H.perm (pS p0)
  repeat' (first | (refine zA ?_; first | refine zB ?_ | refine zC H ?_ | refine zD H ?_ | refine zE H fun _ _ H => ?_ | refine zF H fun _ _ H => ?_ | refine zG H fun _ H => ?_ | refine zH H fun _ H => ?_) | (refine zI ?_; first | refine zJ ?_ | refine zK ?_ | refine zL ?_ | refine zM ?_ | refine zN ?_ | refine zO ?_ | refine zP ?_ | refine zQ ?_ | refine zR ?_) | refine zS ?_)
  rw [wds0] at *
  refine OpsW.slcA rfl rfl rfl rfl rfl rfl ?_
  repeat' (first | (refine zA ?_; first | refine zB ?_ | refine zC H ?_ | refine zD H ?_ | refine zE H fun _ _ H => ?_ | refine zF H fun _ _ H => ?_ | refine zG H fun _ H => ?_ | refine zH H fun _ H => ?_) | (refine zI ?_; first | refine zJ ?_ | refine zK ?_ | refine zL ?_ | refine zM ?_ | refine zN ?_ | refine zO ?_ | refine zP ?_ | refine zQ ?_ | refine zR ?_) | refine zS ?_)
  refine OpsW.cpy (sz := 1) H p0 hv.tail.tail.tail.tail (u32_scal l) hl (by rw [wds_len]; omega) rfl rfl rfl rfl rfl rfl rfl fun w H => ?_
  rw [wds_lay l hl] at H
  repeat' (first | (refine zA ?_; first | refine zB ?_ | refine zC H ?_ | refine zD H ?_ | refine zE H fun _ _ H => ?_ | refine zF H fun _ _ H => ?_ | refine zG H fun _ H => ?_ | refine zH H fun _ H => ?_) | (refine zI ?_; first | refine zJ ?_ | refine zK ?_ | refine zL ?_ | refine zM ?_ | refine zN ?_ | refine zO ?_ | refine zP ?_ | refine zQ ?_ | refine zR ?_) | refine zS ?_)
  first | refine CW.seqDraw mo H [0, 1, 3, 7, 0, 0, 63, 127] fun w H => ?_ | refine CW.draw mo H [0, 1, 3, 7, 0, 0, 63, 127] fun w H => ?_
  refine AnyW.seg (m := 6) (by kernel_rfl) (by kernel_rfl) H rfl ?_
  repeat' (first | (refine DrawP.nil ?_; intro w H) | (refine DrawP.go ?_; first | refine DrawP.cons rfl (fun τ w H => OpsW.st rfl (OpsW.nil ⟨rfl, H⟩)) ?_ | refine DrawP.cons rfl (fun τ w H => OpsW.ld H (by (first | exact p0 | exact p1 | exact p2 | exact p3 | exact p4 | exact p5 | exact p6 | exact p7)) rfl rfl rfl rfl (by rfl) rfl (OpsW.nil ⟨rfl, H⟩)) ?_ | refine DrawP.cons rfl (fun τ w H => OpsW.ldA H (by (first | exact p0 | exact p1 | exact p2 | exact p3 | exact p4 | exact p5 | exact p6 | exact p7)) rfl rfl rfl (by rfl) rfl (OpsW.nil ⟨rfl, H⟩)) ?_ | refine DrawP.cons rfl (fun τ w H => OpsW.ldA H p0 rfl rfl rfl (takeK_wds _) rfl (OpsW.nil ⟨rfl, H⟩)) ?_) | refine DrawP.split (fun h => ?_) (fun h => ?_))
  refine AnyW.seg (m := 7) (by kernel_rfl) (by kernel_rfl) H rfl ?_
  repeat' (first | (refine DrawP.nil ?_; intro w H) | (refine DrawP.go ?_; first | refine DrawP.cons rfl (fun τ w H => OpsW.st rfl (OpsW.nil ⟨rfl, H⟩)) ?_ | refine DrawP.cons rfl (fun τ w H => OpsW.ld H (by (first | exact p0 | exact p1 | exact p2 | exact p3 | exact p4 | exact p5 | exact p6 | exact p7)) rfl rfl rfl rfl (by rfl) rfl (OpsW.nil ⟨rfl, H⟩)) ?_ | refine DrawP.cons rfl (fun τ w H => OpsW.ldA H (by (first | exact p0 | exact p1 | exact p2 | exact p3 | exact p4 | exact p5 | exact p6 | exact p7)) rfl rfl rfl (by rfl) rfl (OpsW.nil ⟨rfl, H⟩)) ?_ | refine DrawP.cons rfl (fun τ w H => OpsW.ix (n := q) rfl rfl rfl rfl rfl rfl rfl hq rfl (OpsW.nil ⟨rfl, H⟩)) ?_) | refine DrawP.split (fun h => ?_) (fun h => ?_))
  refine AnyW.one (by kernel_rfl) (by kernel_rfl) rfl ?_
  refine OpsW.strA (vs := wds fun i => l.getD i 0) H (pS (pS (pS p0))) rfl rfl (forceL_eq _ _) (wds_scal _) rfl (wds_len _) (by rw [wds_len, pgs_len]; show 0 + q * 32 + 32 ≤ N * 32; omega) fun w H => ?_
  rw [pgs_splice hq] at H
  refine OpsW.nil ?_
  refine AnyW.done ?_
  repeat' (first | (refine zA ?_; first | refine zB ?_ | refine zC H ?_ | refine zD H ?_ | refine zE H fun _ _ H => ?_ | refine zF H fun _ _ H => ?_ | refine zG H fun _ H => ?_ | refine zH H fun _ H => ?_) | (refine zI ?_; first | refine zJ ?_ | refine zK ?_ | refine zL ?_ | refine zM ?_ | refine zN ?_ | refine zO ?_ | refine zP ?_ | refine zQ ?_ | refine zR ?_) | refine zS ?_)
  exact ret3 rfl rfl rfl ⟨rfl, (H.perm (pS p0)).drop.perm ((List.Perm.swap _ _ _).trans (.cons _ (.swap _ _ _)))⟩
theorem page_read (H : Sat z w (blk bp 133 [.pointer (some ⟨ba, 0, none⟩), .slice (some ⟨b, 0, none⟩) N N] :: arena ba (mk N f) :: blk b 106 (pgs N pg) :: Rs)) (hN : N ≤ 256) (k i : Nat) (hk : k < N) (hon : (f k).there = true) (hi : i < 32) :
    Spec cf 24 #[.pointer (some ⟨bp, 0, none⟩), .int .i64 k, .int .i64 i] w fun e w' => e = .tuple #[.int .u32 (pg k i), .bool true] ∧ Sat z w' (blk bp 133 [.pointer (some ⟨ba, 0, none⟩), .slice (some ⟨b, 0, none⟩) N N] :: arena ba (mk N f) :: blk b 106 (pgs N pg) :: Rs) := by
  refine enter (l := [.pointer (some ⟨bp, 0, none⟩), .int .i64 k, .int .i64 i]) Tryd.func24 rfl rfl rfl rfl rfl ?_
  have hg := pgs_get (pg := pg) hk hi
  have his := page_is H hN k i
  rw [onN_nat hk, hon, decide_eq_true (show (0 : Int) ≤ i by omega), decide_eq_true (show (i : Int) < 32 by omega)] at his
  repeat' (first | (refine zA ?_; first | refine zB ?_ | refine zC H ?_ | refine zD H ?_ | refine zE H fun _ _ H => ?_ | refine zF H fun _ _ H => ?_ | refine zG H fun _ H => ?_ | refine zH H fun _ H => ?_) | (refine zI ?_; first | refine zJ ?_ | refine zK ?_ | refine zL ?_ | refine zM ?_ | refine zN ?_ | refine zO ?_ | refine zP ?_ | refine zQ ?_ | refine zR ?_) | refine zS ?_)
  refine OpsW.call rfl rfl rfl his ?_
  rintro _ w ⟨rfl, H⟩
  repeat' (first | (refine zA ?_; first | refine zB ?_ | refine zC H ?_ | refine zD H ?_ | refine zE H fun _ _ H => ?_ | refine zF H fun _ _ H => ?_ | refine zG H fun _ H => ?_ | refine zH H fun _ H => ?_) | (refine zI ?_; first | refine zJ ?_ | refine zK ?_ | refine zL ?_ | refine zM ?_ | refine zN ?_ | refine zO ?_ | refine zP ?_ | refine zQ ?_ | refine zR ?_) | refine zS ?_)
  refine OpsW.ix (n := k) rfl rfl rfl rfl rfl rfl rfl hk rfl ?_
  repeat' (first | (refine zA ?_; first | refine zB ?_ | refine zC H ?_ | refine zD H ?_ | refine zE H fun _ _ H => ?_ | refine zF H fun _ _ H => ?_ | refine zG H fun _ H => ?_ | refine zH H fun _ H => ?_) | (refine zI ?_; first | refine zJ ?_ | refine zK ?_ | refine zL ?_ | refine zM ?_ | refine zN ?_ | refine zO ?_ | refine zP ?_ | refine zQ ?_ | refine zR ?_) | refine zS ?_)
  refine OpsW.ixA (n := i) rfl rfl rfl rfl rfl rfl rfl hi rfl ?_
  repeat' (first | (refine zA ?_; first | refine zB ?_ | refine zC H ?_ | refine zD H ?_ | refine zE H fun _ _ H => ?_ | refine zF H fun _ _ H => ?_ | refine zG H fun _ H => ?_ | refine zH H fun _ H => ?_) | (refine zI ?_; first | refine zJ ?_ | refine zK ?_ | refine zL ?_ | refine zM ?_ | refine zN ?_ | refine zO ?_ | refine zP ?_ | refine zQ ?_ | refine zR ?_) | refine zS ?_)
  refine OpsW.ld H (pS (pS p0)) rfl rfl rfl rfl hg rfl ?_
  repeat' (first | (refine zA ?_; first | refine zB ?_ | refine zC H ?_ | refine zD H ?_ | refine zE H fun _ _ H => ?_ | refine zF H fun _ _ H => ?_ | refine zG H fun _ H => ?_ | refine zH H fun _ H => ?_) | (refine zI ?_; first | refine zJ ?_ | refine zK ?_ | refine zL ?_ | refine zM ?_ | refine zN ?_ | refine zO ?_ | refine zP ?_ | refine zQ ?_ | refine zR ?_) | refine zS ?_)
  exact ret2 rfl rfl ⟨rfl, H⟩
theorem page_read_no (H : Sat z w (blk bp 133 [.pointer (some ⟨ba, 0, none⟩), .slice (some ⟨b, 0, none⟩) N N] :: arena ba (mk N f) :: blk b 106 (pgs N pg) :: Rs)) (hN : N ≤ 256) (id i : Int) (hno : (onN N f id && (decide (0 ≤ i) && decide (i < 32))) = false) :
    Spec cf 24 #[.pointer (some ⟨bp, 0, none⟩), .int .i64 id, .int .i64 i] w fun e w' => e = .tuple #[.int .u32 0, .bool false] ∧ Sat z w' (blk bp 133 [.pointer (some ⟨ba, 0, none⟩), .slice (some ⟨b, 0, none⟩) N N] :: arena ba (mk N f) :: blk b 106 (pgs N pg) :: Rs) := by
  refine enter (l := [.pointer (some ⟨bp, 0, none⟩), .int .i64 id, .int .i64 i]) Tryd.func24 rfl rfl rfl rfl rfl ?_
  have his := page_is H hN id i
  rw [hno] at his
  repeat' (first | (refine zA ?_; first | refine zB ?_ | refine zC H ?_ | refine zD H ?_ | refine zE H fun _ _ H => ?_ | refine zF H fun _ _ H => ?_ | refine zG H fun _ H => ?_ | refine zH H fun _ H => ?_) | (refine zI ?_; first | refine zJ ?_ | refine zK ?_ | refine zL ?_ | refine zM ?_ | refine zN ?_ | refine zO ?_ | refine zP ?_ | refine zQ ?_ | refine zR ?_) | refine zS ?_)
  refine OpsW.call rfl rfl rfl his ?_
  rintro _ w ⟨rfl, H⟩
  repeat' (first | (refine zA ?_; first | refine zB ?_ | refine zC H ?_ | refine zD H ?_ | refine zE H fun _ _ H => ?_ | refine zF H fun _ _ H => ?_ | refine zG H fun _ H => ?_ | refine zH H fun _ H => ?_) | (refine zI ?_; first | refine zJ ?_ | refine zK ?_ | refine zL ?_ | refine zM ?_ | refine zN ?_ | refine zO ?_ | refine zP ?_ | refine zQ ?_ | refine zR ?_) | refine zS ?_)
  exact ret2 rfl rfl ⟨rfl, H⟩
theorem page_write (H : Sat z w (blk bp 133 [.pointer (some ⟨ba, 0, none⟩), .slice (some ⟨b, 0, none⟩) N N] :: arena ba (mk N f) :: blk b 106 (pgs N pg) :: Rs)) (hN : N ≤ 256) (k i : Nat) (hk : k < N) (hon : (f k).there = true) (hi : i < 32) (x : Int) :
    Spec cf 58 #[.pointer (some ⟨bp, 0, none⟩), .int .i64 k, .int .i64 i, .int .u32 x] w fun e w' => e = .bool true ∧ Sat z w' (blk bp 133 [.pointer (some ⟨ba, 0, none⟩), .slice (some ⟨b, 0, none⟩) N N] :: arena ba (mk N f) :: blk b 106 (pgs N fun a => if a = k then (fun c => if c = i then x else pg k c) else pg a) :: Rs) := by
  refine enter (l := [.pointer (some ⟨bp, 0, none⟩), .int .i64 k, .int .i64 i, .int .u32 x]) Tryd.func58 rfl rfl rfl rfl rfl ?_
  have his := page_is H hN k i
  rw [onN_nat hk, hon, decide_eq_true (show (0 : Int) ≤ i by omega), decide_eq_true (show (i : Int) < 32 by omega)] at his
  repeat' (first | (refine zA ?_; first | refine zB ?_ | refine zC H ?_ | refine zD H ?_ | refine zE H fun _ _ H => ?_ | refine zF H fun _ _ H => ?_ | refine zG H fun _ H => ?_ | refine zH H fun _ H => ?_) | (refine zI ?_; first | refine zJ ?_ | refine zK ?_ | refine zL ?_ | refine zM ?_ | refine zN ?_ | refine zO ?_ | refine zP ?_ | refine zQ ?_ | refine zR ?_) | refine zS ?_)
  refine OpsW.call rfl rfl rfl his ?_
  rintro _ w ⟨rfl, H⟩
  repeat' (first | (refine zA ?_; first | refine zB ?_ | refine zC H ?_ | refine zD H ?_ | refine zE H fun _ _ H => ?_ | refine zF H fun _ _ H => ?_ | refine zG H fun _ H => ?_ | refine zH H fun _ H => ?_) | (refine zI ?_; first | refine zJ ?_ | refine zK ?_ | refine zL ?_ | refine zM ?_ | refine zN ?_ | refine zO ?_ | refine zP ?_ | refine zQ ?_ | refine zR ?_) | refine zS ?_)
  refine OpsW.ix (n := k) rfl rfl rfl rfl rfl rfl rfl hk rfl ?_
  repeat' (first | (refine zA ?_; first | refine zB ?_ | refine zC H ?_ | refine zD H ?_ | refine zE H fun _ _ H => ?_ | refine zF H fun _ _ H => ?_ | refine zG H fun _ H => ?_ | refine zH H fun _ H => ?_) | (refine zI ?_; first | refine zJ ?_ | refine zK ?_ | refine zL ?_ | refine zM ?_ | refine zN ?_ | refine zO ?_ | refine zP ?_ | refine zQ ?_ | refine zR ?_) | refine zS ?_)
  refine OpsW.ixA (n := i) rfl rfl rfl rfl rfl rfl rfl hi rfl ?_
  repeat' (first | (refine zA ?_; first | refine zB ?_ | refine zC H ?_ | refine zD H ?_ | refine zE H fun _ _ H => ?_ | refine zF H fun _ _ H => ?_ | refine zG H fun _ H => ?_ | refine zH H fun _ H => ?_) | (refine zI ?_; first | refine zJ ?_ | refine zK ?_ | refine zL ?_ | refine zM ?_ | refine zN ?_ | refine zO ?_ | refine zP ?_ | refine zQ ?_ | refine zR ?_) | refine zS ?_)
  refine OpsW.str H (pS (pS p0)) rfl rfl rfl rfl rfl rfl (by rw [pgs_len]; show 0 + k * 32 + i * 1 < N * 32; omega) fun w H => ?_
  rw [pgs_set hk hi] at H
  repeat' (first | (refine zA ?_; first | refine zB ?_ | refine zC H ?_ | refine zD H ?_ | refine zE H fun _ _ H => ?_ | refine zF H fun _ _ H => ?_ | refine zG H fun _ H => ?_ | refine zH H fun _ H => ?_) | (refine zI ?_; first | refine zJ ?_ | refine zK ?_ | refine zL ?_ | refine zM ?_ | refine zN ?_ | refine zO ?_ | refine zP ?_ | refine zQ ?_ | refine zR ?_) | refine zS ?_)
  exact ret1 rfl ⟨rfl, H.perm (pS (pS p0)).symm⟩
theorem page_write_no (H : Sat z w (blk bp 133 [.pointer (some ⟨ba, 0, none⟩), .slice (some ⟨b, 0, none⟩) N N] :: arena ba (mk N f) :: blk b 106 (pgs N pg) :: Rs)) (hN : N ≤ 256) (id i x : Int) (hno : (onN N f id && (decide (0 ≤ i) && decide (i < 32))) = false) :
    Spec cf 58 #[.pointer (some ⟨bp, 0, none⟩), .int .i64 id, .int .i64 i, .int .u32 x] w fun e w' => e = .bool false ∧ Sat z w' (blk bp 133 [.pointer (some ⟨ba, 0, none⟩), .slice (some ⟨b, 0, none⟩) N N] :: arena ba (mk N f) :: blk b 106 (pgs N pg) :: Rs) := by
  refine enter (l := [.pointer (some ⟨bp, 0, none⟩), .int .i64 id, .int .i64 i, .int .u32 x]) Tryd.func58 rfl rfl rfl rfl rfl ?_
  have his := page_is H hN id i
  rw [hno] at his
  repeat' (first | (refine zA ?_; first | refine zB ?_ | refine zC H ?_ | refine zD H ?_ | refine zE H fun _ _ H => ?_ | refine zF H fun _ _ H => ?_ | refine zG H fun _ H => ?_ | refine zH H fun _ H => ?_) | (refine zI ?_; first | refine zJ ?_ | refine zK ?_ | refine zL ?_ | refine zM ?_ | refine zN ?_ | refine zO ?_ | refine zP ?_ | refine zQ ?_ | refine zR ?_) | refine zS ?_)
  refine OpsW.call rfl rfl rfl his ?_
  rintro _ w ⟨rfl, H⟩
  repeat' (first | (refine zA ?_; first | refine zB ?_ | refine zC H ?_ | refine zD H ?_ | refine zE H fun _ _ H => ?_ | refine zF H fun _ _ H => ?_ | refine zG H fun _ H => ?_ | refine zH H fun _ H => ?_) | (refine zI ?_; first | refine zJ ?_ | refine zK ?_ | refine zL ?_ | refine zM ?_ | refine zN ?_ | refine zO ?_ | refine zP ?_ | refine zQ ?_ | refine zR ?_) | refine zS ?_)
  exact ret1 rfl ⟨rfl, H⟩
set_option maxRecDepth 20000 in
theorem cloneW_ {As : List HP} {v : Value} {l : List Int} (H : Sat z w As) (hv : SlR As v 1 l.length (l.map (.int .u32))) (h0 : 0 < l.length) (hl : l.length ≤ 1000) :
    Spec cf 80 #[v] w fun e w' => ∃ a cap, e = .slice a l.length cap ∧ Sat z w' (vec 23 a l.length cap 1 (l.map (.int .u32)) :: As) := by
  obtain ⟨a, cap, rfl⟩ := lenW hv
  obtain ⟨b, off, m, E, fr, rfl, -, -⟩ := hv.at_ h0
  refine enter (l := [.slice (some ⟨b, off, none⟩) l.length cap]) Tryd.func80 rfl rfl rfl rfl rfl ?_
  repeat' (first | (refine zA ?_; first | refine zB ?_ | refine zC H ?_ | refine zD H ?_ | refine zE H fun _ _ H => ?_ | refine zF H fun _ _ H => ?_ | refine zG H fun _ H => ?_ | refine zH H fun _ H => ?_) | (refine zI ?_; first | refine zJ ?_ | refine zK ?_ | refine zL ?_ | refine zM ?_ | refine zN ?_ | refine zO ?_ | refine zP ?_ | refine zQ ?_ | refine zR ?_) | refine zS ?_)
  refine OpsW.bsl H rfl rfl rfl rfl rfl rfl rfl rfl fun bb w H => ?_
  repeat' (first | (refine zA ?_; first | refine zB ?_ | refine zC H ?_ | refine zD H ?_ | refine zE H fun _ _ H => ?_ | refine zF H fun _ _ H => ?_ | refine zG H fun _ H => ?_ | refine zH H fun _ H => ?_) | (refine zI ?_; first | refine zJ ?_ | refine zK ?_ | refine zL ?_ | refine zM ?_ | refine zN ?_ | refine zO ?_ | refine zP ?_ | refine zQ ?_ | refine zR ?_) | refine zS ?_)
  have H2 := H.imp fun h e => vec_blk (E := 23) (n := 0) (cap := 0) (sz := 1) (c := []) (rest := []) e rfl rfl (Nat.le_refl _)
  refine OpsW.vapp (n2 := l.length) H2 p0 hv (u32_scal l) (by omega) (by omega) rfl rfl rfl rfl rfl rfl rfl rfl rfl fun a2 cap2 w H => ?_
  rw [Nat.zero_add, List.nil_append] at H
  repeat' (first | (refine zA ?_; first | refine zB ?_ | refine zC H ?_ | refine zD H ?_ | refine zE H fun _ _ H => ?_ | refine zF H fun _ _ H => ?_ | refine zG H fun _ H => ?_ | refine zH H fun _ H => ?_) | (refine zI ?_; first | refine zJ ?_ | refine zK ?_ | refine zL ?_ | refine zM ?_ | refine zN ?_ | refine zO ?_ | refine zP ?_ | refine zQ ?_ | refine zR ?_) | refine zS ?_)
  exact ret1 rfl ⟨a2, cap2, by rw [Nat.zero_add], H⟩
theorem cloneWds_ {As : List HP} {v : Value} {p : Nat → Int} (H : Sat z w As) (hv : SlR As v 1 32 (wds p)) :
    Spec cf 80 #[v] w fun e w' => ∃ a cap, e = .slice a 32 cap ∧ Sat z w' (vec 23 a 32 cap 1 (wds p) :: As) := by
  have e : wds p = (mk 32 p).map (.int .u32) := by unfold wds; rfl
  rw [e] at hv ⊢
  have hl : (mk 32 p).length = 32 := mk_length
  have := cloneW_ (l := mk 32 p) H (by rw [hl]; exact hv) (by rw [hl]; decide) (by rw [hl]; decide)
  rw [hl] at this
  exact this
theorem page_words (H : Sat z w (blk bp 133 [.pointer (some ⟨ba, 0, none⟩), .slice (some ⟨b, 0, none⟩) N N] :: arena ba (mk N f) :: blk b 106 (pgs N pg) :: Rs)) (hN : N ≤ 256) (k : Nat) (hk : k < N) (hon : (f k).there = true) :
    Spec cf 45 #[.pointer (some ⟨bp, 0, none⟩), .int .i64 k] w fun e w' => ∃ a cap, e = .slice a 32 cap ∧ Sat z w' (vec 23 a 32 cap 1 (wds (pg k)) :: blk bp 133 [.pointer (some ⟨ba, 0, none⟩), .slice (some ⟨b, 0, none⟩) N N] :: arena ba (mk N f) :: blk b 106 (pgs N pg) :: Rs) := by
  refine enter (l := [.pointer (some ⟨bp, 0, none⟩), .int .i64 k]) Tryd.func45 rfl rfl rfl rfl rfl ?_
  repeat' (first | (refine zA ?_; first | refine zB ?_ | refine zC H ?_ | refine zD H ?_ | refine zE H fun _ _ H => ?_ | refine zF H fun _ _ H => ?_ | refine zG H fun _ H => ?_ | refine zH H fun _ H => ?_) | (refine zI ?_; first | refine zJ ?_ | refine zK ?_ | refine zL ?_ | refine zM ?_ | refine zN ?_ | refine zO ?_ | refine zP ?_ | refine zQ ?_ | refine zR ?_) | refine zS ?_)
  refine OpsW.call rfl rfl rfl (arenaN_there_at (H.perm (pS p0)) hN k hk true hon) ?_
  rintro _ w ⟨rfl, H⟩
  replace H := H.perm (pS p0)
  repeat' (first | (refine zA ?_; first | refine zB ?_ | refine zC H ?_ | refine zD H ?_ | refine zE H fun _ _ H => ?_ | refine zF H fun _ _ H => ?_ | refine zG H fun _ H => ?_ | refine zH H fun _ H => ?_) | (refine zI ?_; first | refine zJ ?_ | refine zK ?_ | refine zL ?_ | refine zM ?_ | refine zN ?_ | refine zO ?_ | refine zP ?_ | refine zQ ?_ | refine zR ?_) | refine zS ?_)
  refine OpsW.ix (n := k) rfl rfl rfl rfl rfl rfl rfl hk rfl ?_
  refine OpsW.ldA H (pS (pS p0)) rfl rfl rfl (takeK_pgs hk) rfl ?_
  repeat' (first | (refine zA ?_; first | refine zB ?_ | refine zC H ?_ | refine zD H ?_ | refine zE H fun _ _ H => ?_ | refine zF H fun _ _ H => ?_ | refine zG H fun _ H => ?_ | refine zH H fun _ H => ?_) | (refine zI ?_; first | refine zJ ?_ | refine zK ?_ | refine zL ?_ | refine zM ?_ | refine zN ?_ | refine zO ?_ | refine zP ?_ | refine zQ ?_ | refine zR ?_) | refine zS ?_)
  rw [wds0] at *
  refine OpsW.strA (vs := wds (pg k)) H p0 rfl rfl (forceL_eq _ _) (wds_scal _) rfl (wds_len _) (by rw [wds_len, wds_len]; decide) fun w H => ?_
  rw [wds_over] at H
  repeat' (first | (refine zA ?_; first | refine zB ?_ | refine zC H ?_ | refine zD H ?_ | refine zE H fun _ _ H => ?_ | refine zF H fun _ _ H => ?_ | refine zG H fun _ H => ?_ | refine zH H fun _ H => ?_) | (refine zI ?_; first | refine zJ ?_ | refine zK ?_ | refine zL ?_ | refine zM ?_ | refine zN ?_ | refine zO ?_ | refine zP ?_ | refine zQ ?_ | refine zR ?_) | refine zS ?_)
  refine OpsW.slcA rfl rfl rfl rfl rfl rfl ?_
  repeat' (first | (refine zA ?_; first | refine zB ?_ | refine zC H ?_ | refine zD H ?_ | refine zE H fun _ _ H => ?_ | refine zF H fun _ _ H => ?_ | refine zG H fun _ H => ?_ | refine zH H fun _ H => ?_) | (refine zI ?_; first | refine zJ ?_ | refine zK ?_ | refine zL ?_ | refine zM ?_ | refine zN ?_ | refine zO ?_ | refine zP ?_ | refine zQ ?_ | refine zR ?_) | refine zS ?_)
  refine OpsW.call rfl rfl rfl (cloneWds_ H (slr_wds _)) ?_
  rintro _ w ⟨a2, cap2, rfl, H⟩
  repeat' (first | (refine zA ?_; first | refine zB ?_ | refine zC H ?_ | refine zD H ?_ | refine zE H fun _ _ H => ?_ | refine zF H fun _ _ H => ?_ | refine zG H fun _ H => ?_ | refine zH H fun _ H => ?_) | (refine zI ?_; first | refine zJ ?_ | refine zK ?_ | refine zL ?_ | refine zM ?_ | refine zN ?_ | refine zO ?_ | refine zP ?_ | refine zQ ?_ | refine zR ?_) | refine zS ?_)
  exact ret1 rfl ⟨a2, cap2, rfl, (H.perm (pS p0)).drop⟩
end
end Go.Proofs.YtnfefbhjdncccaaDoor.X
