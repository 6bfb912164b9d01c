/- Contracts of chapter 9 (path): the nodes of a walk; conditions: none. -/
import Derived.Test.YtnfefbhjdncccaaDoorA9
namespace Go.Proofs.YtnfefbhjdncccaaDoor.X
open Go Go.Proofs
set_option linter.unusedSimpArgs false
set_option linter.unusedVariables false
attribute [local irreducible] CW OpsW RetW Spec blk snap DrawP AnyW AnyM AnyN bits IntKind.wrap vec arena kds nds wds pgs eA nodesP pagesP
/-- What the closure gathers. -/
def gat (bo : Nat) (ns : List Int) : HP := fun h => ∃ a : Option Addr, ∃ cap : Nat, stars [blk bo 61 [.slice a ns.length cap], vec 3 a ns.length cap 1 (ns.map (.int .i64))] h
section
variable {z w : World} {Rs As : List HP} {bn bp bs : Nat} {s : St}
theorem gat_open {bo : Nat} {ns : List Int} (H : Sat z w (gat bo ns :: Rs)) : ∃ a : Option Addr, ∃ cap : Nat, Sat z w (blk bo 61 [.slice a ns.length cap] :: vec 3 a ns.length cap 1 (ns.map (.int .i64)) :: Rs) := by
  obtain ⟨a, H⟩ := H.ex
  obtain ⟨cap, H⟩ := H.ex
  exact ⟨a, cap, H.splits⟩
theorem gat_close {bo : Nat} {ns : List Int} {a : Option Addr} {cap : Nat} (H : Sat z w (blk bo 61 [.slice a ns.length cap] :: vec 3 a ns.length cap 1 (ns.map (.int .i64)) :: Rs)) : Sat z w (gat bo ns :: Rs) :=
  (Sat.joins (m := [blk bo 61 [.slice a ns.length cap], vec 3 a ns.length cap 1 (ns.map (.int .i64))]) H).imp fun h e => ⟨a, cap, e⟩
set_option maxRecDepth 20000 in
theorem nodesC_ {bo : Nat} (w : World) (l : List Int) (n : Int) (As : List HP) (hl : l.length ≤ 6) (H : Sat z w (gat bo l :: As)) : Spec cf 140 #[.int .i64 n, .pointer (some ⟨bo, 0, none⟩)] w fun e w' => Sat z w' (gat bo (l ++ [n]) :: As) := by
  obtain ⟨a, cap, H⟩ := gat_open H
  refine enter (l := [.int .i64 n, .pointer (some ⟨bo, 0, none⟩)]) Tryd.func140 rfl rfl rfl rfl rfl ?_
  repeat' (first | (refine zA ?_; first | refine zB ?_ | refine zC H ?_ | refine zD H ?_ | refine zE H fun _ _ H => ?_ | refine zF H fun _ _ H => ?_ | refine zG H fun _ H => ?_ | refine zH H fun _ H => ?_) | (refine zI ?_; first | refine zJ ?_ | refine zK ?_ | refine zL ?_ | refine zM ?_ | refine zN ?_ | refine zO ?_ | refine zP ?_ | refine zQ ?_ | refine zR ?_) | refine zS ?_)
  refine OpsW.bsl H rfl rfl rfl rfl rfl rfl rfl rfl fun bb w H => ?_
  repeat' (first | (refine zA ?_; first | refine zB ?_ | refine zC H ?_ | refine zD H ?_ | refine zE H fun _ _ H => ?_ | refine zF H fun _ _ H => ?_ | refine zG H fun _ H => ?_ | refine zH H fun _ H => ?_) | (refine zI ?_; first | refine zJ ?_ | refine zK ?_ | refine zL ?_ | refine zM ?_ | refine zN ?_ | refine zO ?_ | refine zP ?_ | refine zQ ?_ | refine zR ?_) | refine zS ?_)
  refine OpsW.vapp (n2 := 1) (c2 := [.int .i64 n]) H (pS (pS p0)) (SlR.of_blk (r := []) rfl (Nat.le_refl 1)) rfl (by decide) (by omega) rfl rfl rfl rfl rfl rfl rfl rfl rfl fun a2 cap2 w H => ?_
  replace H := (H.perm (pS p0)).drop
  rw [show l.map (Value.int .i64) ++ [.int .i64 n] = (l ++ [n]).map (.int .i64) by rw [List.map_append]; rfl] at H
  repeat' (first | (refine zA ?_; first | refine zB ?_ | refine zC H ?_ | refine zD H ?_ | refine zE H fun _ _ H => ?_ | refine zF H fun _ _ H => ?_ | refine zG H fun _ H => ?_ | refine zH H fun _ H => ?_) | (refine zI ?_; first | refine zJ ?_ | refine zK ?_ | refine zL ?_ | refine zM ?_ | refine zN ?_ | refine zO ?_ | refine zP ?_ | refine zQ ?_ | refine zR ?_) | refine zS ?_)
  exact ret0 (gat_close (a := a2) (cap := cap2) (by rw [List.length_append, List.length_singleton]; exact H))
set_option maxRecDepth 20000 in
theorem nodes_ (H : Sat z w (blk bs 38 [.pointer (some ⟨bn, 0, none⟩), .pointer (some ⟨bp, 0, none⟩)] :: nodesP bn s :: pagesP bp s :: Rs)) (hs : s.ok) (k : K) (addr : Int) (hd : 0 ≤ k.data) (hk : ∀ a c, 0 ≤ (s.nd a c).data) (ha : 0 ≤ addr) (ha2 : addr < 4294967296) :
    Spec cf 122 #[.pointer (some ⟨bs, 0, none⟩), k.v, .int .u32 addr] w fun e w' => ∃ a cap, e = .slice a (s.walk k addr).2.2.length cap ∧ Sat z w' (vec 3 a (s.walk k addr).2.2.length cap 1 ((s.walk k addr).2.2.map (.int .i64)) :: blk bs 38 [.pointer (some ⟨bn, 0, none⟩), .pointer (some ⟨bp, 0, none⟩)] :: nodesP bn s :: pagesP bp s :: Rs) := by
  refine enter (l := [.pointer (some ⟨bs, 0, none⟩), k.v, .int .u32 addr]) Tryd.func122 rfl rfl rfl rfl rfl ?_
  repeat' (first | (refine zA ?_; first | refine zB ?_ | refine zC H ?_ | refine zD H ?_ | refine zE H fun _ _ H => ?_ | refine zF H fun _ _ H => ?_ | refine zG H fun _ H => ?_ | refine zH H fun _ H => ?_) | (refine zI ?_; first | refine zJ ?_ | refine zK ?_ | refine zL ?_ | refine zM ?_ | refine zN ?_ | refine zO ?_ | refine zP ?_ | refine zQ ?_ | refine zR ?_) | refine zS ?_)
  rename_i bo _
  have H2 : Sat z _ (blk bs 38 [.pointer (some ⟨bn, 0, none⟩), .pointer (some ⟨bp, 0, none⟩)] :: nodesP bn s :: pagesP bp s :: gat bo [] :: _ :: Rs) := (gat_close (a := none) (cap := 0) (ns := []) ((Sat.vnil (E := 3) (sz := 1) H).perm (.swap _ _ _))).perm r2
  clear H
  refine OpsW.call rfl rfl rfl ((walkG_ (gat bo) (cap := #[.pointer (some ⟨bo, 0, none⟩)]) (fun w l n As hl H => nodesC_ w l n As hl H) H2 hs k addr hd hk ha ha2)) ?_
  rintro _ w ⟨rfl, H⟩
  obtain ⟨a, cap, H⟩ := gat_open (H.perm (pS (pS (pS p0))))
  repeat' (first | (refine zA ?_; first | refine zB ?_ | refine zC H ?_ | refine zD H ?_ | refine zE H fun _ _ H => ?_ | refine zF H fun _ _ H => ?_ | refine zG H fun _ H => ?_ | refine zH H fun _ H => ?_) | (refine zI ?_; first | refine zJ ?_ | refine zK ?_ | refine zL ?_ | refine zM ?_ | refine zN ?_ | refine zO ?_ | refine zP ?_ | refine zQ ?_ | refine zR ?_) | refine zS ?_)
  exact ret1 rfl ⟨a, cap, rfl, ((H.drop).perm (pS (pS (pS (pS p0))))).drop⟩
end
end Go.Proofs.YtnfefbhjdncccaaDoor.X

--AUTODROP
namespace Go.Proofs.YtnfefbhjdncccaaDoor.X
open Go Go.Proofs
set_option linter.unusedSimpArgs false
set_option linter.unusedVariables false
/-- A way that is remembered: its root, its page of addresses, the nodes on it, the place. -/
structure Wy where
  root : K
  page : Int
  ns : List Int
  to : Plc
/-- Its cells: the nodes lie in an array of their own. -/
def Wy.c (x : Wy × Option Addr × Nat) : List Value := x.1.root.l ++ [.int .u32 x.1.page, .slice x.2.1 x.1.ns.length x.2.2] ++ x.1.to.l
theorem Wy.c_len (x : Wy × Option Addr × Nat) : (Wy.c x).length = 10 := rfl
attribute [local irreducible] CW OpsW RetW Spec blk snap DrawP AnyW AnyM AnyN bits IntKind.wrap vec arena kds nds wds pgs eA nodesP pagesP
section
variable {z w : World} {Rs As : List HP} {ads : List Addr}
set_option maxRecDepth 20000 in
theorem csame_ (H : Sat z w As) (a b : K) : Spec cf 120 #[a.v, b.v] w fun e w' => e = .bool (a.same b) ∧ Sat z w' As := by
  refine enter (l := [a.v, b.v]) Tryd.func120 rfl rfl rfl rfl rfl ?_
  repeat' (first | (refine zA ?_; first | refine zB ?_ | refine zC H ?_ | refine zD H ?_ | refine zE H fun _ _ H => ?_ | refine zF H fun _ _ H => ?_ | refine zG H fun _ H => ?_ | refine zH H fun _ H => ?_ | (refine OpsW.gs rfl rfl rfl (fun h => ?_) (fun h => ?_); fail_if_success (with_reducible have h2 : true = true := h); fail_if_success (with_reducible have h2 : false = true := h))) | (refine zI ?_; first | refine zJ ?_ | refine zK ?_ | refine zL ?_ | refine zM ?_ | refine zN ?_ | refine zO ?_ | refine zP ?_ | refine zQ ?_ | refine zR ?_ | (refine CW.cond rfl (fun h => ?_) (fun h => ?_))) | refine zS ?_)
  all_goals
    refine ret1 rfl ⟨?_, by (first | exact H | exact H.drop | exact H.d2 | exact H.d3 | exact H.d4 | exact H.d5 | exact H.d6 | exact H.d7)⟩
    clear H
    simp_all [K.same]
set_option maxRecDepth 20000 in
theorem cache_new (H : Sat z w As) (n : Nat) (h1 : 1 ≤ n) (h2 : n ≤ 64) : Spec cf 50 #[.int .i64 n] w fun e w' => ∃ bc : Nat, e = .tuple #[.pointer (some ⟨bc, 0, none⟩), .nilIface] ∧ Sat z w' (blk bc 176 [.int .i64 n, .slice none 0 0, .int .i64 0] :: As) := by
  refine enter (l := [.int .i64 n]) Tryd.func50 rfl rfl rfl rfl rfl ?_
  repeat' (first | (refine zA ?_; first | refine zB ?_ | refine zC H ?_ | refine zD H ?_ | refine zE H fun _ _ H => ?_ | refine zF H fun _ _ H => ?_ | refine zG H fun _ H => ?_ | refine zH H fun _ H => ?_) | (refine zI ?_; first | refine zJ ?_ | refine zK ?_ | refine zL ?_ | refine zM ?_ | refine zN ?_ | refine zO ?_ | refine zP ?_ | refine zQ ?_ | refine zR ?_) | refine zS ?_)
  refine OpsW.gs rfl rfl rfl (fun h => absurd (of_decide_eq_true h) (by omega)) (fun h0 => ?_)
  repeat' (first | (refine zA ?_; first | refine zB ?_ | refine zC H ?_ | refine zD H ?_ | refine zE H fun _ _ H => ?_ | refine zF H fun _ _ H => ?_ | refine zG H fun _ H => ?_ | refine zH H fun _ H => ?_) | (refine zI ?_; first | refine zJ ?_ | refine zK ?_ | refine zL ?_ | refine zM ?_ | refine zN ?_ | refine zO ?_ | refine zP ?_ | refine zQ ?_ | refine zR ?_) | refine zS ?_)
  refine CW.cond rfl (fun h => absurd (of_decide_eq_true h) (by omega)) (fun h => ?_)
  repeat' (first | (refine zA ?_; first | refine zB ?_ | refine zC H ?_ | refine zD H ?_ | refine zE H fun _ _ H => ?_ | refine zF H fun _ _ H => ?_ | refine zG H fun _ H => ?_ | refine zH H fun _ H => ?_) | (refine zI ?_; first | refine zJ ?_ | refine zK ?_ | refine zL ?_ | refine zM ?_ | refine zN ?_ | refine zO ?_ | refine zP ?_ | refine zQ ?_ | refine zR ?_) | refine zS ?_)
  exact ret2 rfl rfl ⟨_, rfl, H⟩
end
end Go.Proofs.YtnfefbhjdncccaaDoor.X
