/- Contracts of chapter 10 (cache): begun; conditions: none. -/
import Derived.Test.YtnfefbhjdncccaaDoorA9n
--AUTODROP
namespace Go.Proofs.YtnfefbhjdncccaaDoor.X
open Go Go.Proofs
set_option linter.unusedSimpArgs false
set_option linter.unusedVariables false
/-- A way that is remembered: its root, its page of addresses, the nodes on it, the place. -/
structure Wy where
  root : K
  page : Int
  ns : List Int
  to : Plc
/-- Its cells: the nodes lie in an array of their own. -/
def Wy.c (x : Wy × Option Addr × Nat) : List Value := x.1.root.l ++ [.int .u32 x.1.page, .slice x.2.1 x.1.ns.length x.2.2] ++ x.1.to.l
theorem Wy.c_len (x : Wy × Option Addr × Nat) : (Wy.c x).length = 10 := rfl
attribute [local irreducible] CW OpsW RetW Spec blk snap DrawP AnyW AnyM AnyN bits IntKind.wrap vec arena kds nds wds pgs eA nodesP pagesP
section
variable {z w : World} {Rs As : List HP} {ads : List Addr}
set_option maxRecDepth 20000 in
theorem csame_ (H : Sat z w As) (a b : K) : Spec cf 120 #[a.v, b.v] w fun e w' => e = .bool (a.same b) ∧ Sat z w' As := by
  refine enter (l := [a.v, b.v]) Tryd.func120 rfl rfl rfl rfl rfl ?_
  repeat' (first | (refine OpsW.go ?_; first | refine OpsW.st rfl ?_ | refine OpsW.ld H (by (first | exact p0 | exact p1 | exact p2 | exact p3 | exact p4 | exact p5 | exact p6 | exact p7)) rfl rfl rfl rfl (by rfl) rfl ?_ | refine OpsW.ldA H (by (first | exact p0 | exact p1 | exact p2 | exact p3 | exact p4 | exact p5 | exact p6 | exact p7)) rfl rfl rfl (by rfl) rfl ?_ | refine OpsW.box H rfl rfl rfl fun _ _ H => ?_ | refine OpsW.alloc H rfl rfl rfl rfl fun _ _ H => ?_ | refine OpsW.str H (by (first | exact p0 | exact p1 | exact p2 | exact p3 | exact p4 | exact p5 | exact p6 | exact p7)) rfl rfl rfl rfl rfl rfl (by first | decide | (simp; done) | (simp; omega)) fun _ H => ?_ | refine OpsW.strA H (by (first | exact p0 | exact p1 | exact p2 | exact p3 | exact p4 | exact p5 | exact p6 | exact p7)) rfl rfl rfl rfl rfl rfl (by first | decide | (simp; done) | (simp; omega)) fun _ H => ?_ | (refine OpsW.gs rfl rfl rfl (fun h => ?_) (fun h => ?_); fail_if_success (with_reducible have h2 : true = true := h); fail_if_success (with_reducible have h2 : false = true := h))) | (refine CW.go ?_; first | refine CW.condT rfl ?_ | refine CW.condF rfl ?_ | refine CW.seqR ?_ | refine CW.seqD ?_ | refine CW.block ?_ | refine CW.region ?_ | refine CW.ret ?_ | refine CW.exit ?_ | refine CW.skip ?_ | (refine CW.cond rfl (fun h => ?_) (fun h => ?_))) | refine OpsW.nil ?_)
  all_goals
    refine ret1 rfl ⟨?_, by (first | exact H | exact H.drop | exact H.d2 | exact H.d3 | exact H.d4 | exact H.d5 | exact H.d6 | exact H.d7)⟩
    clear H
    simp_all [K.same]
set_option maxRecDepth 20000 in
theorem cache_new (H : Sat z w As) (n : Nat) (h1 : 1 ≤ n) (h2 : n ≤ 64) : Spec cf 50 #[.int .i64 n] w fun e w' => ∃ bc : Nat, e = .tuple #[.pointer (some ⟨bc, 0, none⟩), .nilIface] ∧ Sat z w' (blk bc 176 [.int .i64 n, .slice none 0 0, .int .i64 0] :: As) := by
  refine enter (l := [.int .i64 n]) Tryd.func50 rfl rfl rfl rfl rfl ?_
  repeat' (first | (refine OpsW.go ?_; first | refine OpsW.st rfl ?_ | refine OpsW.ld H (by (first | exact p0 | exact p1 | exact p2 | exact p3 | exact p4 | exact p5 | exact p6 | exact p7)) rfl rfl rfl rfl (by rfl) rfl ?_ | refine OpsW.ldA H (by (first | exact p0 | exact p1 | exact p2 | exact p3 | exact p4 | exact p5 | exact p6 | exact p7)) rfl rfl rfl (by rfl) rfl ?_ | refine OpsW.box H rfl rfl rfl fun _ _ H => ?_ | refine OpsW.alloc H rfl rfl rfl rfl fun _ _ H => ?_ | refine OpsW.str H (by (first | exact p0 | exact p1 | exact p2 | exact p3 | exact p4 | exact p5 | exact p6 | exact p7)) rfl rfl rfl rfl rfl rfl (by first | decide | (simp; done) | (simp; omega)) fun _ H => ?_ | refine OpsW.strA H (by (first | exact p0 | exact p1 | exact p2 | exact p3 | exact p4 | exact p5 | exact p6 | exact p7)) rfl rfl rfl rfl rfl rfl (by first | decide | (simp; done) | (simp; omega)) fun _ H => ?_) | (refine CW.go ?_; first | refine CW.condT rfl ?_ | refine CW.condF rfl ?_ | refine CW.seqR ?_ | refine CW.seqD ?_ | refine CW.block ?_ | refine CW.region ?_ | refine CW.ret ?_ | refine CW.exit ?_ | refine CW.skip ?_) | refine OpsW.nil ?_)
  refine OpsW.gs rfl rfl rfl (fun h => absurd (of_decide_eq_true h) (by omega)) (fun h0 => ?_)
  repeat' (first | (refine OpsW.go ?_; first | refine OpsW.st rfl ?_ | refine OpsW.ld H (by (first | exact p0 | exact p1 | exact p2 | exact p3 | exact p4 | exact p5 | exact p6 | exact p7)) rfl rfl rfl rfl (by rfl) rfl ?_ | refine OpsW.ldA H (by (first | exact p0 | exact p1 | exact p2 | exact p3 | exact p4 | exact p5 | exact p6 | exact p7)) rfl rfl rfl (by rfl) rfl ?_ | refine OpsW.box H rfl rfl rfl fun _ _ H => ?_ | refine OpsW.alloc H rfl rfl rfl rfl fun _ _ H => ?_ | refine OpsW.str H (by (first | exact p0 | exact p1 | exact p2 | exact p3 | exact p4 | exact p5 | exact p6 | exact p7)) rfl rfl rfl rfl rfl rfl (by first | decide | (simp; done) | (simp; omega)) fun _ H => ?_ | refine OpsW.strA H (by (first | exact p0 | exact p1 | exact p2 | exact p3 | exact p4 | exact p5 | exact p6 | exact p7)) rfl rfl rfl rfl rfl rfl (by first | decide | (simp; done) | (simp; omega)) fun _ H => ?_) | (refine CW.go ?_; first | refine CW.condT rfl ?_ | refine CW.condF rfl ?_ | refine CW.seqR ?_ | refine CW.seqD ?_ | refine CW.block ?_ | refine CW.region ?_ | refine CW.ret ?_ | refine CW.exit ?_ | refine CW.skip ?_) | refine OpsW.nil ?_)
  refine CW.cond rfl (fun h => absurd (of_decide_eq_true h) (by omega)) (fun h => ?_)
  repeat' (first | (refine OpsW.go ?_; first | refine OpsW.st rfl ?_ | refine OpsW.ld H (by (first | exact p0 | exact p1 | exact p2 | exact p3 | exact p4 | exact p5 | exact p6 | exact p7)) rfl rfl rfl rfl (by rfl) rfl ?_ | refine OpsW.ldA H (by (first | exact p0 | exact p1 | exact p2 | exact p3 | exact p4 | exact p5 | exact p6 | exact p7)) rfl rfl rfl (by rfl) rfl ?_ | refine OpsW.box H rfl rfl rfl fun _ _ H => ?_ | refine OpsW.alloc H rfl rfl rfl rfl fun _ _ H => ?_ | refine OpsW.str H (by (first | exact p0 | exact p1 | exact p2 | exact p3 | exact p4 | exact p5 | exact p6 | exact p7)) rfl rfl rfl rfl rfl rfl (by first | decide | (simp; done) | (simp; omega)) fun _ H => ?_ | refine OpsW.strA H (by (first | exact p0 | exact p1 | exact p2 | exact p3 | exact p4 | exact p5 | exact p6 | exact p7)) rfl rfl rfl rfl rfl rfl (by first | decide | (simp; done) | (simp; omega)) fun _ H => ?_) | (refine CW.go ?_; first | refine CW.condT rfl ?_ | refine CW.condF rfl ?_ | refine CW.seqR ?_ | refine CW.seqD ?_ | refine CW.block ?_ | refine CW.region ?_ | refine CW.ret ?_ | refine CW.exit ?_ | refine CW.skip ?_) | refine OpsW.nil ?_)
  exact ret2 rfl rfl ⟨_, rfl, H⟩
end
end Go.Proofs.YtnfefbhjdncccaaDoor.X
