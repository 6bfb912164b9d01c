/- The law MemWords of chapter 11, walked; conditions: none. -/
import Derived.Test.YtnfefbhjdncccaaDoorL11r
namespace Go.Proofs.YtnfefbhjdncccaaDoor.X
open Go Go.Proofs
set_option linter.unusedSimpArgs false
set_option linter.unusedVariables false
/-- The key of a page. -/
def wQ (i : Nat) : K := ⟨3, i, 0, 0, 0⟩
section
variable {z w : World} {Rs As : List HP} {bm bs bn bp : Nat} {size : Int} {s s' : St} {hb : Nat}
theorem mc_to {S1 S2 S3 : HP} (k : ∀ ws, good s ws → good s' ws) (H : Sat z w (S1 :: S2 :: S3 :: mcP bm bs size s hb :: Rs)) : Sat z w (S1 :: S2 :: S3 :: mcP bm bs size s' hb :: Rs) :=
  ((H.perm p3).imp (mc_imp k (Nat.le_refl _))).perm p3.symm
/-- The store of a memory is looked up; nothing is changed. -/
theorem OpsW.ldmc {C : Cfg} {N : Nat} {gd : List (Option Nat)} {r : List Oper} {σ : Env} {Q : Env → World → Prop} {x : Operand} {t d : Nat} {ty : TypeId} {pos : String} {af : Array Edge} {g : Option (Nat × Bool)} (H : Sat z w As) (hp : As.Perm (mcP bm bs size s hb :: Rs)) (hg : wan gd σ g = some true) (ha : ev σ x = .pointer (some ⟨bm, 0, none⟩)) (hk : C.T.isAgg t = false) (h0 : Nat.blt 0 (C.T.kind.getD t 0) = true) (hd : Nat.blt d N = true)
    (k : OpsW C N gd r (upd σ d (.pointer (some ⟨bs, 0, none⟩))) w Q) : OpsW C N gd (⟨some d, .load t x, ty, pos, af, g⟩ :: r) σ w Q := by
  obtain ⟨bc, ws, hits, _, H2⟩ := mc_open (H.perm hp)
  exact OpsW.ldh (H2.has Has.head) hg ha hk h0 rfl hd k
end
attribute [local irreducible] CW OpsW RetW Spec blk snap DrawP AnyW AnyM AnyN bits IntKind.wrap vec arena kds nds wds pgs eA nodesP pagesP cacheP wns St.walk St.put St.find mcP St.load St.save St.saveS
end Go.Proofs.YtnfefbhjdncccaaDoor.X
