/- The law CpuKeys of chapter 17, walked; conditions: none. -/
import Derived.Test.YtnfefbhjdncccaaDoorP17d
import Derived.Test.YtnfefbhjdncccaaDoorL17j
namespace Go.Proofs.YtnfefbhjdncccaaDoor.X
open Go Go.Proofs
set_option linter.unusedSimpArgs false
set_option linter.unusedVariables false
/-- A step at a place of the first page. -/
theorem stepAt {l : List Int} {D D' : Dm} {i : Ins} {q : Nat} (hM : D.mem = k17) (hp : D.pc = q) (hq : q < 32) (hl : l.getD q 0 = i.w) (hi : i.ec = 0) (hd : doP (t17 (g17 l)) (D.setPC ((q + 1 : Nat) : Int)) i = (Ev.of 0, D', t17 (g17 l))) :
    stepP (t17 (g17 l)) D = (Ev.of 0, D', t17 (g17 l)) := by
  have hl2 : (t17 (g17 l)).load D.mem D.pc = (i.w, 0) := by
    rw [hM, hp]
    have := t17_load (g17 l) 0 q (by omega)
    rw [show g17 l (q / 32) (q % 32) = i.w by
      rw [show q / 32 = 0 by omega, show q % 32 = q by omega]; exact hl] at this
    exact this
  rw [stepP_ok hl2 hi, hp, show ((q : Int) + 1) % 4294967296 = ((q + 1 : Nat) : Int) by omega, hd]
  rfl
theorem OpsW.bslF {C : Cfg} {N : Nat} {gd : List (Option Nat)} {r : List Oper} {σ : Env} {w z : World} {Q : Env → World → Prop} {As : List HP} {d t : Nat} {ty : TypeId} {pos : String} {af : Array Edge} {g : Option (Nat × Bool)} {len : Nat} {parts : Array (Nat × Operand)} {l : List Value} {sz : Nat} {ps : List (Nat × Value)} (H : Sat z w As) (hg : wan gd σ g = some true) (hk : Nat.beq (C.T.kind.getD t 0) 4 = true) (he : Nat.blt 0 (C.T.kind.getD (C.T.elem.getD t 0) 0) = true)
    (hsz : C.T.size[C.T.elem.getD t 0]? = some sz) (hsz1 : (C.T.zero.getD (C.T.elem.getD t 0) []).length = sz) (hm : Nat.ble (len * sz) 1000 = true) (hp : mapP σ parts.toList = ps)
    (hf : fillK (fun i => some (i * sz, sz)) (repl len (C.T.zero.getD (C.T.elem.getD t 0) [])) ps = some (.agg l.toArray)) (hd : Nat.blt d N = true)
    (k : ∀ b w', Sat z w' (blk b (C.T.elem.getD t 0) l :: As) → OpsW C N gd r (upd σ d (.slice (some ⟨b, 0, none⟩) len len)) w' Q) : OpsW C N gd (⟨some d, .buildSlice t len parts, ty, pos, af, g⟩ :: r) σ w Q :=
  OpsW.bsl H hg hk he hsz hsz1 hm (hp ▸ hf) hd k
theorem ins7 (i0 i1 i2 i3 i4 i5 i6 : Ins) : fillK (fun i => some (i * 5, 5)) (repl 7 (cf.T.zero.getD (cf.T.elem.getD 159 0) [])) [(0, i0.v), (1, i1.v), (2, i2.v), (3, i3.v), (4, i4.v), (5, i5.v), (6, i6.v)] = some (.agg ([i0, i1, i2, i3, i4, i5, i6].flatMap Ins.l).toArray) := by kernel_rfl
attribute [local irreducible] CW OpsW RetW Spec blk snap DrawP AnyW AnyM AnyN bits IntKind.wrap vec arena kds nds wds pgs eA nodesP pagesP cacheP wns mcP memP s17 t17 syP Dm.c Ev.l Ins.w K.same
end Go.Proofs.YtnfefbhjdncccaaDoor.X
