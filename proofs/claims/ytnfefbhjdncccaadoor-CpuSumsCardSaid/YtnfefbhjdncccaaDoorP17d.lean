/- Chapter 17: a domain that comes in, as plain data; conditions: none. -/
import Derived.Test.YtnfefbhjdncccaaDoorP17
import Derived.Test.YtnfefbhjdncccaaDoorR3
namespace Go.Proofs.YtnfefbhjdncccaaDoor.X
open Go Go.Proofs
set_option linter.unusedSimpArgs false
set_option linter.unusedVariables false
def shKey17 : Sh := .pair (.int .i64) (.pair (.int .i64) (.pair (.int .i64) (.pair (.int .i64) (.pair (.int .u32) .nil))))
def shFrame17 : Sh := .pair (.arr 8 (.int .u32)) (.pair (.int .u32) (.pair (.int .i64) (.pair (.int .i64) .nil)))
def shDom17 : Sh := .pair shFrame17 (.pair (.arr 16 shKey17) (.pair shKey17 (.pair shKey17 (.pair shKey17 (.pair (.int .i64) .nil)))))
def toK17 (x : shKey17.T) : K := ⟨x.1, x.2.1, x.2.2.1, x.2.2.2.1, x.2.2.2.2.1⟩
theorem toK17_c (x : shKey17.T) : shKey17.cells x = (toK17 x).l := rfl
theorem list_mk {α : Type} (d : α) : ∀ (l : List α), l = X.mk l.length fun i => l.getD i d := fun l => by
  apply List.ext_getElem?
  intro i
  by_cases h : i < l.length
  · rw [mk_get? h, List.getD_eq_getElem?_getD, List.getElem?_eq_getElem h]; rfl
  · rw [List.getElem?_eq_none (by omega), List.getElem?_eq_none (by rw [mk_length]; omega)]
def toD17 (y : shDom17.T) : Dm := ⟨fun n => List.getD y.1.1 n 0, y.1.2.1, y.1.2.2.1, y.1.2.2.2.1, fun n => (List.map toK17 y.2.1).getD n K.void, toK17 y.2.2.1, toK17 y.2.2.2.1, toK17 y.2.2.2.2.1, y.2.2.2.2.2.1⟩
theorem flat_int (l : List Int) : l.flatMap (Sh.cells (.int .u32)) = l.map (.int .u32) := by
  induction l with
  | nil => rfl
  | cons a l ih => rw [List.flatMap_cons, List.map_cons, ih]; rfl
theorem flat_key (l : List shKey17.T) : l.flatMap (Sh.cells shKey17) = (l.map toK17).flatMap K.l := by
  induction l with
  | nil => rfl
  | cons a l ih => rw [List.flatMap_cons, List.map_cons, List.flatMap_cons, ih, toK17_c]
theorem toD17_c {W : World} (y : shDom17.T) (h : shDom17.good W y) : shDom17.cells y = (toD17 y).c := by
  obtain ⟨⟨r, pc, st, ft, u1⟩, ks, m, me, ke, wt, u2⟩ := y
  have h8 : List.length r = 8 := h.1.1.1
  have h16 : List.length ks = 16 := h.2.1.1
  have e1 : List.map (Value.int .u32) r = (X.mk 8 fun n => List.getD r n 0).map (.int .u32) := by
    rw [← h8, ← list_mk 0 r]
  have e2 : (List.map toK17 ks).flatMap K.l = (X.mk 16 fun n => (List.map toK17 ks).getD n K.void).flatMap K.l := by
    have := list_mk K.void (List.map toK17 ks)
    rw [List.length_map, h16] at this
    rw [← this]
  show (List.flatMap (Sh.cells (.int .u32)) r ++ ([.int .u32 pc] ++ ([.int .i64 st] ++ ([.int .i64 ft] ++ [])))) ++ (List.flatMap (Sh.cells shKey17) ks ++ (shKey17.cells m ++ (shKey17.cells me ++ (shKey17.cells ke ++ ([.int .i64 wt] ++ []))))) = _
  rw [flat_int, flat_key, e1, e2, toK17_c, toK17_c, toK17_c, List.append_assoc]
  rfl
end Go.Proofs.YtnfefbhjdncccaaDoor.X
