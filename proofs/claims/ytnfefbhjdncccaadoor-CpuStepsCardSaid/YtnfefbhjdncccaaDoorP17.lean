/- Chapter 17: what is loaded and stored in the memory of its laws; what a step comes to; conditions: none. -/
import Derived.Test.YtnfefbhjdncccaaDoorA17m
import Derived.Test.YtnfefbhjdncccaaDoorR3
namespace Go.Proofs.YtnfefbhjdncccaaDoor.X
open Go Go.Proofs
set_option linter.unusedSimpArgs false
set_option linter.unusedVariables false
/-- The same with other words on its pages. -/
def t17 (g : Nat → Nat → Int) : St := { s17 [] with pg := g }
theorem s17_t (l : List Int) : s17 l = t17 fun a => if a = 1 then (fun i => ([] : List Int).getD i 0) else if a = 0 then (fun i => l.getD i 0) else fun _ => 0 := rfl
theorem t17_ok (g : Nat → Nat → Int) : (t17 g).ok := ⟨(s17_ok []).n0, (s17_ok []).n1, (s17_ok []).m0, (s17_ok []).m1⟩
theorem t17_m {g : Nat → Nat → Int} (hw : ∀ p c, 0 ≤ g p c ∧ g p c < 4294967296) {hb : Nat} (h : hb ≤ 900000) : MOk (t17 g) hb :=
  ⟨t17_ok g, (s17_m [] (fun n h => by cases h) 0 (by decide)).d0, fun a c => (hw a c).1, fun a c => (hw a c).2, h⟩
theorem DOk.setR {d : Dm} (h : DOk d) {n : Nat} {x : Int} (h0 : 0 ≤ x) (h1 : x < 4294967296) : DOk (d.setR n x) :=
  ⟨fun j => by show 0 ≤ (if j = n then x else d.r j); split <;> first | exact h0 | exact h.r0 j, fun j => by show (if j = n then x else d.r j) < _; split <;> first | exact h1 | exact h.r1 j, h.p0, h.p1, h.k0, h.k1, h.m0⟩
theorem DOk.setPC {d : Dm} (h : DOk d) {x : Int} (h0 : 0 ≤ x) (h1 : x < 4294967296) : DOk (d.setPC x) := ⟨h.r0, h.r1, h0, h1, h.k0, h.k1, h.m0⟩
theorem DOk.setK {d : Dm} (h : DOk d) {n : Nat} {x : K} (h0 : 0 ≤ x.data) (h1 : x.data < 4294967296) : DOk (d.setK n x) :=
  ⟨h.r0, h.r1, h.p0, h.p1, fun j => by show 0 ≤ (if j = n then x else d.k j).data; split <;> first | exact h0 | exact h.k0 j, fun j => by show (if j = n then x else d.k j).data < _; split <;> first | exact h1 | exact h.k1 j, h.m0⟩
end Go.Proofs.YtnfefbhjdncccaaDoor.X

namespace Go.Proofs.YtnfefbhjdncccaaDoor.X
open Go Go.Proofs
set_option linter.unusedSimpArgs false
set_option linter.unusedVariables false
def shKey17 : Sh := .pair (.int .i64) (.pair (.int .i64) (.pair (.int .i64) (.pair (.int .i64) (.pair (.int .u32) .nil))))
def shFrame17 : Sh := .pair (.arr 8 (.int .u32)) (.pair (.int .u32) (.pair (.int .i64) (.pair (.int .i64) .nil)))
def shDom17 : Sh := .pair shFrame17 (.pair (.arr 16 shKey17) (.pair shKey17 (.pair shKey17 (.pair shKey17 (.pair (.int .i64) .nil)))))
def toK17 (x : shKey17.T) : K := ⟨x.1, x.2.1, x.2.2.1, x.2.2.2.1, x.2.2.2.2.1⟩
theorem toK17_c (x : shKey17.T) : shKey17.cells x = (toK17 x).l := rfl
theorem toK17_d {W : World} {x : shKey17.T} (h : shKey17.good W x) : 0 ≤ (toK17 x).data ∧ (toK17 x).data < 4294967296 := bu32 h.2.2.2.2.1
theorem list_mk {α : Type} (d : α) : ∀ (l : List α), l = X.mk l.length fun i => l.getD i d := fun l => by
  apply List.ext_getElem?
  intro i
  by_cases h : i < l.length
  · rw [mk_get? h, List.getD_eq_getElem?_getD, List.getElem?_eq_getElem h]; rfl
  · rw [List.getElem?_eq_none (by omega), List.getElem?_eq_none (by rw [mk_length]; omega)]
def toD17 (y : shDom17.T) : Dm := ⟨fun n => List.getD y.1.1 n 0, y.1.2.1, y.1.2.2.1, y.1.2.2.2.1, fun n => (List.map toK17 y.2.1).getD n K.void, toK17 y.2.2.1, toK17 y.2.2.2.1, toK17 y.2.2.2.2.1, y.2.2.2.2.2.1⟩
theorem flat_int (l : List Int) : l.flatMap (Sh.cells (.int .u32)) = l.map (.int .u32) := by
  induction l with
  | nil => rfl
  | cons a l ih => rw [List.flatMap_cons, List.map_cons, ih]; rfl
theorem flat_key (l : List shKey17.T) : l.flatMap (Sh.cells shKey17) = (l.map toK17).flatMap K.l := by
  induction l with
  | nil => rfl
  | cons a l ih => rw [List.flatMap_cons, List.map_cons, List.flatMap_cons, ih, toK17_c]
theorem toD17_c {W : World} (y : shDom17.T) (h : shDom17.good W y) : shDom17.cells y = (toD17 y).c := by
  obtain ⟨⟨r, pc, st, ft, u1⟩, ks, m, me, ke, wt, u2⟩ := y
  have h8 : List.length r = 8 := h.1.1.1
  have h16 : List.length ks = 16 := h.2.1.1
  have e1 : List.map (Value.int .u32) r = (X.mk 8 fun n => List.getD r n 0).map (.int .u32) := by
    rw [← h8, ← list_mk 0 r]
  have e2 : (List.map toK17 ks).flatMap K.l = (X.mk 16 fun n => (List.map toK17 ks).getD n K.void).flatMap K.l := by
    have := list_mk K.void (List.map toK17 ks)
    rw [List.length_map, h16] at this
    rw [← this]
  show (List.flatMap (Sh.cells (.int .u32)) r ++ ([.int .u32 pc] ++ ([.int .i64 st] ++ ([.int .i64 ft] ++ [])))) ++ (List.flatMap (Sh.cells shKey17) ks ++ (shKey17.cells m ++ (shKey17.cells me ++ (shKey17.cells ke ++ ([.int .i64 wt] ++ []))))) = _
  rw [flat_int, flat_key, e1, e2, toK17_c, toK17_c, toK17_c, List.append_assoc]
  rfl
theorem toD17_ok {W : World} (y : shDom17.T) (h : shDom17.good W y) : DOk (toD17 y) := by
  obtain ⟨⟨r, pc, st, ft, u1⟩, ks, m, me, ke, wt, u2⟩ := y
  have hr : ∀ n : Nat, 0 ≤ List.getD r n 0 ∧ List.getD r n 0 < 4294967296 := fun n => by
    rw [List.getD_eq_getElem?_getD]
    cases e : (r : List Int)[n]? with
    | none => exact ⟨Int.le_refl 0, by decide⟩
    | some x => exact bu32 (h.1.1.2 x (List.mem_of_getElem? e))
  have hk : ∀ n : Nat, 0 ≤ ((List.map toK17 ks).getD n K.void).data ∧ ((List.map toK17 ks).getD n K.void).data < 4294967296 := fun n => by
    rw [List.getD_eq_getElem?_getD, List.getElem?_map]
    cases e : (ks : List shKey17.T)[n]? with
    | none => exact ⟨Int.le_refl 0, by decide⟩
    | some x => exact toK17_d (h.2.1.2 x (List.mem_of_getElem? e))
  have hp := bu32 h.1.2.1
  exact ⟨fun n => (hr n).1, fun n => (hr n).2, hp.1, hp.2, fun n => (hk n).1, fun n => (hk n).2, (toK17_d h.2.2.1).1⟩
def Dm.setM (d : Dm) (k : K) : Dm := { d with mem := k }
theorem Dm.stM {d : Dm} {k : K} : splice d.c 91 k.l = (d.setM k).c := rfl
theorem DOk.setM {d : Dm} (h : DOk d) {k : K} (hk : 0 ≤ k.data) : DOk (d.setM k) := ⟨h.r0, h.r1, h.p0, h.p1, h.k0, h.k1, hk⟩
end Go.Proofs.YtnfefbhjdncccaaDoor.X
