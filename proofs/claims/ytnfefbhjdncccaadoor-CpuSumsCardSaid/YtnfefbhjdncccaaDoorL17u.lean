/- The law CpuSums of chapter 17, walked; conditions: none. -/
import Derived.Test.YtnfefbhjdncccaaDoorL17k
import Derived.Test.YtnfefbhjdncccaaDoorSE
namespace Go.Proofs.YtnfefbhjdncccaaDoor.X
open Go Go.Proofs
set_option linter.unusedSimpArgs false
set_option linter.unusedVariables false
/-- The program's registers 0, 1, 2, and its place. -/
structure Q4 where
  a : Int
  b : Int
  c : Int
  p : Int
def nxU (n : Int) (q : Q4) : Int × Q4 :=
  if q.p = 0 then (0, ⟨q.a, n, q.c, 1⟩)
  else if q.p = 1 then (0, ⟨q.a, q.b, 1, 2⟩)
  else if q.p = 2 then (0, if q.b = 0 then ⟨q.a, q.b, q.c, 6⟩ else ⟨q.a, q.b, q.c, 3⟩)
  else if q.p = 3 then (0, ⟨q.a, (q.b - q.c) % 4294967296, q.c, 4⟩)
  else if q.p = 4 then (0, ⟨(q.a + q.b) % 4294967296, q.b, q.c, 5⟩)
  else if q.p = 5 then (0, ⟨q.a, q.b, q.c, 2⟩)
  else (3, ⟨q.a, q.b, q.c, 7⟩)
def atU (n : Int) : Nat → Q4
  | 0 => ⟨0, 0, 0, 0⟩
  | i + 1 => (nxU n (atU n i)).2
/-- So many steps from a place on each comes to what it should. -/
def okU (n : Int) (q : Q4) (last : Bool) : Bool :=
  decide (0 ≤ q.a) && decide (q.a < 4294967296) && decide (0 ≤ q.b) && decide (q.b < 4294967296) && decide (0 ≤ q.c) && decide (q.c < 4294967296) && decide (0 ≤ q.p) && decide (q.p < 7) && ((nxU n q).1 == if last = true then 3 else 0)
def runU (n : Int) : Nat → Q4 → Bool
  | 0, q => okU n q true
  | m + 1, q => okU n q false && runU n m (nxU n q).2
theorem runU_ok : ∀ n : Nat, n < 40 → runU n (4 * n + 3) ⟨0, 0, 0, 0⟩ = true := by decide +kernel
theorem runU_at (n : Int) : ∀ (m i : Nat), runU n m (atU n i) = true → ∀ j, j ≤ m → okU n (atU n (i + j)) (decide (j = m)) = true
  | 0, i, h, j, hj => by
    obtain rfl : j = 0 := by omega
    exact h
  | m + 1, i, h, j, hj => by
    have h' : (okU n (atU n i) false && runU n m (atU n (i + 1))) = true := h
    rw [Bool.and_eq_true] at h'
    cases j with
    | zero => rw [show decide (0 = m + 1) = false from decide_eq_false (by omega)]; exact h'.1
    | succ j =>
      have := runU_at n m (i + 1) h'.2 j (by omega)
      rw [show i + (j + 1) = i + 1 + j by omega, show decide (j + 1 = m + 1) = decide (j = m) from decide_eq_decide.2 (by omega)]
      exact this
theorem atU_ok (n i : Nat) (hn : n < 40) (hi : i ≤ 4 * n + 3) : okU n (atU n i) (decide (i = 4 * n + 3)) = true := by
  have := runU_at n (4 * n + 3) 0 (runU_ok n hn) i hi
  rw [Nat.zero_add] at this; exact this
theorem atU_end : ∀ n : Nat, n < 40 → (atU n (4 * n + 4)).a = IntKind.wrap .u32 (IntKind.wrap .i64 ((IntKind.wrap .i64 ((n : Int) * IntKind.wrap .i64 ((n : Int) - 1))).tdiv 2)) ∧ (atU n (4 * n + 4)).p = 7 ∧ IntKind.wrap .i64 (4 + IntKind.wrap .i64 (4 * (n : Int))) = ((4 * n + 4 : Nat) : Int) := by decide +kernel
def dU (q : Q4) : Dm := { dmM k17 with r := fun j => if j = 0 then q.a else if j = 1 then q.b else if j = 2 then q.c else 0, pc := q.p }
def i0U (n : Nat) : Ins := ⟨1, 1, 0, 0, n⟩
def i1U : Ins := ⟨1, 2, 0, 0, 1⟩
def i2U : Ins := ⟨5, 1, 0, 0, 6⟩
def i3U : Ins := ⟨3, 1, 1, 2, 1⟩
def i4U : Ins := ⟨3, 0, 0, 1, 0⟩
def i5U : Ins := ⟨4, 0, 0, 0, 2⟩
def i6U : Ins := ⟨13, 0, 0, 0, 0⟩
def lU (n : Nat) : List Ins := [i0U n, i1U, i2U, i3U, i4U, i5U, i6U]
def wU (n : Nat) : List Int := (lU n).map Ins.w
theorem lU_ec : ∀ n : Nat, n < 40 → ∀ j : Nat, j < 7 → ((lU n).getD j i6U).ec = 0 := by decide +kernel
theorem lU_ecm (n : Nat) (hn : n < 40) : ∀ i ∈ lU n, i.ec = 0 := fun i hi => by
  obtain ⟨j, hj, rfl⟩ := List.mem_iff_getElem.1 hi
  have := lU_ec n hn j hj
  rw [List.getD_eq_getElem?_getD, List.getElem?_eq_getElem hj] at this; exact this
theorem gU_rng (n : Nat) (hn : n < 40) (p c : Nat) : 0 ≤ g17 (wU n) p c ∧ g17 (wU n) p c < 4294967296 := by
  have h := s17_m (wU n) (fun x hx => by
    obtain ⟨i, hi, rfl⟩ := List.mem_map.1 hx
    exact w_rng (ec_rng (lU_ecm n hn i hi))) 0 (by decide)
  exact ⟨h.w0 p c, h.w1 p c⟩
theorem dm_ext {d e : Dm} (h1 : d.r = e.r) (h2 : d.pc = e.pc) (h3 : d.st = e.st) (h4 : d.ft = e.ft) (h5 : d.k = e.k) (h6 : d.mem = e.mem) (h7 : d.meter = e.meter) (h8 : d.keeper = e.keeper) (h9 : d.wait = e.wait) : d = e := by
  cases d; cases e; simp_all
theorem dU_set0 (q : Q4) (x : Int) : (dU q).setR 0 x = dU { q with a := x } := by
  refine dm_ext ?_ rfl rfl rfl rfl rfl rfl rfl rfl
  funext j
  show (if j = 0 then x else if j = 0 then q.a else _) = if j = 0 then x else _
  split <;> rfl
theorem dU_set1 (q : Q4) (x : Int) : (dU q).setR 1 x = dU { q with b := x } := by
  refine dm_ext ?_ rfl rfl rfl rfl rfl rfl rfl rfl
  funext j
  show (if j = 1 then x else if j = 0 then q.a else if j = 1 then q.b else _) = if j = 0 then q.a else if j = 1 then x else _
  by_cases h0 : j = 0
  · subst h0; rfl
  · rw [if_neg h0, if_neg h0]; split <;> rfl
theorem dU_set2 (q : Q4) (x : Int) : (dU q).setR 2 x = dU { q with c := x } := by
  refine dm_ext ?_ rfl rfl rfl rfl rfl rfl rfl rfl
  funext j
  show (if j = 2 then x else if j = 0 then q.a else if j = 1 then q.b else if j = 2 then q.c else _) = if j = 0 then q.a else if j = 1 then q.b else if j = 2 then x else _
  by_cases h0 : j = 0
  · subst h0; rfl
  by_cases h1 : j = 1
  · subst h1; rfl
  · rw [if_neg h0, if_neg h0, if_neg h1, if_neg h1]; split <;> rfl
theorem dU_pc (q : Q4) (x : Int) : (dU q).setPC x = dU { q with p := x } := rfl
theorem dU_zero : dmM k17 = dU ⟨0, 0, 0, 0⟩ := by
  refine dm_ext ?_ rfl rfl rfl rfl rfl rfl rfl rfl
  funext j
  show (0 : Int) = if j = 0 then 0 else if j = 1 then 0 else if j = 2 then 0 else 0
  repeat' split
  all_goals rfl
theorem doP_1 (s : St) (d : Dm) (a : Nat) (m : Int) : doP s d ⟨1, a, 0, 0, m⟩ = (Ev.of 0, d.setR a m, s) := by simp [doP]
theorem doP_3 (s : St) (d : Dm) (a b c : Nat) (m : Int) : doP s d ⟨3, a, b, c, m⟩ = (Ev.of 0, d.setR a (wdo m (d.r b) (d.r c)).1, s) := by simp [doP]
theorem doP_4 (s : St) (d : Dm) (m : Int) : doP s d ⟨4, 0, 0, 0, m⟩ = (Ev.of 0, d.setPC m, s) := by simp [doP]
theorem doP_5 (s : St) (d : Dm) (a : Nat) (m : Int) : doP s d ⟨5, a, 0, 0, m⟩ = (Ev.of 0, if d.r a = 0 then d.setPC m else d, s) := by simp [doP]
theorem doP_13 (s : St) (d : Dm) : doP s d ⟨13, 0, 0, 0, 0⟩ = (Ev.of 3, d, s) := by simp [doP]
theorem stepAt3 {l : List Int} {D D' : Dm} {i : Ins} {q : Nat} (hM : D.mem = k17) (hp : D.pc = q) (hq : q < 32) (hl : l.getD q 0 = i.w) (hi : i.ec = 0) (hd : doP (t17 (g17 l)) (D.setPC ((q + 1 : Nat) : Int)) i = (Ev.of 3, D', t17 (g17 l))) :
    stepP (t17 (g17 l)) D = (Ev.of 3, D', t17 (g17 l)) := by
  have hl2 : (t17 (g17 l)).load D.mem D.pc = (i.w, 0) := by
    rw [hM, hp]
    have := t17_load (g17 l) 0 q (by omega)
    rw [show g17 l (q / 32) (q % 32) = i.w by
      rw [show q / 32 = 0 by omega, show q % 32 = q by omega]; exact hl] at this
    exact this
  rw [stepP_ok hl2 hi, hp, show ((q : Int) + 1) % 4294967296 = ((q + 1 : Nat) : Int) by omega, hd]
  rfl
theorem stepU (n : Nat) (hn : n < 40) (q : Q4) (h0 : 0 ≤ q.p) (h7 : q.p < 7) : stepP (t17 (g17 (wU n))) (dU q) = (Ev.of (nxU n q).1, dU (nxU n q).2, t17 (g17 (wU n))) := by
  have hec := lU_ec n hn
  obtain ⟨a, b, c, p⟩ := q
  dsimp only at h0 h7
  rcases (show p = 0 ∨ p = 1 ∨ p = 2 ∨ p = 3 ∨ p = 4 ∨ p = 5 ∨ p = 6 by omega) with rfl | rfl | rfl | rfl | rfl | rfl | rfl
  · refine stepAt (q := 0) rfl rfl (by decide) rfl (hec 0 (by decide)) ?_
    refine (doP_1 _ _ 1 (n : Int)).trans ?_
    rw [dU_pc, dU_set1]; rfl
  · refine stepAt (q := 1) rfl rfl (by decide) rfl (hec 1 (by decide)) ?_
    refine (doP_1 _ _ 2 1).trans ?_
    rw [dU_pc, dU_set2]; rfl
  · refine stepAt (q := 2) rfl rfl (by decide) rfl (hec 2 (by decide)) ?_
    refine (doP_5 _ _ 1 6).trans ?_
    show (Ev.of 0, if b = 0 then _ else _, _) = (Ev.of 0, dU (if b = 0 then _ else _), _)
    by_cases hb : b = 0
    · rw [if_pos hb, if_pos hb]; rfl
    · rw [if_neg hb, if_neg hb]; rfl
  · refine stepAt (q := 3) rfl rfl (by decide) rfl (hec 3 (by decide)) ?_
    refine (doP_3 _ _ 1 1 2 1).trans ?_
    rw [dU_pc, dU_set1]; rfl
  · refine stepAt (q := 4) rfl rfl (by decide) rfl (hec 4 (by decide)) ?_
    refine (doP_3 _ _ 0 0 1 0).trans ?_
    rw [dU_pc, dU_set0]; rfl
  · refine stepAt (q := 5) rfl rfl (by decide) rfl (hec 5 (by decide)) ?_
    refine (doP_4 _ _ 2).trans ?_
    rfl
  · refine stepAt3 (q := 6) rfl rfl (by decide) rfl (hec 6 (by decide)) ?_
    refine (doP_13 _ _).trans ?_
    rfl
theorem okU_dok {n : Int} {q : Q4} {l : Bool} (h : okU n q l = true) : DOk (dU q) ∧ 0 ≤ q.p ∧ q.p < 7 ∧ (nxU n q).1 = if l = true then 3 else 0 := by
  unfold okU at h
  simp only [Bool.and_eq_true, decide_eq_true_eq, beq_iff_eq] at h
  obtain ⟨⟨⟨⟨⟨⟨⟨⟨a0, a1⟩, b0⟩, b1⟩, c0⟩, c1⟩, p0⟩, p1⟩, e⟩ := h
  have hr : ∀ j, 0 ≤ (dU q).r j ∧ (dU q).r j < 4294967296 := fun j => by
    show 0 ≤ (if j = 0 then q.a else if j = 1 then q.b else if j = 2 then q.c else 0) ∧ (if j = 0 then q.a else if j = 1 then q.b else if j = 2 then q.c else 0) < 4294967296
    split
    · exact ⟨a0, a1⟩
    split
    · exact ⟨b0, b1⟩
    split
    · exact ⟨c0, c1⟩
    · decide
  exact ⟨⟨fun j => (hr j).1, fun j => (hr j).2, p0, by show q.p < 4294967296; omega, dmz_ok.k0, dmz_ok.k1, by show (0 : Int) ≤ 1; decide⟩, p0, p1, e⟩
end Go.Proofs.YtnfefbhjdncccaaDoor.X
