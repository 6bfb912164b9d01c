/- Contracts of chapter 8 (store): nodes and pages as one; conditions: none. -/
import Derived.Test.YtnfefbhjdncccaaDoorA5
import Derived.Test.YtnfefbhjdncccaaDoorSM
import Derived.Test.YtnfefbhjdncccaaDoorA6p
import Derived.Test.YtnfefbhjdncccaaDoorAE
import Derived.Test.YtnfefbhjdncccaaDoorSE
--AUTODROP
namespace Go.Proofs.YtnfefbhjdncccaaDoor.X
open Go Go.Proofs
set_option linter.unusedSimpArgs false
set_option linter.unusedVariables false
attribute [local irreducible] CW OpsW RetW Spec blk snap DrawP AnyW AnyM AnyN bits IntKind.wrap vec arena kds nds wds pgs
/-- What a store has: so many nodes, their places, their keys; so many pages, their places, their words. -/
structure St where
  N : Nat
  f : Nat → Pl
  nd : Nat → Nat → K
  M : Nat
  g : Nat → Pl
  pg : Nat → Nat → Int
structure St.ok (s : St) : Prop where
  n0 : 0 < s.N
  n1 : s.N ≤ 256
  m0 : 0 < s.M
  m1 : s.M ≤ 256
/-- The slot's key, and whether it is there. -/
def St.hasN (s : St) (id i : Int) : Bool := onN s.N s.f id && (decide (0 ≤ i) && decide (i < 16))
def St.key (s : St) (id i : Int) : K := if s.hasN id i = true then s.nd id.toNat i.toNat else K.void
def St.put (s : St) (a c : Nat) (x : K) : St := { s with nd := fun a' => if a' = a then (fun c' => if c' = c then x else s.nd a c') else s.nd a' }
/-- The word, and whether it is there. -/
def St.hasP (s : St) (id i : Int) : Bool := onN s.M s.g id && (decide (0 ≤ i) && decide (i < 32))
def St.word (s : St) (id i : Int) : Int := if s.hasP id i = true then s.pg id.toNat i.toNat else 0
def St.putW (s : St) (a c : Nat) (x : Int) : St := { s with pg := fun a' => if a' = a then (fun c' => if c' = c then x else s.pg a c') else s.pg a' }
def St.setW (s : St) (id i x : Int) : St := if s.hasP id i = true then s.putW id.toNat i.toNat x else s
def liveAt (N : Nat) (f : Nat → Pl) (id ver : Int) : Bool := onN N f id && (f id.toNat).ver == ver
def St.live (s : St) (k : K) : Bool := if k.kind = 2 then liveAt s.N s.f k.id k.ver else if k.kind = 3 then liveAt s.M s.g k.id k.ver else false
def St.may (s : St) (k : K) (kind : Int) (wr : Bool) : Nat := if k.kind ≠ kind ∨ s.live k = false then 5 else if bits .and .i64 k.rights 2 ≠ 0 ∨ (wr = true ∧ k.writes = false) then 10 else 0
/-- The least place that is free. -/
def fst_ (N : Nat) (f : Nat → Pl) : Option Nat := (List.range N).find? fun j => (f j).free
def nodesP (bn : Nat) (s : St) : HP := fun h => ∃ ba : Nat, ∃ b : Nat, stars [blk bn 131 [.pointer (some ⟨ba, 0, none⟩), .slice (some ⟨b, 0, none⟩) s.N s.N], arena ba (mk s.N s.f), blk b 68 (nds s.N s.nd)] h
def pagesP (bp : Nat) (s : St) : HP := fun h => ∃ ba : Nat, ∃ b : Nat, stars [blk bp 133 [.pointer (some ⟨ba, 0, none⟩), .slice (some ⟨b, 0, none⟩) s.M s.M], arena ba (mk s.M s.g), blk b 106 (pgs s.M s.pg)] h
section
variable {z w : World} {Rs As : List HP} {bn bp bs ba b : Nat} {s : St} {ads : List Addr}
theorem nodes_open (H : Sat z w (nodesP bn s :: Rs)) : ∃ ba b : Nat, Sat z w (blk bn 131 [.pointer (some ⟨ba, 0, none⟩), .slice (some ⟨b, 0, none⟩) s.N s.N] :: arena ba (mk s.N s.f) :: blk b 68 (nds s.N s.nd) :: Rs) := by
  obtain ⟨ba, H⟩ := H.ex
  obtain ⟨b, H⟩ := H.ex
  exact ⟨ba, b, H.splits⟩
theorem nodes_close (H : Sat z w (blk bn 131 [.pointer (some ⟨ba, 0, none⟩), .slice (some ⟨b, 0, none⟩) s.N s.N] :: arena ba (mk s.N s.f) :: blk b 68 (nds s.N s.nd) :: Rs)) : Sat z w (nodesP bn s :: Rs) :=
  (Sat.joins (m := [blk bn 131 [.pointer (some ⟨ba, 0, none⟩), .slice (some ⟨b, 0, none⟩) s.N s.N], arena ba (mk s.N s.f), blk b 68 (nds s.N s.nd)]) H).imp fun h e => ⟨ba, b, e⟩
theorem pages_open (H : Sat z w (pagesP bp s :: Rs)) : ∃ ba b : Nat, Sat z w (blk bp 133 [.pointer (some ⟨ba, 0, none⟩), .slice (some ⟨b, 0, none⟩) s.M s.M] :: arena ba (mk s.M s.g) :: blk b 106 (pgs s.M s.pg) :: Rs) := by
  obtain ⟨ba, H⟩ := H.ex
  obtain ⟨b, H⟩ := H.ex
  exact ⟨ba, b, H.splits⟩
theorem pages_close (H : Sat z w (blk bp 133 [.pointer (some ⟨ba, 0, none⟩), .slice (some ⟨b, 0, none⟩) s.M s.M] :: arena ba (mk s.M s.g) :: blk b 106 (pgs s.M s.pg) :: Rs)) : Sat z w (pagesP bp s :: Rs) :=
  (Sat.joins (m := [blk bp 133 [.pointer (some ⟨ba, 0, none⟩), .slice (some ⟨b, 0, none⟩) s.M s.M], arena ba (mk s.M s.g), blk b 106 (pgs s.M s.pg)]) H).imp fun h e => ⟨ba, b, e⟩
theorem liveAt_eq {N : Nat} {f : Nat → Pl} {id ver : Int} : (decide (0 ≤ id) && ((mk N f).getD id.toNat Pl.z).there && ((mk N f).getD id.toNat Pl.z).ver == ver) = liveAt N f id ver := by
  unfold liveAt
  have h1 := onN_eq (N := N) (f := f) (id := id)
  by_cases h : onN N f id = true
  · obtain ⟨k, rfl, hk, hf⟩ := onN_at h
    rw [h1, h, show (k : Int).toNat = k from rfl, mk_getD hk]
  · have h' : onN N f id = false := by simpa using h
    rw [h1, h', Bool.false_and, Bool.false_and]
theorem arenaN_live {N : Nat} {f : Nat → Pl} (H : Sat z w (arena ba (mk N f) :: Rs)) (hN : N ≤ 256) (id ver : Int) :
    Spec cf 123 #[.pointer (some ⟨ba, 0, none⟩), .int .i64 id, .int .i64 ver] w fun r w' => r = .bool (liveAt N f id ver) ∧ Sat z w' (arena ba (mk N f) :: Rs) := by
  have := arena_live H (by rw [mk_length]; exact hN) id ver
  rw [liveAt_eq] at this; exact this
theorem arenaN_ver {N : Nat} {f : Nat → Pl} (H : Sat z w (arena ba (mk N f) :: Rs)) (k : Nat) (hk : k < N) :
    Spec cf 56 #[.pointer (some ⟨ba, 0, none⟩), .int .i64 k] w fun r w' => r = .int .i64 (f k).ver ∧ Sat z w' (arena ba (mk N f) :: Rs) := by
  have := arena_ver H k (by rw [mk_length]; exact hk)
  rw [mk_get] at this; exact this

theorem nodeP_get (H : Sat z w (nodesP bn s :: Rs)) (hs : s.ok) (id i : Int) :
    Spec cf 98 #[.pointer (some ⟨bn, 0, none⟩), .int .i64 id, .int .i64 i] w fun e w' => e = .tuple #[(s.key id i).v, .bool (s.hasN id i)] ∧ Sat z w' (nodesP bn s :: Rs) := by
  obtain ⟨ba, b, H⟩ := nodes_open H
  by_cases h : s.hasN id i = true
  · have h' := h
    rw [St.hasN, Bool.and_eq_true, Bool.and_eq_true] at h'
    obtain ⟨k, rfl, hk, hf⟩ := onN_at h'.1
    have h2 := of_decide_eq_true h'.2.1
    have h3 := of_decide_eq_true h'.2.2
    obtain ⟨c, rfl⟩ := Int.eq_ofNat_of_zero_le h2
    refine (node_get H hs.n1 k c hk hf (by omega)).mono fun e w h4 => ⟨?_, nodes_close h4.2⟩
    rw [h4.1, h, St.key, if_pos h]; rfl
  · have h' : s.hasN id i = false := by simpa using h
    refine (node_get_no H hs.n1 id i h').mono fun e w h4 => ⟨?_, nodes_close h4.2⟩
    rw [h4.1, h', St.key, if_neg h]
def St.newN (s : St) (q : Nat) (l : List K) : St := { s with f := fun j => if j = q then (s.f q).take else s.f j, nd := fun a => if a = q then (fun i => l.getD i K.void) else s.nd a }
theorem fst_some {N : Nat} {f : Nat → Pl} {q : Nat} (h : fst_ N f = some q) : q < N ∧ (f q).free = true ∧ ∀ j, j < q → (f j).free = false := by
  obtain ⟨h1, i, h2, h3, h4⟩ := List.find?_eq_some_iff_getElem.1 h
  have h2' : i < N := by simpa using h2
  have h3' : i = q := by simpa using h3
  subst h3'
  refine ⟨h2', h1, fun j hj => ?_⟩
  have := h4 j hj
  simpa using this
theorem fst_is {N : Nat} {f : Nat → Pl} {q : Nat} (h1 : q < N) (h2 : (f q).free = true) (h3 : ∀ j, j < q → (f j).free = false) : fst_ N f = some q := by
  refine List.find?_eq_some_iff_getElem.2 ⟨h2, q, by simpa using h1, by simp, fun j hj => ?_⟩
  have := h3 j hj
  simpa using this
theorem pageP_read (H : Sat z w (pagesP bp s :: Rs)) (hs : s.ok) (id i : Int) :
    Spec cf 24 #[.pointer (some ⟨bp, 0, none⟩), .int .i64 id, .int .i64 i] w fun e w' => e = .tuple #[.int .u32 (s.word id i), .bool (s.hasP id i)] ∧ Sat z w' (pagesP bp s :: Rs) := by
  obtain ⟨ba, b, H⟩ := pages_open H
  by_cases h : s.hasP id i = true
  · have h' := h
    rw [St.hasP, Bool.and_eq_true, Bool.and_eq_true] at h'
    obtain ⟨k, rfl, hk, hf⟩ := onN_at h'.1
    have h2 := of_decide_eq_true h'.2.1
    have h3 := of_decide_eq_true h'.2.2
    obtain ⟨c, rfl⟩ := Int.eq_ofNat_of_zero_le h2
    refine (page_read H hs.m1 k c hk hf (by omega)).mono fun e w h4 => ⟨?_, pages_close h4.2⟩
    rw [h4.1, h, St.word, if_pos h]; rfl
  · have h' : s.hasP id i = false := by simpa using h
    refine (page_read_no H hs.m1 id i h').mono fun e w h4 => ⟨?_, pages_close h4.2⟩
    rw [h4.1, h', St.word, if_neg h]
theorem pageP_write (H : Sat z w (pagesP bp s :: Rs)) (hs : s.ok) (id i x : Int) :
    Spec cf 58 #[.pointer (some ⟨bp, 0, none⟩), .int .i64 id, .int .i64 i, .int .u32 x] w fun e w' => e = .bool (s.hasP id i) ∧ Sat z w' (pagesP bp (s.setW id i x) :: Rs) := by
  obtain ⟨ba, b, H⟩ := pages_open H
  by_cases h : s.hasP id i = true
  · have h' := h
    rw [St.hasP, Bool.and_eq_true, Bool.and_eq_true] at h'
    obtain ⟨k, rfl, hk, hf⟩ := onN_at h'.1
    have h2 := of_decide_eq_true h'.2.1
    have h3 := of_decide_eq_true h'.2.2
    obtain ⟨c, rfl⟩ := Int.eq_ofNat_of_zero_le h2
    refine (page_write H hs.m1 k c hk hf (by omega) x).mono fun e w h4 => ⟨?_, ?_⟩
    · rw [h4.1, h]
    · rw [St.setW, if_pos h]; exact pages_close (s := s.putW k c x) h4.2
  · have h' : s.hasP id i = false := by simpa using h
    refine (page_write_no H hs.m1 id i x h').mono fun e w h4 => ⟨?_, ?_⟩
    · rw [h4.1, h']
    · rw [St.setW, if_neg h]; exact pages_close h4.2
def St.newP (s : St) (q : Nat) (l : List Int) : St := { s with g := fun j => if j = q then (s.g q).take else s.g j, pg := fun a => if a = q then (fun i => l.getD i 0) else s.pg a }
end
end Go.Proofs.YtnfefbhjdncccaaDoor.X
