/- Contracts of chapter 8 (store): nodes and pages, as parts of a store; conditions: none. -/
import Derived.Test.YtnfefbhjdncccaaDoorA8s
--AUTODROP
namespace Go.Proofs.YtnfefbhjdncccaaDoor.X
open Go Go.Proofs
set_option linter.unusedSimpArgs false
set_option linter.unusedVariables false
section
variable {z w : World} {Rs As : List HP} {bn bp bs ba b : Nat} {s : St} {ads : List Addr}
theorem via {f : FuncId} {args : Array Value} {v : Value} {As Bs : List HP} (H : Sat z w As) (p : As.Perm Bs) (h : Sat z w Bs → Spec cf f args w fun e w' => e = v ∧ Sat z w' Bs) : Spec cf f args w fun e w' => e = v ∧ Sat z w' As := back p (h (H.perm p))
theorem ok_new {N M : Nat} (h1 : 0 < N) (h2 : N ≤ 256) (h3 : 0 < M) (h4 : M ≤ 256) : (St.new N M).ok := ⟨h1, h2, h3, h4⟩
theorem St.ok.newP {q : Nat} {l : List Int} (h : s.ok) : (s.newP q l).ok := ⟨h.n0, h.n1, h.m0, h.m1⟩
theorem St.ok.newN {q : Nat} {l : List K} (h : s.ok) : (s.newN q l).ok := ⟨h.n0, h.n1, h.m0, h.m1⟩
theorem St.ok.put {a c : Nat} {x : K} (h : s.ok) : (s.put a c x).ok := ⟨h.n0, h.n1, h.m0, h.m1⟩
theorem St.ok.putW {a c : Nat} {x : Int} (h : s.ok) : (s.putW a c x).ok := ⟨h.n0, h.n1, h.m0, h.m1⟩
theorem St.ok.setN {id i : Int} {x : K} (h : s.ok) : (s.setN id i x).ok := by unfold St.setN; split <;> first | exact h.put | exact h
theorem pages_setN {id i : Int} {x : K} : pagesP bp (s.setN id i x) = pagesP bp s := by unfold St.setN; split <;> rfl
def St.giveN (s : St) (q : Nat) : St := { s with f := fun j => if j = q then (s.f q).give else s.f j }
def St.giveP (s : St) (q : Nat) : St := { s with g := fun j => if j = q then (s.g q).give else s.g j }
theorem St.ok.giveN {q : Nat} (h : s.ok) : (s.giveN q).ok := ⟨h.n0, h.n1, h.m0, h.m1⟩
theorem St.ok.giveP {q : Nat} (h : s.ok) : (s.giveP q).ok := ⟨h.n0, h.n1, h.m0, h.m1⟩
theorem st_pageMake (H : Sat z w (blk bs 38 [.pointer (some ⟨bn, 0, none⟩), .pointer (some ⟨bp, 0, none⟩)] :: nodesP bn s :: pagesP bp s :: Rs)) (hs : s.ok) (hE : EN Rs ads) (v : Value) (l : List Int) (hl : l.length ≤ 32) (hv : SlR Rs v 1 l.length (l.map (.int .u32))) (q : Nat) (hq : fst_ s.M s.g = some q) :
    Spec cf 18 #[.pointer (some ⟨bp, 0, none⟩), v] w fun e w' => e = .tuple #[.int .i64 q, .int .i64 (s.g q).ver, .nilIface] ∧ Sat z w' (blk bs 38 [.pointer (some ⟨bn, 0, none⟩), .pointer (some ⟨bp, 0, none⟩)] :: nodesP bn (s.newP q l) :: pagesP bp (s.newP q l) :: Rs) :=
  (pageP_make (H.perm (pS (pS p0))) hs hE.tail.tail v l hl hv.tail.tail q hq).mono fun e w h => ⟨h.1, h.2.perm (pS (pS p0)).symm⟩
theorem st_nodeMake (H : Sat z w (blk bs 38 [.pointer (some ⟨bn, 0, none⟩), .pointer (some ⟨bp, 0, none⟩)] :: nodesP bn s :: pagesP bp s :: Rs)) (hs : s.ok) (hE : EN Rs ads) (v : Value) (l : List K) (hl : l.length ≤ 16) (hok : fitE l = 0) (hv : SlR Rs v 5 l.length (l.flatMap K.l)) (q : Nat) (hq : fst_ s.N s.f = some q) :
    Spec cf 17 #[.pointer (some ⟨bn, 0, none⟩), v] w fun e w' => e = .tuple #[.int .i64 q, .int .i64 (s.f q).ver, .nilIface] ∧ Sat z w' (blk bs 38 [.pointer (some ⟨bn, 0, none⟩), .pointer (some ⟨bp, 0, none⟩)] :: nodesP bn (s.newN q l) :: pagesP bp (s.newN q l) :: Rs) :=
  (nodeP_make (H.perm (pS p0)) hs hE.tail.tail v l hl hok hv.tail.tail q hq).mono fun e w h => ⟨h.1, h.2.perm (pS p0).symm⟩
theorem st_nodeGet (H : Sat z w (blk bs 38 [.pointer (some ⟨bn, 0, none⟩), .pointer (some ⟨bp, 0, none⟩)] :: nodesP bn s :: pagesP bp s :: Rs)) (hs : s.ok) (id i : Int) :
    Spec cf 98 #[.pointer (some ⟨bn, 0, none⟩), .int .i64 id, .int .i64 i] w fun e w' => e = .tuple #[(s.key id i).v, .bool (s.hasN id i)] ∧ Sat z w' (blk bs 38 [.pointer (some ⟨bn, 0, none⟩), .pointer (some ⟨bp, 0, none⟩)] :: nodesP bn s :: pagesP bp s :: Rs) :=
  back (pS p0) (nodeP_get (H.perm (pS p0)) hs id i)
theorem st_nodeSet (H : Sat z w (blk bs 38 [.pointer (some ⟨bn, 0, none⟩), .pointer (some ⟨bp, 0, none⟩)] :: nodesP bn s :: pagesP bp s :: Rs)) (hs : s.ok) (hE : EN Rs ads) (id i : Int) (x : K) :
    Spec cf 54 #[.pointer (some ⟨bn, 0, none⟩), .int .i64 id, .int .i64 i, x.v] w fun e w' => e = eA ads (s.setE id i x) ∧ Sat z w' (blk bs 38 [.pointer (some ⟨bn, 0, none⟩), .pointer (some ⟨bp, 0, none⟩)] :: nodesP bn (s.setN id i x) :: pagesP bp (s.setN id i x) :: Rs) :=
  (nodeP_set (H.perm (pS p0)) hs hE.tail.tail id i x).mono fun e w h => ⟨h.1, by rw [pages_setN]; exact h.2.perm (pS p0).symm⟩
theorem st_pageRead (H : Sat z w (blk bs 38 [.pointer (some ⟨bn, 0, none⟩), .pointer (some ⟨bp, 0, none⟩)] :: nodesP bn s :: pagesP bp s :: Rs)) (hs : s.ok) (id i : Int) :
    Spec cf 24 #[.pointer (some ⟨bp, 0, none⟩), .int .i64 id, .int .i64 i] w fun e w' => e = .tuple #[.int .u32 (s.word id i), .bool (s.hasP id i)] ∧ Sat z w' (blk bs 38 [.pointer (some ⟨bn, 0, none⟩), .pointer (some ⟨bp, 0, none⟩)] :: nodesP bn s :: pagesP bp s :: Rs) :=
  back (pS (pS p0)) (pageP_read (H.perm (pS (pS p0))) hs id i)
/-- A page that is there is given back: the arena's place is told. -/
theorem st_pagesAt (H : Sat z w (blk bs 38 [.pointer (some ⟨bn, 0, none⟩), .pointer (some ⟨bp, 0, none⟩)] :: nodesP bn s :: pagesP bp s :: Rs)) : ∃ ba b : Nat, Sat z w (blk bp 133 [.pointer (some ⟨ba, 0, none⟩), .slice (some ⟨b, 0, none⟩) s.M s.M] :: arena ba (mk s.M s.g) :: blk b 106 (pgs s.M s.pg) :: blk bs 38 [.pointer (some ⟨bn, 0, none⟩), .pointer (some ⟨bp, 0, none⟩)] :: nodesP bn s :: Rs) := pages_open (H.perm (pS (pS p0)))
theorem st_nodesAt (H : Sat z w (blk bs 38 [.pointer (some ⟨bn, 0, none⟩), .pointer (some ⟨bp, 0, none⟩)] :: nodesP bn s :: pagesP bp s :: Rs)) : ∃ ba b : Nat, Sat z w (blk bn 131 [.pointer (some ⟨ba, 0, none⟩), .slice (some ⟨b, 0, none⟩) s.N s.N] :: arena ba (mk s.N s.f) :: blk b 68 (nds s.N s.nd) :: blk bs 38 [.pointer (some ⟨bn, 0, none⟩), .pointer (some ⟨bp, 0, none⟩)] :: pagesP bp s :: Rs) := nodes_open (H.perm (pS p0))
theorem st_pagesTo (H : Sat z w (blk bp 133 [.pointer (some ⟨ba, 0, none⟩), .slice (some ⟨b, 0, none⟩) s.M s.M] :: arena ba (mk s.M s.g) :: blk b 106 (pgs s.M s.pg) :: blk bs 38 [.pointer (some ⟨bn, 0, none⟩), .pointer (some ⟨bp, 0, none⟩)] :: nodesP bn s :: Rs)) : Sat z w (blk bs 38 [.pointer (some ⟨bn, 0, none⟩), .pointer (some ⟨bp, 0, none⟩)] :: nodesP bn s :: pagesP bp s :: Rs) := (pages_close H).perm (pS (pS p0)).symm
theorem st_nodesTo (H : Sat z w (blk bn 131 [.pointer (some ⟨ba, 0, none⟩), .slice (some ⟨b, 0, none⟩) s.N s.N] :: arena ba (mk s.N s.f) :: blk b 68 (nds s.N s.nd) :: blk bs 38 [.pointer (some ⟨bn, 0, none⟩), .pointer (some ⟨bp, 0, none⟩)] :: pagesP bp s :: Rs)) : Sat z w (blk bs 38 [.pointer (some ⟨bn, 0, none⟩), .pointer (some ⟨bp, 0, none⟩)] :: nodesP bn s :: pagesP bp s :: Rs) := (nodes_close H).perm (pS p0).symm
theorem st_pageGive (H : Sat z w (blk bp 133 [.pointer (some ⟨ba, 0, none⟩), .slice (some ⟨b, 0, none⟩) s.M s.M] :: arena ba (mk s.M s.g) :: blk b 106 (pgs s.M s.pg) :: blk bs 38 [.pointer (some ⟨bn, 0, none⟩), .pointer (some ⟨bp, 0, none⟩)] :: nodesP bn s :: Rs)) (hs : s.ok) (i : Nat) (hi : i < s.M) (ht : (s.g i).there = true) :
    Spec cf 63 #[.pointer (some ⟨ba, 0, none⟩), .int .i64 i] w fun r w' => r = .nilIface ∧ Sat z w' (blk bs 38 [.pointer (some ⟨bn, 0, none⟩), .pointer (some ⟨bp, 0, none⟩)] :: nodesP bn (s.giveP i) :: pagesP bp (s.giveP i) :: Rs) :=
  (arenaN_give (H.perm (pS p0)) hs.m1 i hi ht).mono fun e w h => ⟨h.1, st_pagesTo (s := s.giveP i) (h.2.perm (.swap _ _ _))⟩
end
end Go.Proofs.YtnfefbhjdncccaaDoor.X
