/- Contracts of chapter 8 (store): nodes and pages, as parts of a store; conditions: none. -/
import Derived.Test.YtnfefbhjdncccaaDoorA8s
--AUTODROP
namespace Go.Proofs.YtnfefbhjdncccaaDoor.X
open Go Go.Proofs
set_option linter.unusedSimpArgs false
set_option linter.unusedVariables false
section
variable {z w : World} {Rs As : List HP} {bn bp bs ba b : Nat} {s : St} {ads : List Addr}
theorem via {f : FuncId} {args : Array Value} {v : Value} {As Bs : List HP} (H : Sat z w As) (p : As.Perm Bs) (h : Sat z w Bs → Spec cf f args w fun e w' => e = v ∧ Sat z w' Bs) : Spec cf f args w fun e w' => e = v ∧ Sat z w' As := back p (h (H.perm p))
theorem ok_new {N M : Nat} (h1 : 0 < N) (h2 : N ≤ 256) (h3 : 0 < M) (h4 : M ≤ 256) : (St.new N M).ok := ⟨h1, h2, h3, h4⟩
theorem St.ok.newP {q : Nat} {l : List Int} (h : s.ok) : (s.newP q l).ok := ⟨h.n0, h.n1, h.m0, h.m1⟩
theorem St.ok.newN {q : Nat} {l : List K} (h : s.ok) : (s.newN q l).ok := ⟨h.n0, h.n1, h.m0, h.m1⟩
theorem St.ok.put {a c : Nat} {x : K} (h : s.ok) : (s.put a c x).ok := ⟨h.n0, h.n1, h.m0, h.m1⟩
theorem St.ok.putW {a c : Nat} {x : Int} (h : s.ok) : (s.putW a c x).ok := ⟨h.n0, h.n1, h.m0, h.m1⟩
theorem st_pageRead (H : Sat z w (blk bs 38 [.pointer (some ⟨bn, 0, none⟩), .pointer (some ⟨bp, 0, none⟩)] :: nodesP bn s :: pagesP bp s :: Rs)) (hs : s.ok) (id i : Int) :
    Spec cf 24 #[.pointer (some ⟨bp, 0, none⟩), .int .i64 id, .int .i64 i] w fun e w' => e = .tuple #[.int .u32 (s.word id i), .bool (s.hasP id i)] ∧ Sat z w' (blk bs 38 [.pointer (some ⟨bn, 0, none⟩), .pointer (some ⟨bp, 0, none⟩)] :: nodesP bn s :: pagesP bp s :: Rs) :=
  back (pS (pS p0)) (pageP_read (H.perm (pS (pS p0))) hs id i)
end
end Go.Proofs.YtnfefbhjdncccaaDoor.X
