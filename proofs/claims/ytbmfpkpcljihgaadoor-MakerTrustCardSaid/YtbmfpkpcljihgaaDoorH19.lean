/- The plain law of holes: what the search answers is that a hole is come to; conditions: none. -/
import Derived.Test.YtbmfpkpcljihgaaDoorA19s
namespace Go.Proofs.YtbmfpkpcljihgaaDoor.X
open Go Go.Proofs
set_option linter.unusedSimpArgs false
set_option linter.unusedVariables false
inductive HoleP (fs : List Fac) : K → Prop
  | out {k : K} (hs : k.sensory = false) (hn : namedF fs k = none) : HoleP fs k
  | via {k x : K} {i : Nat} (hs : k.sensory = false) (hn : namedF fs k = some i) (hx : x ∈ (fs.getD i ⟨0, 0, false, none, 0, []⟩).parts) (h : HoleP fs x) : HoleP fs k
def doneK (fs : List Fac) (m : List Bool) (k : K) : Prop := k.sensory = true ∨ ∃ i, namedF fs k = some i ∧ m.getD i false = true
def monoM (m m' : List Bool) : Prop := ∀ j : Nat, m.getD j false = true → m'.getD j false = true
def newM (fs : List Fac) (m m' : List Bool) : Prop := ∀ j : Nat, m'.getD j false = true → m.getD j false = true ∨ ∀ x ∈ (fs.getD j ⟨0, 0, false, none, 0, []⟩).parts, doneK fs m' x
theorem doneK.mono {fs : List Fac} {m m' : List Bool} {k : K} (h : doneK fs m k) (hm : monoM m m') : doneK fs m' k := by
  rcases h with h | ⟨i, h1, h2⟩
  · exact .inl h
  · exact .inr ⟨i, h1, hm i h2⟩
theorem newM.trans {fs : List Fac} {a b c : List Bool} (h1 : newM fs a b) (h2 : newM fs b c) (hm : monoM b c) : newM fs a c := by
  intro j hj
  rcases h2 j hj with h | h
  · rcases h1 j h with h | h
    · exact .inl h
    · exact .inr fun x hx => (h x hx).mono hm
  · exact .inr h
end Go.Proofs.YtbmfpkpcljihgaaDoor.X
