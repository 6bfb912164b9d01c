/- The law MemReadOnly of chapter 11, walked; conditions: none. -/
import Derived.Test.YtnfefbhjdncccaaDoorA11
import Derived.Test.YtnfefbhjdncccaaDoorA9x
import Derived.Test.YtnfefbhjdncccaaDoorR2
namespace Go.Proofs.YtnfefbhjdncccaaDoor.X
open Go Go.Proofs
set_option linter.unusedSimpArgs false
set_option linter.unusedVariables false
/-- A walk that ends well ends at a word that is there. -/
theorem wk_has {s : St} : ∀ (n : Nat) (above : Int) (k : K) (addr : Int) (ro : Bool) (ns : List Int), 0 ≤ above → above < n → 0 ≤ addr → (s.wk n above k addr ro ns).2.1 = 0 → s.hasP (s.wk n above k addr ro ns).1.page (s.wk n above k addr ro ns).1.at_ = true
  | 0, above, _, _, _, _, h0, hn, _, _ => by omega
  | n + 1, above, k, addr, ro, ns, h0, hn, ha, hf => by
    unfold St.wk at hf ⊢
    by_cases h1 : k.mem = false ∨ s.live k = false
    · rw [if_pos h1] at hf; exact absurd hf (by show ¬ (2 = 0); decide)
    rw [if_neg h1] at hf ⊢
    by_cases h2 : above ≤ k.hgt
    · rw [if_pos h2] at hf; exact absurd hf (by show ¬ (5 = 0); decide)
    rw [if_neg h2] at hf ⊢
    by_cases h3 : psz k.hgt ≤ addr
    · rw [if_pos h3] at hf; exact absurd hf (by show ¬ (3 = 0); decide)
    rw [if_neg h3] at hf ⊢
    by_cases h4 : k.kind = 3
    · rw [if_pos h4]
      have hl : s.live k = true := by
        cases h : s.live k
        · exact absurd (.inr h) h1
        · rfl
      unfold St.live liveAt at hl
      rw [if_neg (by omega), if_pos h4, Bool.and_eq_true] at hl
      have hz : psz k.hgt = 32 := by unfold K.hgt; rw [if_pos h4]; rfl
      show s.hasP k.id addr = true
      unfold St.hasP
      rw [hl.1, Bool.true_and, Bool.and_eq_true]
      exact ⟨decide_eq_true ha, decide_eq_true (by omega)⟩
    rw [if_neg h4] at hf ⊢
    have hm : k.mem = true := by
      cases e : k.mem
      · exact absurd (.inl e) h1
      · rfl
    have hd : 1 ≤ k.hgt := by
      unfold K.mem at hm; unfold K.hgt
      rw [if_neg h4]
      simp [h4] at hm
      omega
    exact wk_has n k.hgt _ _ _ _ (by omega) (by omega) (Int.emod_nonneg _ (by have := psz_pos (k.hgt - 1); omega)) hf
theorem walk_has {s : St} {k : K} {addr : Int} (ha : 0 ≤ addr) (hf : (s.walk k addr).2.1 = 0) : s.hasP (s.walk k addr).1.page (s.walk k addr).1.at_ = true := wk_has 6 5 k addr false [] (by decide) (by decide) ha hf
attribute [local irreducible] CW OpsW RetW Spec blk snap DrawP AnyW AnyM AnyN bits IntKind.wrap vec arena kds nds wds pgs eA nodesP pagesP cacheP wns St.walk St.put St.find mcP St.load St.save St.saveS
end Go.Proofs.YtnfefbhjdncccaaDoor.X
