/- The plain law of chapter 10: what a walk finds depends on its nodes alone; conditions: none. -/
import Derived.Test.YtnfefbhjdncccaaDoorA10c
import Derived.Test.YtnfefbhjdncccaaDoorR0
import Derived.Test.YtnfefbhjdncccaaDoorAN
namespace Go.Proofs.YtnfefbhjdncccaaDoor.X
open Go Go.Proofs
set_option linter.unusedSimpArgs false
set_option linter.unusedVariables false
theorem wk_len (s : St) : ∀ (n : Nat) (above : Int) (k : K) (addr : Int) (ro : Bool) (ns : List Int), (s.wk n above k addr ro ns).2.2.length ≤ ns.length + n
  | 0, _, _, _, _, ns => Nat.le_refl _
  | n + 1, above, k, addr, ro, ns => by
    unfold St.wk
    split
    · exact Nat.le_add_right _ _
    · split
      · exact Nat.le_add_right _ _
      · split
        · exact Nat.le_add_right _ _
        · split
          · exact Nat.le_add_right _ _
          · have := wk_len s n k.hgt (s.key k.id (addr / psz (k.hgt - 1))) (addr % psz (k.hgt - 1)) (ro || bits .and .i64 k.rights 5 != 0) (ns ++ [k.id])
            rw [List.length_append, List.length_singleton] at this
            omega
/-- All words of a page are found alike. -/
theorem wk_page {s : St} : ∀ (n : Nat) (above : Int) (k : K) (addr addr' : Int) (ro : Bool) (ns : List Int), 0 ≤ above → above < n → 0 ≤ addr → 0 ≤ addr' → addr / 32 = addr' / 32 → (s.wk n above k addr ro ns).2.1 = 0 →
    s.wk n above k addr' ro ns = ({ (s.wk n above k addr ro ns).1 with at_ := addr' % 32 }, 0, (s.wk n above k addr ro ns).2.2)
  | 0, above, _, _, _, _, _, h0, hn, _, _, _, _ => by omega
  | n + 1, above, k, addr, addr', ro, ns, h0, hn, ha, ha', he, hf => by
    unfold St.wk at hf ⊢
    by_cases h1 : k.mem = false ∨ s.live k = false
    · rw [if_pos h1] at hf; exact absurd hf (by show ¬ (2 = 0); decide)
    rw [if_neg h1] at hf ⊢
    rw [if_neg h1]
    by_cases h2 : above ≤ k.hgt
    · rw [if_pos h2] at hf; exact absurd hf (by show ¬ (5 = 0); decide)
    rw [if_neg h2] at hf ⊢
    rw [if_neg h2]
    by_cases h3 : psz k.hgt ≤ addr
    · rw [if_pos h3] at hf; exact absurd hf (by show ¬ (3 = 0); decide)
    rw [if_neg h3] at hf
    have hm : k.mem = true := by
      cases e : k.mem
      · exact absurd (.inl e) h1
      · rfl
    have h3' : ¬ psz k.hgt ≤ addr' := by
      have : psz k.hgt = 32 ∨ psz k.hgt = 512 ∨ psz k.hgt = 8192 ∨ psz k.hgt = 131072 ∨ psz k.hgt = 2097152 := by
        unfold psz; (repeat' split) <;> simp
      omega
    rw [if_neg h3', if_neg h3]
    by_cases h4 : k.kind = 3
    · rw [if_pos h4, if_pos h4]
      have : psz k.hgt = 32 := by unfold K.hgt; rw [if_pos h4]; rfl
      show ((⟨k.id, addr', _⟩ : Plc), (0 : Nat), ns) = ((⟨k.id, addr' % 32, _⟩ : Plc), (0 : Nat), ns)
      rw [show addr' % 32 = addr' by omega]
    rw [if_neg h4] at hf
    rw [if_neg h4, if_neg h4]
    have hd : k.hgt = 1 ∨ k.hgt = 2 ∨ k.hgt = 3 ∨ k.hgt = 4 := by
      unfold K.mem at hm; unfold K.hgt
      rw [if_neg h4]
      simp [h4] at hm
      omega
    have hq : addr / psz (k.hgt - 1) = addr' / psz (k.hgt - 1) ∧ addr % psz (k.hgt - 1) / 32 = addr' % psz (k.hgt - 1) / 32 ∧ addr' % psz (k.hgt - 1) % 32 = addr' % 32 ∧ 0 ≤ addr % psz (k.hgt - 1) ∧ 0 ≤ addr' % psz (k.hgt - 1) := by
      rcases hd with h | h | h | h
      · rw [h, show psz ((1 : Int) - 1) = 32 from rfl]; omega
      · rw [h, show psz ((2 : Int) - 1) = 512 from rfl]; omega
      · rw [h, show psz ((3 : Int) - 1) = 8192 from rfl]; omega
      · rw [h, show psz ((4 : Int) - 1) = 131072 from rfl]; omega
    have := wk_page (s := s) n k.hgt (s.key k.id (addr / psz (k.hgt - 1))) (addr % psz (k.hgt - 1)) (addr' % psz (k.hgt - 1)) (ro || bits .and .i64 k.rights 5 != 0) (ns ++ [k.id]) (by omega) (by omega) hq.2.2.2.1 hq.2.2.2.2 hq.2.1 hf
    rw [← hq.1, this, hq.2.2.1]
theorem walk_page {s : St} {k : K} {addr addr' : Int} (ha : 0 ≤ addr) (ha' : 0 ≤ addr') (he : addr / 32 = addr' / 32) (hf : (s.walk k addr).2.1 = 0) :
    s.walk k addr' = ({ (s.walk k addr).1 with at_ := addr' % 32 }, 0, (s.walk k addr).2.2) :=
  wk_page 6 5 k addr addr' false [] (by decide) (by decide) ha ha' he hf
/-- Each way that is remembered is what a walk finds. -/
def good (s : St) (ws : List Wy) : Prop := ∀ x ∈ ws, x.ns.length ≤ 6 ∧ ∀ addr, 0 ≤ addr → addr / 32 = x.page → s.walk x.root addr = ({ x.to with at_ := addr % 32 }, 0, x.ns)
theorem good_nil (s : St) : good s [] := fun x h => absurd h List.not_mem_nil
theorem find_good {s : St} {size : Int} {ws : List Wy} {k : K} {addr : Int} (h : good s ws) (ha : 0 ≤ addr) (hs : 1 ≤ size) (hw : (ws.length : Int) ≤ size) :
    (s.find size ws k addr).1 = (if (s.walk k addr).2.1 = 0 then (s.walk k addr).1 else Plc.z) ∧ (s.find size ws k addr).2.1 = (s.walk k addr).2.1 ∧ good s (s.find size ws k addr).2.2.1 ∧ ((s.find size ws k addr).2.2.1.length : Int) ≤ size ∧ (0 ≤ (s.find size ws k addr).2.2.2 ∧ (s.find size ws k addr).2.2.2 ≤ 1) := by
  unfold St.find
  cases hf : ws.find? (fun x => x.page == addr / 32 && x.root.same k) with
  | some x =>
    have hx := List.mem_of_find?_eq_some hf
    have hp := List.find?_some hf
    rw [Bool.and_eq_true, beq_iff_eq] at hp
    have hr : x.root = k := (K.same_iff _ _).1 hp.2
    have := (h x hx).2 addr ha hp.1.symm
    rw [hr] at this
    dsimp only
    rw [this]
    exact ⟨rfl, rfl, h, hw, by decide, by decide⟩
  | none =>
    dsimp only
    by_cases h0 : (s.walk k addr).2.1 = 0
    · rw [if_neg (fun e => e h0), if_pos h0]
      refine ⟨rfl, h0.symm, ?_, ?_, Int.le_refl 0, Int.zero_le_ofNat 1⟩
      · intro x hx
        rcases List.mem_append.1 hx with hx | hx
        · refine h x ?_
          split at hx
          · exact List.mem_of_mem_tail hx
          · exact hx
        · rw [List.mem_singleton.1 hx]
          refine ⟨?_, fun addr' ha' he => walk_page ha ha' he.symm h0⟩
          have := wk_len s 6 5 k addr false []
          exact this
      · rw [List.length_append, List.length_singleton]
        split
        · rw [List.length_tail]; omega
        · omega
    · rw [if_pos h0, if_neg h0]
      exact ⟨rfl, rfl, h, hw, Int.le_refl 0, Int.zero_le_ofNat 1⟩
theorem walk_bad {s : St} : ∀ (n : Nat) (above : Int) (k : K) (addr : Int) (ro : Bool) (ns : List Int), (s.wk n above k addr ro ns).2.1 ≠ 0 → (s.wk n above k addr ro ns).1 = Plc.z
  | 0, _, _, _, _, _, h => absurd rfl h
  | n + 1, above, k, addr, ro, ns, h => by
    unfold St.wk at h ⊢
    split
    · rfl
    · rename_i h1
      rw [if_neg h1] at h
      split
      · rfl
      · rename_i h2
        rw [if_neg h2] at h
        split
        · rfl
        · rename_i h3
          rw [if_neg h3] at h
          split
          · rename_i h4
            rw [if_pos h4] at h
            exact absurd rfl h
          · rename_i h4
            rw [if_neg h4] at h
            exact walk_bad n _ _ _ _ _ h
theorem find_walk {s : St} {size : Int} {ws : List Wy} {k : K} {addr : Int} (h : good s ws) (ha : 0 ≤ addr) (hs : 1 ≤ size) (hw : (ws.length : Int) ≤ size) : (s.find size ws k addr).1 = (s.walk k addr).1 := by
  rw [(find_good h ha hs hw).1]
  split
  · rfl
  · rename_i h0
    exact (walk_bad 6 5 k addr false [] h0).symm
end Go.Proofs.YtnfefbhjdncccaaDoor.X
