/- What an argument that reads as data is, in the engine's words: numbers, keys, slices; conditions: none. -/
import Derived.Test.YtbmfpkpcljihgaaDoorGB
import Derived.Deep.Slices
import Derived.Deep.Fields
import Derived.ChangeSame
import Derived.ProofKit
import Derived.OpenShut
import Derived.ChangeOld
namespace Go.Proofs.YtbmfpkpcljihgaaDoor.X
open Go Go.ChangeShapes Go.WideShapes Go.Deep Go.RowKit
set_option linter.unusedSimpArgs false
set_option linter.unusedVariables false
theorem flat_get {sz : Nat} : ∀ (rows : List (List Value)), (∀ r ∈ rows, r.length = sz) → ∀ (i k : Nat), k < sz → rows.flatten[i * sz + k]? = (rows[i]?.getD [])[k]? := by
  intro rows
  induction rows with
  | nil => intro _ i k _; simp
  | cons r rows ih =>
    intro h i k hk
    have hr := h r (List.mem_cons_self ..)
    cases i with
    | zero => simp only [List.flatten_cons, Nat.zero_mul, Nat.zero_add, List.getElem?_cons_zero, Option.getD_some]; rw [List.getElem?_append_left (by omega)]
    | succ i =>
      simp only [List.flatten_cons, List.getElem?_cons_succ]
      rw [List.getElem?_append_right (by rw [Nat.succ_mul]; omega), ← ih (fun r hr => h r (List.mem_cons_of_mem _ hr)) i k hk]
      congr 1
      rw [Nat.succ_mul]; omega
theorem flat_length {sz : Nat} : ∀ (rows : List (List Value)), (∀ r ∈ rows, r.length = sz) → rows.flatten.length = rows.length * sz := by
  intro rows
  induction rows with
  | nil => intro _; simp
  | cons r rows ih =>
    intro h
    rw [List.flatten_cons, List.length_append, ih (fun r hr => h r (List.mem_cons_of_mem _ hr)), h r (List.mem_cons_self ..), List.length_cons, Nat.succ_mul]; omega

section
variable {H : Type} {enc : TypeId × Value → H} {P : Program} {w : World} {base : Nat} {spare : Nat → Bool} {held : Bool}
theorem open_sl {t e : TypeId} {E : List Value → Prop} {sz : Nat} {a : Option Addr} {n cap : Nat} {d : DataW H} {p : List MemPlace} (ht : P.underlying t = some (.slice e)) (hC : P.cellsOf e = sz) (h0 : 0 < sz)
    (hE : ∀ n cs x, cs.length = sz → DataW.trod enc P w base spare held n e cs = some x → E cs) (h : DataW.Trod enc P w base spare held t (.slice a n cap) d p) :
    n ≤ maxLen ∧ ∃ rows : List (List Value), rows.length = n ∧ (∀ r ∈ rows, E r) ∧ (∀ r ∈ rows, r.length = sz) ∧ SlR [snap w] (.slice a n cap) sz n rows.flatten := by
  obtain ⟨fuel, hf⟩ := h
  rcases open_slice ht hf with ⟨hcs, _⟩ | ⟨x, len, cp, m, k, D, Pl, hcs, hb, hl, hm, hmm, hx, hi⟩
  · simp [Value.cells] at hcs
    obtain ⟨rfl, rfl, rfl⟩ := hcs
    exact ⟨by unfold maxLen; omega, [], rfl, by simp, by simp, by simpa using SlR.nil_⟩
  · simp [Value.cells] at hcs
    obtain ⟨rfl, rfl, rfl⟩ := hcs
    have hnm : n ≤ m := by rw [hmm]; split <;> omega
    have hch : ∀ i, ∃ cs : List Value, i < n → cs.length = sz ∧ E cs ∧ ∀ j, j < sz → w.cell? ((x.add (i * sz)).add j) = cs[j]? := by
      intro i
      by_cases h : i < n
      · obtain ⟨cs, h1, h2⟩ := hi i (by omega)
        rw [hC] at h1
        obtain ⟨_, h3, h4⟩ := World.cells?_some h1
        exact ⟨cs, fun _ => ⟨h3, hE _ _ _ h3 h2, h4⟩⟩
      · exact ⟨[], fun h' => absurd h' h⟩
    obtain ⟨f, hch'⟩ := Classical.axiomOfChoice hch
    refine ⟨by omega, (List.range n).map f, by simp, ?_, ?_, ?_⟩
    · intro r hr
      obtain ⟨i, hi, rfl⟩ := List.mem_map.1 hr
      exact (hch' i (List.mem_range.1 hi)).2.1
    · intro r hr
      obtain ⟨i, hi, rfl⟩ := List.mem_map.1 hr
      exact (hch' i (List.mem_range.1 hi)).1
    · have hlen : ∀ r ∈ (List.range n).map f, r.length = sz := by
        intro r hr
        obtain ⟨i, hi, rfl⟩ := List.mem_map.1 hr
        exact (hch' i (List.mem_range.1 hi)).1
      refine ⟨by rw [flat_length _ hlen]; simp, some x, cap, rfl, hl, ?_⟩
      by_cases hn : n = 0
      · exact .inl hn
      right
      obtain ⟨b, off, spot⟩ := x
      have hz := hch' 0 (by omega)
      have hz0 := hz.2.2 0 h0
      rw [List.getElem?_eq_getElem (by omega)] at hz0
      simp only [Nat.zero_mul, Addr.add, if_true] at hz0
      have hblk : ∃ m E fr, w.heap[b]? = some (.cells m E fr) ∧ spot = none := by
        unfold World.cell? at hz0
        split at hz0
        · rename_i c e' fr hh
          refine ⟨_, _, _, hh, ?_⟩
          split at hz0
          · cases hz0
          · rename_i hs; simpa using hs
        · cases hz0
      obtain ⟨mm, E', fr, hh, rfl⟩ := hblk
      refine ⟨b, off, mm, E', fr, rfl, Has.of_snap hh, fun j hj => ?_⟩
      have hjd : j / sz < n := (Nat.div_lt_iff_lt_mul h0).2 hj
      have hjm : j % sz < sz := Nat.mod_lt _ h0
      have hj2 := (hch' (j / sz) hjd).2.2 (j % sz) hjm
      rw [add_off, add_off, cell_blk hh] at hj2
      have e1 : off + j / sz * sz + j % sz = off + j := by
        have := Nat.div_add_mod j sz
        rw [Nat.mul_comm] at this; omega
      rw [e1] at hj2
      rw [hj2]
      have e2 : j = j / sz * sz + j % sz := by
        have := Nat.div_add_mod j sz
        rw [Nat.mul_comm] at this; omega
      conv => rhs; rw [e2]
      rw [flat_get _ hlen _ _ hjm]
      simp [hjd]
/-- Whole numbers, one behind the other. -/
theorem ints_of {k : IntKind} : ∀ {rows : List (List Value)}, (∀ r ∈ rows, ∃ n, r = [Value.int k n] ∧ (Lit.int k n).wf = true) → ∃ l : List Int, l.length = rows.length ∧ rows.flatten = l.map (.int k) ∧ ∀ n ∈ l, (Lit.int k n).wf = true := by
  intro rows
  induction rows with
  | nil => intro _; exact ⟨[], rfl, rfl, by simp⟩
  | cons r rows ih =>
    intro h
    obtain ⟨n, e, hw⟩ := h r (List.mem_cons_self ..)
    obtain ⟨l, h1, h2, h3⟩ := ih (fun r hr => h r (List.mem_cons_of_mem _ hr))
    refine ⟨n :: l, by simp [h1], by simp [e, h2], ?_⟩
    intro m hm
    rcases List.mem_cons.1 hm with rfl | hm
    · exact hw
    · exact h3 m hm
theorem open_sl_ints {t e : TypeId} {k : IntKind} {a : Option Addr} {n cap : Nat} {d : DataW H} {p : List MemPlace} (ht : P.underlying t = some (.slice e)) (he : P.underlying e = some (.int k)) (hC : P.cellsOf e = 1)
    (h : DataW.Trod enc P w base spare held t (.slice a n cap) d p) :
    n ≤ maxLen ∧ ∃ l : List Int, l.length = n ∧ (∀ m ∈ l, (Lit.int k m).wf = true) ∧ SlR [snap w] (.slice a n cap) 1 n (l.map (.int k)) := by
  obtain ⟨h1, rows, h2, h3, _, h4⟩ := open_sl (E := fun r => ∃ n, r = [Value.int k n] ∧ (Lit.int k n).wf = true) ht hC (by decide) (fun n cs x _ hx => by
    obtain ⟨m, e1, _, e3⟩ := DataW.trod_int he hx; exact ⟨m, e1, e3⟩) h
  obtain ⟨l, e1, e2, e3⟩ := ints_of h3
  exact ⟨h1, l, by rw [e1, h2], e3, e2 ▸ h4⟩
end
end Go.Proofs.YtbmfpkpcljihgaaDoor.X
