/- The plain laws of chapter 12 (meter): chains that go down by one; conditions: none. -/
import Derived.Test.YtdeaaokdhiefbaaDoorA12
namespace Go.Proofs.YtdeaaokdhiefbaaDoor.X
open Go Go.Proofs
set_option linter.unusedSimpArgs false
set_option linter.unusedVariables false
def dwn (m : Nat) : List Int := (List.range m).reverse.map fun n : Nat => (n : Int)
theorem dwn_succ (m : Nat) : dwn (m + 1) = (m : Int) :: dwn m := by
  rw [dwn, List.range_succ, List.reverse_append]; rfl
theorem dwn_len (m : Nat) : (dwn m).length = m := by simp [dwn]
theorem chn_down {N M : Nat} {f : Nat → Pl} {g : Nat → On} (hf : ∀ j, j < M → (f j).there = true) (hg : ∀ j, j < M → (g j).par = (j : Int) - 1) (hM : M ≤ N) : ∀ m k, m ≤ M → m ≤ k → chn N f g k ((m : Int) - 1) = dwn m := by
  intro m
  induction m with
  | zero => intro k _ _; exact chn_off (onN_neg (by omega))
  | succ m ih =>
    intro k h1 h2
    obtain ⟨k, rfl⟩ : ∃ k', k = k' + 1 := ⟨k - 1, by omega⟩
    have e : ((m + 1 : Nat) : Int) - 1 = (m : Int) := by omega
    rw [e, chn, onN_nat (by omega), hf m (by omega), if_pos rfl, show (m : Int).toNat = m from rfl, hg m (by omega), ih k (by omega) (by omega), dwn_succ]
theorem dwn_find_none {p : Int → Bool} {m : Nat} (h : ∀ j, j < m → p (j : Int) = false) : (dwn m).find? p = none := by
  rw [List.find?_eq_none]
  intro x hx
  obtain ⟨j, hj, rfl⟩ := List.mem_map.1 hx
  rw [h j (by simpa using hj)]; simp
theorem dwn_find {p : Int → Bool} {a : Nat} (h1 : p (a : Int) = true) : ∀ m, a < m → (∀ j, a < j → j < m → p (j : Int) = false) → (dwn m).find? p = some (a : Int) := by
  intro m
  induction m with
  | zero => intro h; omega
  | succ m ih =>
    intro ha h
    rw [dwn_succ]
    by_cases e : a = m
    · subst e; rw [List.find?_cons_of_pos h1]
    · rw [List.find?_cons_of_neg (by rw [h m (by omega) (by omega)]; simp)]
      exact ih (by omega) fun j h1 h2 => h j h1 (by omega)
theorem dwn_sub {t : Int} : ∀ (m : Nat) (g : Nat → On), (dwn m).foldl (sub t) g = fun j => if j < m then ⟨(g j).par, IntKind.wrap .i64 ((g j).tck - t)⟩ else g j := by
  intro m
  induction m with
  | zero => intro g; simp [dwn]
  | succ m ih =>
    intro g
    rw [dwn_succ, List.foldl_cons, ih]
    funext j
    unfold sub
    rw [show (m : Int).toNat = m from rfl]
    by_cases e : j = m
    · subst e; rw [if_neg (Nat.lt_irrefl _), if_pos rfl, if_pos (by omega)]
    · rw [if_neg e]
      by_cases h : j < m
      · rw [if_pos h, if_pos (by omega)]
      · rw [if_neg h, if_neg (by omega)]
/-- The least so far, and where it was last. -/
def lst (t : Nat → Int) : Nat → Int × Int
  | 0 => (1073741824, -1)
  | i + 1 => if t i ≤ (lst t i).1 then (t i, i) else lst t i
theorem lst_spec {t : Nat → Int} (h0 : ∀ j, 0 ≤ t j ∧ t j < 40) : ∀ i, 0 < i → ∃ a : Nat, a < i ∧ lst t i = (t a, (a : Int)) ∧ (∀ j, j < i → t a ≤ t j) ∧ ∀ j, a < j → j < i → t a < t j := by
  intro i
  induction i with
  | zero => intro h; omega
  | succ i ih =>
    intro _
    rw [lst]
    by_cases hi : i = 0
    · subst hi
      have := h0 0
      rw [if_pos (show t 0 ≤ (lst t 0).1 by show t 0 ≤ (1073741824 : Int); omega)]
      exact ⟨0, by omega, rfl, fun j hj => by rw [show j = 0 by omega]; omega, fun j h1 h2 => by omega⟩
    · obtain ⟨a, ha, e, h1, h2⟩ := ih (by omega)
      rw [e]
      dsimp only
      split
      · rename_i h
        refine ⟨i, by omega, rfl, fun j hj => ?_, fun j h3 h4 => by omega⟩
        by_cases hj' : j = i
        · subst hj'; omega
        · have := h1 j (by omega); omega
      · rename_i h
        refine ⟨a, by omega, rfl, fun j hj => ?_, fun j h3 h4 => ?_⟩
        · by_cases hj' : j = i
          · subst hj'; omega
          · exact h1 j (by omega)
        · by_cases hj' : j = i
          · subst hj'; omega
          · exact h2 j h3 (by omega)
/-- So many meters, one behind the other. -/
def mF (c j : Nat) : Pl := if j < c then ⟨true, 0, false⟩ else Pl.z
def mG (par tck : Nat → Int) (c j : Nat) : On := if j < c then ⟨par j, tck j⟩ else On.z
theorem mF_lt {c j : Nat} (h : j < c) : mF c j = ⟨true, 0, false⟩ := if_pos h
theorem mF_ge {c j : Nat} (h : c ≤ j) : mF c j = Pl.z := if_neg (by omega)
theorem mG_lt {par tck : Nat → Int} {c j : Nat} (h : j < c) : mG par tck c j = ⟨par j, tck j⟩ := if_pos h
theorem mF_up {c : Nat} : (fun j => if j = c then (mF c c).take else mF c j) = mF (c + 1) := by
  funext j
  by_cases e : j = c
  · subst e; rw [if_pos rfl, mF_ge (Nat.le_refl _), mF_lt (by omega)]; rfl
  · rw [if_neg e]; unfold mF
    by_cases h : j < c
    · rw [if_pos h, if_pos (by omega)]
    · rw [if_neg h, if_neg (by omega)]
theorem mG_up {par tck : Nat → Int} {c : Nat} : (fun j => if j = c then (⟨par c, tck c⟩ : On) else mG par tck c j) = mG par tck (c + 1) := by
  funext j
  by_cases e : j = c
  · subst e; rw [if_pos rfl, mG_lt (by omega)]
  · rw [if_neg e]; unfold mG
    by_cases h : j < c
    · rw [if_pos h, if_pos (by omega)]
    · rw [if_neg h, if_neg (by omega)]
theorem mG_congr {p q t u : Nat → Int} {c : Nat} (h : ∀ j, j < c → p j = q j ∧ t j = u j) : mG p t c = mG q u c := by
  funext j
  unfold mG
  by_cases e : j < c
  · rw [if_pos e, if_pos e, (h j e).1, (h j e).2]
  · rw [if_neg e, if_neg e]
section
variable {z w : World} {Rs : List HP} {bm ba b N c : Nat} {par tck : Nat → Int}
theorem make_up (H : Sat z w (blk bm 89 [.pointer (some ⟨ba, 0, none⟩), .slice (some ⟨b, 0, none⟩) N N] :: arena ba (mk N (mF c)) :: blk b 112 (ons N (mG par tck c)) :: Rs)) (hN : N ≤ 256) {te : TypeId} {ve : Value} (hE : GlobV Rs 1 (.iface te ve)) (hc : c < N) (p t : Int) (hp : p = -1 ∨ 0 ≤ p ∧ p < c) (h0 : 0 ≤ t) (h1 : t ≤ 2147483647) (hn : (chn N (mF c) (mG par tck c) (N + 1) p).length < 8) (e1 : par c = p) (e2 : tck c = t) :
    Spec cf 49 #[.pointer (some ⟨bm, 0, none⟩), .int .i64 p, .int .i64 t] w fun e w' => e = .tuple #[.int .i64 c, .int .i64 0, .nilIface] ∧ Sat z w' (blk bm 89 [.pointer (some ⟨ba, 0, none⟩), .slice (some ⟨b, 0, none⟩) N N] :: arena ba (mk N (mF (c + 1))) :: blk b 112 (ons N (mG par tck (c + 1))) :: Rs) := by
  have hp' : p = -1 ∨ onN N (mF c) p = true := by
    rcases hp with h | ⟨h, h2⟩
    · exact .inl h
    · obtain ⟨k, rfl⟩ := Int.eq_ofNat_of_zero_le h
      exact .inr (by rw [onN_nat (by omega), mF_lt (by omega)])
  have hf : (mF c c).free = true := by rw [mF_ge (Nat.le_refl _)]; decide
  have hb : ∀ j, j < c → (mF c j).free = false := fun j hj => by rw [mF_lt hj]; decide
  have := make_ H hN hE p t hp' h0 h1 hn c hc hf hb
  rw [mF_up, ← e1, ← e2, mG_up, mF_ge (Nat.le_refl _)] at this
  rw [← e1, ← e2]
  exact this
end
end Go.Proofs.YtdeaaokdhiefbaaDoor.X
