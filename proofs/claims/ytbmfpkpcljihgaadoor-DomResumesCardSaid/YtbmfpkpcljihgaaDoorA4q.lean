/- Contracts of chapter 4 (arena) for places told by their numbers; conditions: none. -/
import Derived.Test.YtbmfpkpcljihgaaDoorA4p
--AUTODROP
namespace Go.Proofs.YtbmfpkpcljihgaaDoor.X
open Go Go.Proofs
set_option linter.unusedSimpArgs false
set_option linter.unusedVariables false
attribute [local irreducible] CW OpsW RetW Spec blk snap DrawP AnyW AnyM AnyN bits IntKind.wrap vec arena
def onN (N : Nat) (f : Nat → Pl) (id : Int) : Bool := decide (0 ≤ id) && (decide (id < N) && (f id.toNat).there)
theorem onN_eq {N : Nat} {f : Nat → Pl} {id : Int} : (decide (0 ≤ id) && ((mk N f).getD id.toNat Pl.z).there) = onN N f id := by
  unfold onN
  by_cases h : 0 ≤ id
  · obtain ⟨k, rfl⟩ := Int.eq_ofNat_of_zero_le h
    rw [show (k : Int).toNat = k from rfl]
    by_cases hk : k < N
    · rw [mk_getD hk, decide_eq_true (show (k : Int) < N by omega)]; simp
    · rw [mk_getD_out (by omega), decide_eq_false (show ¬ (k : Int) < N by omega)]; simp
  · simp [h]
theorem onN_nat {N : Nat} {f : Nat → Pl} {k : Nat} (h : k < N) : onN N f k = (f k).there := by
  unfold onN
  rw [decide_eq_true (show (k : Int) < N by omega), show (k : Int).toNat = k from rfl]; simp
theorem onN_at {N : Nat} {f : Nat → Pl} {id : Int} (h : onN N f id = true) : ∃ k : Nat, id = k ∧ k < N ∧ (f k).there = true := by
  unfold onN at h
  simp only [Bool.and_eq_true, decide_eq_true_eq] at h
  obtain ⟨k, rfl⟩ := Int.eq_ofNat_of_zero_le h.1
  exact ⟨k, rfl, by omega, h.2.2⟩
section
variable {z w : World} {Rs : List HP} {ba N : Nat} {f : Nat → Pl}
theorem arenaN_new (h1 : 1 ≤ N) (h2 : N ≤ 256) (H : Sat z w Rs) :
    Spec cf 51 #[.int .i64 N] w fun e w' => ∃ ba, e = .tuple #[.pointer (some ⟨ba, 0, none⟩), .nilIface] ∧ Sat z w' (arena ba (mk N fun _ => Pl.z) :: Rs) :=
  (arena_new N h1 h2 H).mono fun _ _ ⟨ba, h, H⟩ => ⟨ba, h, by rw [← mk_rep]; exact H⟩
theorem arenaN_there (H : Sat z w (arena ba (mk N f) :: Rs)) (hN : N ≤ 256) (id : Int) :
    Spec cf 53 #[.pointer (some ⟨ba, 0, none⟩), .int .i64 id] w fun r w' => r = .bool (onN N f id) ∧ Sat z w' (arena ba (mk N f) :: Rs) := by
  have := arena_there H (by rw [mk_length]; exact hN) id
  rw [onN_eq] at this; exact this
theorem arenaN_there_at (H : Sat z w (arena ba (mk N f) :: Rs)) (hN : N ≤ 256) (k : Nat) (hk : k < N) (b : Bool) (hb : (f k).there = b) :
    Spec cf 53 #[.pointer (some ⟨ba, 0, none⟩), .int .i64 k] w fun r w' => r = .bool b ∧ Sat z w' (arena ba (mk N f) :: Rs) := by
  have := arenaN_there H hN k
  rw [onN_nat hk, hb] at this; exact this
theorem arenaN_take (H : Sat z w (arena ba (mk N f) :: Rs)) (hN : N ≤ 256) {te : TypeId} {ve : Value} (hE : GlobV Rs 3 (.iface te ve)) (q : Nat) (hq : q < N) (h1 : (f q).free = true) (h2 : ∀ j, j < q → (f j).free = false) :
    Spec cf 52 #[.pointer (some ⟨ba, 0, none⟩)] w fun r w' => r = .tuple #[.int .i64 q, .int .i64 (f q).ver, .nilIface] ∧ Sat z w' (arena ba (mk N fun j => if j = q then (f q).take else f j) :: Rs) := by
  have := arena_take H (by rw [mk_length]; exact hN) hE
  rw [mk_find hq h1 h2] at this
  simp only [mk_getD hq] at this
  rw [mk_set] at this
  exact this
theorem arenaN_give (H : Sat z w (arena ba (mk N f) :: Rs)) (hN : N ≤ 256) (i : Nat) (hi : i < N) (ht : (f i).there = true) :
    Spec cf 61 #[.pointer (some ⟨ba, 0, none⟩), .int .i64 i] w fun r w' => r = .nilIface ∧ Sat z w' (arena ba (mk N fun j => if j = i then (f i).give else f j) :: Rs) := by
  have hi' : i < (mk N f).length := by rw [mk_length]; exact hi
  have := arena_give H (by rw [mk_length]; exact hN) i hi' (by rw [mk_get]; exact ht)
  rw [mk_get, mk_set] at this
  exact this
end
/-- So many places that are taken, one behind the other. -/
def mF (c j : Nat) : Pl := if j < c then ⟨true, 0, false⟩ else Pl.z
theorem mF_lt {c j : Nat} (h : j < c) : mF c j = ⟨true, 0, false⟩ := if_pos h
theorem mF_ge {c j : Nat} (h : c ≤ j) : mF c j = Pl.z := if_neg (by omega)
theorem mF_up {c : Nat} : (fun j => if j = c then (mF c c).take else mF c j) = mF (c + 1) := by
  funext j
  by_cases e : j = c
  · subst e; rw [if_pos rfl, mF_ge (Nat.le_refl _), mF_lt (by omega)]; rfl
  · rw [if_neg e]; unfold mF
    by_cases h : j < c
    · rw [if_pos h, if_pos (by omega)]
    · rw [if_neg h, if_neg (by omega)]
end Go.Proofs.YtbmfpkpcljihgaaDoor.X
