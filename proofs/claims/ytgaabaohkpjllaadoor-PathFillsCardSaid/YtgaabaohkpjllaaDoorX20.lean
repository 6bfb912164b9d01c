/- The engine of this seat's proofs, part 20: rows of rows; conditions: none. -/
import Derived.Test.YtgaabaohkpjllaaDoorX19
namespace Go.Proofs.YtgaabaohkpjllaaDoor.X
open Go
set_option linter.unusedSimpArgs false
set_option linter.unusedVariables false
theorem mk_add {α : Type} (n m : Nat) (g : Nat → α) : mk (n + m) g = mk n g ++ mk m fun i => g (n + i) := by
  rw [mk, List.range_add, List.map_append, List.map_map]; rfl
theorem mk_rows {α : Type} (N M : Nat) (hM : 0 < M) (f : Nat → Nat → α) : (mk N f).flatMap (fun p => mk M p) = mk (N * M) fun m => f (m / M) (m % M) := by
  induction N with
  | zero => rw [Nat.zero_mul]; rfl
  | succ N ih =>
    rw [mk_add, List.flatMap_append, ih, Nat.succ_mul, mk_add]
    congr 1
    show (mk 1 fun i => f (N + i)).flatMap (fun p => mk M p) = _
    rw [show (mk 1 fun i => f (N + i)) = [f N] from rfl, List.flatMap_cons, List.flatMap_nil, List.append_nil]
    refine mk_congr fun i hi => ?_
    rw [Nat.add_comm, Nat.add_mul_div_right _ _ hM, Nat.div_eq_of_lt hi, Nat.zero_add, Nat.add_mul_mod_self_right, Nat.mod_eq_of_lt hi]
theorem fl_spliceR {α : Type} (c : α → List Value) (sz : Nat) (hc : ∀ x, (c x).length = sz) (l : List α) (rest : List Value) (i : Nat) (hi : i < l.length) (x : α) : splice (l.flatMap c ++ rest) (i * sz) (c x) = (l.set i x).flatMap c ++ rest := by
  have h1 : ((l.take i).flatMap c).length = i * sz := by rw [fl_length c sz hc, List.length_take, Nat.min_eq_left (by omega)]
  rw [fl_split c l i hi, ← List.append_assoc, List.append_assoc _ _ rest, ← h1, splice_mid _ _ _ _ (by rw [hc, hc])]
  rw [List.set_eq_take_append_cons_drop, if_pos hi, List.flatMap_append, List.flatMap_cons, List.append_assoc, List.append_assoc, List.append_assoc]
theorem takeK_run {β : Type} : ∀ (n : Nat) (l : List Value) (k : List Value → Option β), n ≤ l.length → takeK n l k = k (l.take n)
  | 0, _, k, _ => by simp [takeK]
  | n + 1, [], _, h => by simp at h
  | n + 1, a :: r, k, h => by simp only [takeK, force_eq]; rw [takeK_run n r _ (by simpa using h)]; rfl
end Go.Proofs.YtgaabaohkpjllaaDoor.X
