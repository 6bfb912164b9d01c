/- Contracts of chapter 20 (maker): factories as plain data; conditions: none. -/
import Derived.Test.YtbmfpkpcljihgaaDoorAE
import Derived.Test.YtbmfpkpcljihgaaDoorA4p
namespace Go.Proofs.YtbmfpkpcljihgaaDoor.X
open Go Go.Proofs
set_option linter.unusedSimpArgs false
set_option linter.unusedVariables false
theorem splice_right : ∀ (m p l : List Value) (off : Nat), splice (p ++ l) (p.length + off) m = p ++ splice l off m
  | [], p, l, off => rfl
  | v :: m, p, l, off => by
    show splice ((p ++ l).set (p.length + off) v) (p.length + off + 1) m = p ++ splice (l.set off v) (off + 1) m
    rw [List.set_append_right _ _ (by omega), show p.length + off - p.length = off by omega, Nat.add_assoc]
    exact splice_right m p _ (off + 1)
theorem splice_leftF : ∀ (m l r : List Value) (off : Nat), off + m.length ≤ l.length → splice (l ++ r) off m = splice l off m ++ r
  | [], l, r, off, h => rfl
  | v :: m, l, r, off, h => by
    have h' : off + (m.length + 1) ≤ l.length := h
    show splice ((l ++ r).set off v) (off + 1) m = splice (l.set off v) (off + 1) m ++ r
    rw [List.set_append_left _ _ (by omega)]
    exact splice_leftF m (l.set off v) r (off + 1) (by rw [List.length_set]; omega)
/-- A part of one element is laid anew. -/
theorem fl_part {α : Type} (c : α → List Value) (sz : Nat) (hc : ∀ x, (c x).length = sz) (l : List α) (rest : List Value) (i off : Nat) (hi : i < l.length) (m : List Value) (ho : off + m.length ≤ sz) (x : α) (hx : c x = splice (c l[i]) off m) :
    splice (l.flatMap c ++ rest) (i * sz + off) m = (l.set i x).flatMap c ++ rest := by
  have hlen : ((l.take i).flatMap c).length = i * sz := by rw [fl_length c sz hc, List.length_take, Nat.min_eq_left (by omega)]
  have e1 := fl_split (c := c) l i hi
  have hi2 : i < (l.set i x).length := by rw [List.length_set]; exact hi
  have e2 := fl_split (c := c) (l.set i x) i hi2
  rw [List.getElem_set_self, List.take_set_of_le (Nat.le_refl i), List.drop_set_of_lt (Nat.lt_succ_self i)] at e2
  rw [e1, e2, List.append_assoc, List.append_assoc, ← hlen, splice_right, List.append_assoc, splice_leftF _ _ _ _ (by rw [hc]; exact ho), ← hx]
  simp
def pks (p : Nat → K) : List Value := (mk 6 p).flatMap K.l
/-- A factory's cells: whether it is sealed, its parts. -/
def onc (x : Bool × (Nat → K)) : List Value := .bool x.1 :: pks x.2
def mks (N : Nat) (sl : Nat → Bool) (pt : Nat → Nat → K) : List Value := (mk N fun i => (sl i, pt i)).flatMap onc
theorem pks_len (p : Nat → K) : (pks p).length = 30 := by rw [pks, fl_length K.l 5 Kl_len, mk_length]
theorem onc_len (x : Bool × (Nat → K)) : (onc x).length = 31 := by rw [onc, List.length_cons, pks_len]
theorem pks_scal (p : Nat → K) : (pks p).all scal = true := kl_scal _
theorem onc_scal (x : Bool × (Nat → K)) : (onc x).all scal = true := by rw [onc, List.all_cons, pks_scal]; rfl
section
variable {N : Nat} {sl : Nat → Bool} {pt : Nat → Nat → K} {rest : List Value}
theorem mks_len : (mks N sl pt).length = N * 31 := by rw [mks, fl_length onc 31 onc_len, mk_length]
theorem mks_sealed {i : Nat} (hi : i < N) : (mks N sl pt ++ rest)[0 + i * 31 + 0]? = some (.bool (sl i)) := by
  have := fl_get onc 31 onc_len (mk N fun i => (sl i, pt i)) rest i 0 (by rw [mk_length]; exact hi) (by decide)
  rw [mk_get] at this
  rw [show 0 + i * 31 + 0 = i * 31 + 0 by omega]; exact this
theorem mks_row {i : Nat} (hi : i < N) : ((mks N sl pt ++ rest).drop (0 + i * 31 + 1)).take 30 = pks (pt i) := by
  have := fl_take onc 31 onc_len (mk N fun i => (sl i, pt i)) rest i (by rw [mk_length]; exact hi)
  rw [mk_get] at this
  have h2 : ((mks N sl pt ++ rest).drop (0 + i * 31 + 1)).take 30 = (((mks N sl pt ++ rest).drop (i * 31)).take 31).drop 1 := by
    rw [List.drop_take, List.drop_drop, show 0 + i * 31 + 1 = i * 31 + 1 by omega]
  rw [h2]
  show (((mks N sl pt ++ rest).drop (i * 31)).take 31).drop 1 = _
  unfold mks
  rw [this]; rfl
theorem mks_parts {i : Nat} (hi : i < N) : takeK 30 ((mks N sl pt ++ rest).drop (0 + i * 31 + 1)) some = some (pks (pt i)) := by
  rw [takeK_run 30 _ _ (by rw [List.length_drop, List.length_append, mks_len]; omega), mks_row hi]
theorem mks_put {i off : Nat} (hi : i < N) (m : List Value) (ho : off + m.length ≤ 31) (s : Bool) (p : Nat → K) (hx : onc (s, p) = splice (onc (sl i, pt i)) off m) :
    splice (mks N sl pt ++ rest) (0 + i * 31 + off) m = mks N (fun j => if j = i then s else sl j) (fun j => if j = i then p else pt j) ++ rest := by
  have := fl_part onc 31 onc_len (mk N fun i => (sl i, pt i)) rest i off (by rw [mk_length]; exact hi) m ho (s, p) (by rw [mk_get]; exact hx)
  rw [mk_set] at this
  rw [show 0 + i * 31 + off = i * 31 + off by omega]
  unfold mks
  rw [this]
  congr 2
  refine mk_congr fun j _ => ?_
  by_cases e : j = i
  · simp [e]
  · simp [e]
theorem mks_seal {i : Nat} (hi : i < N) (s : Bool) : (mks N sl pt ++ rest).set (0 + i * 31 + 0) (.bool s) = mks N (fun j => if j = i then s else sl j) pt ++ rest := by
  have := mks_put (rest := rest) (sl := sl) (pt := pt) (off := 0) hi [.bool s] (by show 0 + 1 ≤ 31; decide) s (pt i) rfl
  have e : (fun j => if j = i then pt i else pt j) = pt := by
    funext j; by_cases h : j = i
    · rw [if_pos h, h]
    · rw [if_neg h]
  rw [e] at this
  exact this
theorem mks_zero {i : Nat} (hi : i < N) : splice (mks N sl pt ++ rest) (0 + i * 31) (onc (false, fun _ => K.void)) = mks N (fun j => if j = i then false else sl j) (fun j => if j = i then (fun _ => K.void) else pt j) ++ rest := by
  refine mks_put (off := 0) hi (onc (false, fun _ => K.void)) (by rw [onc_len]; decide) _ _ ?_
  have := splice_app (onc (false, fun _ => K.void)) [] (onc (sl i, pt i)) (by rw [onc_len, onc_len]; exact Nat.le_refl _)
  rw [List.nil_append, List.nil_append, List.length_nil, List.drop_of_length_le (by rw [onc_len, onc_len]; exact Nat.le_refl _), List.append_nil] at this
  exact this.symm
theorem mks_part {i k : Nat} (hi : i < N) (hk : k < 6) (x : K) : splice (mks N sl pt ++ rest) (0 + i * 31 + 1 + k * 5) x.l = mks N sl (fun j => if j = i then (fun c => if c = k then x else pt i c) else pt j) ++ rest := by
  have := mks_put (rest := rest) (sl := sl) (pt := pt) (off := 1 + k * 5) hi x.l (by show _ + 5 ≤ 31; omega) (sl i) (fun c => if c = k then x else pt i c) (by
    have h1 := splice_right x.l [.bool (sl i)] (pks (pt i)) (k * 5)
    have h2 := fl_splice K.l 5 Kl_len (mk 6 (pt i)) k (by rw [mk_length]; exact hk) x
    rw [mk_set] at h2
    show Value.bool (sl i) :: pks _ = splice ([Value.bool (sl i)] ++ pks (pt i)) ([Value.bool (sl i)].length + k * 5) x.l
    rw [h1]
    unfold pks
    rw [h2]; rfl)
  have e : (fun j => if j = i then sl i else sl j) = sl := by
    funext j; by_cases h : j = i
    · rw [if_pos h, h]
    · rw [if_neg h]
  rw [e] at this
  rw [show 0 + i * 31 + 1 + k * 5 = 0 + i * 31 + (1 + k * 5) by omega]
  exact this
theorem mks_repl (n : Nat) : repl n (onc (false, fun _ => K.void)) = mks n (fun _ => false) (fun _ _ => K.void) := by
  rw [mks, ← mk_rep]
  induction n with
  | zero => rfl
  | succ n ih => rw [repl, ih, List.replicate_succ (n := n), List.flatMap_cons]
theorem slr_pks {As : List HP} {b : Nat} {E : TypeId} (p : Nat → K) : SlR (blk b E (pks p) :: As) (.slice (some ⟨b, 0, none⟩) 6 6) 5 6 (pks p) := by
  have := SlR.of_blk (As := As) (b := b) (E := E) (r := []) (n := 6) (cap := 6) (sz := 5) (c := pks p) (pks_len _) (Nat.le_refl _)
  rwa [List.append_nil] at this
theorem pks_over (p q : Nat → K) : splice (pks p) 0 (pks q) = pks q := by
  have := splice_app (pks q) [] (pks p) (by rw [pks_len, pks_len]; exact Nat.le_refl _)
  rw [List.nil_append, List.nil_append, List.length_nil] at this
  rw [this, List.drop_of_length_le (by rw [pks_len, pks_len]; exact Nat.le_refl _), List.append_nil]
end
end Go.Proofs.YtbmfpkpcljihgaaDoor.X
