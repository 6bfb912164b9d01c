/- Contracts of chapter 13 (queue), the queue as memory of its own; conditions: none. -/
import Derived.Test.YtbmfpkpcljihgaaDoorA13q
import Derived.Test.YtbmfpkpcljihgaaDoorGB
--AUTODROP
namespace Go.Proofs.YtbmfpkpcljihgaaDoor.X
open Go Go.Proofs
set_option linter.unusedSimpArgs false
set_option linter.unusedVariables false
attribute [local irreducible] CW OpsW RetW Spec blk snap DrawP AnyW AnyM AnyN bits IntKind.wrap vec
def ivec (a : Option Addr) (cap : Nat) (l : List Int) : HP := vec 3 a l.length cap 1 (l.map (.int .i64))
def queue (b : Nat) (l : List Int) : HP := fun h => ∃ a : Option Addr, ∃ cap : Nat, star (blk b 120 [.slice a l.length cap]) (ivec a cap l) h
section
variable {z w : World} {Rs : List HP} {b : Nat} {l : List Int}
theorem queue_open (H : Sat z w (queue b l :: Rs)) : ∃ a cap, Sat z w (blk b 120 [.slice a l.length cap] :: ivec a cap l :: Rs) := by
  obtain ⟨a, H⟩ := H.ex
  obtain ⟨cap, H⟩ := H.ex
  exact ⟨a, cap, H.split⟩
theorem queue_close {a : Option Addr} {cap : Nat} (H : Sat z w (blk b 120 [.slice a l.length cap] :: ivec a cap l :: Rs)) : Sat z w (queue b l :: Rs) :=
  H.join.imp fun h e => ⟨a, cap, e⟩
theorem queue_make {a : Option Addr} {cap n : Nat} {c : List Value} {E : TypeId} {v : Value} (H : Sat z w (blk b 120 [v] :: vec E a n cap 1 c :: Rs)) (hE : E = 3) (hv : v = .slice a n cap) (hn : n = l.length) (hc : c = l.map (.int .i64)) : Sat z w (queue b l :: Rs) := by
  subst hE hv hn hc; exact queue_close H
theorem queue_new {cap : Nat} {a : Option Addr} (H : Sat z w (blk b 120 [.slice none 0 0] :: Rs)) : Sat z w (queue b [] :: Rs) :=
  queue_close (l := []) (a := none) (cap := 0) ((Sat.vnil (E := 3) (sz := 1) H).perm (.swap _ _ _))
theorem queue_has (H : Sat z w (queue b l :: Rs)) (x : Int) (hl : l.length ≤ 9223372036854775807) :
    Spec cf 54 #[.pointer (some ⟨b, 0, none⟩), .int .i64 x] w fun e w' => e = .bool (l.contains x) ∧ Sat z w' (queue b l :: Rs) := by
  obtain ⟨a, cap, H⟩ := queue_open H
  obtain ⟨T, hT, hS, H⟩ := (H.perm (.swap _ _ _)).vopen
  refine (qhas_ l (H.perm (.swap _ _ _)) x hl (hS _)).mono ?_
  rintro _ w' ⟨rfl, H⟩
  exact ⟨rfl, queue_close (((H.perm (.swap _ _ _)).imp hT).perm (.swap _ _ _))⟩
def puts (q l : List Int) : List Int := l.foldl (fun q x => if q.contains x then q else q ++ [x]) q
theorem puts_take (l m : List Int) (i : Nat) (h : i < m.length) : puts l (m.take (i + 1)) = if (puts l (m.take i)).contains m[i] then puts l (m.take i) else puts l (m.take i) ++ [m[i]] := by
  rw [List.take_succ_eq_append_getElem h, puts, List.foldl_append]; rfl
theorem puts_len (l m : List Int) : ∀ i, i ≤ m.length → l.length ≤ (puts l (m.take i)).length ∧ (puts l (m.take i)).length ≤ l.length + i := by
  intro i
  induction i with
  | zero => intro _; simp [puts]
  | succ i ih =>
    intro h
    have := ih (by omega)
    rw [puts_take l m i h]
    split
    · omega
    · simp; omega
set_option maxRecDepth 20000 in
theorem queue_put (H : Sat z w (queue b l :: Rs)) (m : List Int) (v : Value) (hm : l.length + m.length ≤ 1000000) (hv : SlR Rs v 1 m.length (m.map (.int .i64))) :
    Spec cf 56 #[.pointer (some ⟨b, 0, none⟩), v] w fun e w' => e = .int .i64 ((puts l m).length - l.length : Nat) ∧ Sat z w' (queue b (puts l m) :: Rs) := by
  obtain ⟨a, cap, rfl⟩ := lenW hv
  refine enter (l := [.pointer (some ⟨b, 0, none⟩), .slice a m.length cap]) Tryd.func56 rfl rfl rfl rfl rfl ?_
  repeat' (first | (refine zA ?_; first | refine zB ?_ | refine zC H ?_ | refine zD H ?_ | refine zE H fun _ _ H => ?_ | refine zF H fun _ _ H => ?_ | refine zG H fun _ H => ?_ | refine zH H fun _ H => ?_) | (refine zI ?_; first | refine zJ ?_ | refine zK ?_ | refine zL ?_ | refine zM ?_ | refine zN ?_ | refine zO ?_ | refine zP ?_ | refine zQ ?_ | refine zR ?_) | refine zS ?_)
  have hlen : ∀ i, i ≤ m.length → l.length ≤ (puts l (m.take i)).length ∧ (puts l (m.take i)).length ≤ l.length + i := puts_len l m
  refine CW.loopF (X := Nat) (fun j => Nat.beq j 5 || Nat.beq j 6 || Nat.beq j 7 || Nat.ble 10 j) (fun i => [(10, .int .i64 (i : Int)), (5, .int .i64 ((puts l (m.take i)).length - l.length : Nat))]) (fun i w => i ≤ m.length ∧ Sat z w (queue b (puts l (m.take i)) :: Rs)) (fun i => m.length - i) 0 ⟨rfl, ae rfl (by simp [puts]), trivial⟩ ⟨Nat.zero_le _, H⟩ ?_
  rintro i τ w ⟨hi, H⟩
  have hli := hlen i hi
  repeat' (first | (refine zA ?_; first | refine zB ?_ | refine zC H ?_ | refine zD H ?_ | refine zE H fun _ _ H => ?_ | refine zF H fun _ _ H => ?_ | refine zG H fun _ H => ?_ | refine zH H fun _ H => ?_) | (refine zI ?_; first | refine zJ ?_ | refine zK ?_ | refine zL ?_ | refine zM ?_ | refine zN ?_ | refine zO ?_ | refine zP ?_ | refine zQ ?_ | refine zR ?_) | refine zS ?_)
  refine CW.cond rfl (fun h => ?_) (fun h => ?_)
  · have hi' : i < m.length := by simpa using h
    have hx : (m.map (Value.int .i64))[i]? = some (.int .i64 m[i]) := by simp [hi']
    repeat' (first | (refine zA ?_; first | refine zB ?_ | refine zC H ?_ | refine zD H ?_ | refine zE H fun _ _ H => ?_ | refine zF H fun _ _ H => ?_ | refine zG H fun _ H => ?_ | refine zH H fun _ H => ?_) | (refine zI ?_; first | refine zJ ?_ | refine zK ?_ | refine zL ?_ | refine zM ?_ | refine zN ?_ | refine zO ?_ | refine zP ?_ | refine zQ ?_ | refine zR ?_) | refine zS ?_)
    refine OpsW.ixld H hv.tail rfl (fun _ => rfl) rfl rfl rfl rfl rfl rfl rfl rfl hi' hx rfl rfl fun p => ?_
    repeat' (first | (refine zA ?_; first | refine zB ?_ | (refine OpsW.goCall ?_; first | (refine OpsW.call rfl rfl rfl (queue_has H m[i] (by omega)) ?_; rintro _ w ⟨rfl, H⟩)) | refine zC H ?_ | refine zD H ?_ | refine zE H fun _ _ H => ?_ | refine zF H fun _ _ H => ?_ | refine zG H fun _ H => ?_ | refine zH H fun _ H => ?_) | (refine zI ?_; first | refine zJ ?_ | refine zK ?_ | refine zL ?_ | refine zM ?_ | refine zN ?_ | refine zO ?_ | refine zP ?_ | refine zQ ?_ | refine zR ?_) | refine zS ?_)
    have e1 := puts_take l m i hi'
    have hli1 := hlen (i + 1) hi'
    generalize puts l (m.take i) = q at *
    refine CW.cond rfl (fun h5 => ?_) (fun h5 => ?_)
    · obtain ⟨a1, cap1, H⟩ := queue_open H
      rw [if_neg (by simpa using h5)] at e1
      repeat' (first | (refine zA ?_; first | refine zB ?_ | refine zC H ?_ | refine zD H ?_ | refine zE H fun _ _ H => ?_ | refine zF H fun _ _ H => ?_ | refine zG H fun _ H => ?_ | refine zH H fun _ H => ?_) | (refine zI ?_; first | refine zJ ?_ | refine zK ?_ | refine zL ?_ | refine zM ?_ | refine zN ?_ | refine zO ?_ | refine zP ?_ | refine zQ ?_ | refine zR ?_) | refine zS ?_)
      refine OpsW.bsl H rfl rfl rfl rfl rfl rfl rfl rfl fun bb w H => ?_
      repeat' (first | (refine zA ?_; first | refine zB ?_ | refine zC H ?_ | refine zD H ?_ | refine zE H fun _ _ H => ?_ | refine zF H fun _ _ H => ?_ | refine zG H fun _ H => ?_ | refine zH H fun _ H => ?_) | (refine zI ?_; first | refine zJ ?_ | refine zK ?_ | refine zL ?_ | refine zM ?_ | refine zN ?_ | refine zO ?_ | refine zP ?_ | refine zQ ?_ | refine zR ?_) | refine zS ?_)
      refine OpsW.vapp (n2 := 1) (c2 := [.int .i64 m[i]]) H (pS (pS p0)) (SlR.of_blk (r := []) rfl (Nat.le_refl 1)) rfl (by omega) (by omega) rfl rfl rfl rfl rfl rfl rfl rfl rfl fun a2 cap2 w H => ?_
      repeat' (first | (refine zA ?_; first | refine zB ?_ | refine zC H ?_ | refine zD H ?_ | refine zE H fun _ _ H => ?_ | refine zF H fun _ _ H => ?_ | refine zG H fun _ H => ?_ | refine zH H fun _ H => ?_) | (refine zI ?_; first | refine zJ ?_ | refine zK ?_ | refine zL ?_ | refine zM ?_ | refine zN ?_ | refine zO ?_ | refine zP ?_ | refine zQ ?_ | refine zR ?_) | refine zS ?_)
      have hq : (puts l (m.take (i + 1))).length = q.length + 1 := by rw [e1]; simp
      refine ⟨i + 1, (by (repeat (first | (with_reducible exact Agree.refl _ _) | (with_reducible refine Agree.trim (by assumption) ?_) | refine Agree.upd ?_ rfl | exact Agree.mix' | refine Agree.mixL ?_ (fun j h => by simp only [Bool.or_eq_true, Bool.and_eq_true, Nat.beq_eq, Nat.ble_eq] at h ⊢; omega) rfl))), ⟨nat_succ hi' (by omega), ae rfl ?_, trivial⟩, ⟨hi', queue_make (((H.perm (pS (pS p0))).drop)) rfl rfl hq.symm (by rw [e1]; simp)⟩, by omega⟩
      rw [wrap64_id (by omega) (by omega), hq]; congr 1; omega
    · rw [if_pos (by simpa using h5)] at e1
      repeat' (first | (refine zA ?_; first | refine zB ?_ | refine zC H ?_ | refine zD H ?_ | refine zE H fun _ _ H => ?_ | refine zF H fun _ _ H => ?_ | refine zG H fun _ H => ?_ | refine zH H fun _ H => ?_) | (refine zI ?_; first | refine zJ ?_ | refine zK ?_ | refine zL ?_ | refine zM ?_ | refine zN ?_ | refine zO ?_ | refine zP ?_ | refine zQ ?_ | refine zR ?_) | refine zS ?_)
      refine ⟨i + 1, (by (repeat (first | (with_reducible exact Agree.refl _ _) | (with_reducible refine Agree.trim (by assumption) ?_) | refine Agree.upd ?_ rfl | exact Agree.mix' | refine Agree.mixL ?_ (fun j h => by simp only [Bool.or_eq_true, Bool.and_eq_true, Nat.beq_eq, Nat.ble_eq] at h ⊢; omega) rfl))), ⟨nat_succ hi' (by omega), ae rfl (by rw [e1]), trivial⟩, ⟨hi', by rw [e1]; exact H⟩, by omega⟩
  · have : i = m.length := by simp at h; omega
    subst this
    rw [List.take_length] at *
    repeat' (first | (refine zA ?_; first | refine zB ?_ | refine zC H ?_ | refine zD H ?_ | refine zE H fun _ _ H => ?_ | refine zF H fun _ _ H => ?_ | refine zG H fun _ H => ?_ | refine zH H fun _ H => ?_) | (refine zI ?_; first | refine zJ ?_ | refine zK ?_ | refine zL ?_ | refine zM ?_ | refine zN ?_ | refine zO ?_ | refine zP ?_ | refine zQ ?_ | refine zR ?_) | refine zS ?_)
    exact ret1 rfl ⟨rfl, by (first | exact H | exact H.drop | exact H.d2 | exact H.d3 | exact H.d4 | exact H.d5 | exact H.d6 | exact H.d7)⟩
end
section
theorem del_splice {l : List Value} {rest zs : List Value} {k : Nat} (hk : k < l.length) (hz : zs.length = 1) :
    ∃ rest' : List Value, splice (splice (l ++ rest) k (l.drop (k + 1))) (l.length - 1) zs = (l.take k ++ l.drop (k + 1)) ++ rest' ∧ rest'.length = rest.length + 1 := by
  have h1 : splice (l ++ rest) k (l.drop (k + 1)) = l.take k ++ l.drop (k + 1) ++ (l.drop k ++ rest).drop (l.drop (k + 1)).length := by
    have e : l ++ rest = l.take k ++ (l.drop k ++ rest) := by rw [← List.append_assoc, List.take_append_drop]
    have ek : k = (l.take k).length := by simp; omega
    have := splice_app (l.drop (k + 1)) (l.take k) (l.drop k ++ rest) (by simp; omega)
    rw [← ek] at this
    rw [e]; exact this
  have h2 : l.length - 1 = (l.take k ++ l.drop (k + 1)).length := by simp; omega
  have hl : ((l.drop k ++ rest).drop (l.drop (k + 1)).length).length = rest.length + 1 := by simp; omega
  rw [h1, h2]
  generalize (l.drop k ++ rest).drop (l.drop (k + 1)).length = r at *
  rw [splice_app zs _ r (by omega)]
  refine ⟨zs ++ r.drop zs.length, by simp, ?_⟩
  simp; omega
set_option maxRecDepth 20000 in
theorem del_ {z w : World} {Rs : List HP} {a : Option Addr} {cap : Nat} {l : List Int} (H : Sat z w (ivec a cap l :: Rs)) (k : Nat) (hk : k < l.length) (hl : l.length ≤ 1000000) :
    Spec cf 87 #[.slice a l.length cap, .int .i64 k, .int .i64 (k + 1 : Nat)] w fun e w' => e = .slice a (l.length - 1) cap ∧ Sat z w' (ivec a cap (l.eraseIdx k) :: Rs) := by
  refine enter (l := [.slice a l.length cap, .int .i64 k, .int .i64 (k + 1 : Nat)]) Tryd.func87 rfl rfl rfl rfl rfl ?_
  have hcap := H.vlen.2
  rcases H.vcases with ⟨b, rest, ⟨rfl, hc, hr, -⟩, H2⟩ | ⟨⟨rfl, h0, -, -⟩, -⟩
  case inr => omega
  replace H := H2
  clear H2
  repeat' (first | (refine zA ?_; first | refine zB ?_ | refine zC H ?_ | refine zD H ?_ | refine zE H fun _ _ H => ?_ | refine zF H fun _ _ H => ?_ | refine zG H fun _ H => ?_ | refine zH H fun _ H => ?_) | (refine zI ?_; first | refine zJ ?_ | refine zK ?_ | refine zL ?_ | refine zM ?_ | refine zN ?_ | refine zO ?_ | refine zP ?_ | refine zQ ?_ | refine zR ?_) | refine zS ?_)
  refine OpsW.slc3 (k := k) (j := k + 1) (m := l.length) rfl rfl rfl rfl rfl rfl rfl rfl rfl rfl rfl (by omega) (by omega) hcap rfl ?_
  repeat' (first | (refine zA ?_; first | refine zB ?_ | refine zC H ?_ | refine zD H ?_ | refine zE H fun _ _ H => ?_ | refine zF H fun _ _ H => ?_ | refine zG H fun _ H => ?_ | refine zH H fun _ H => ?_) | (refine zI ?_; first | refine zJ ?_ | refine zK ?_ | refine zL ?_ | refine zM ?_ | refine zN ?_ | refine zO ?_ | refine zP ?_ | refine zQ ?_ | refine zR ?_) | refine zS ?_)
  refine CW.cond rfl (fun h => absurd h (by simp; omega)) (fun _ => ?_)
  repeat' (first | (refine zA ?_; first | refine zB ?_ | refine zC H ?_ | refine zD H ?_ | refine zE H fun _ _ H => ?_ | refine zF H fun _ _ H => ?_ | refine zG H fun _ H => ?_ | refine zH H fun _ H => ?_) | (refine zI ?_; first | refine zJ ?_ | refine zK ?_ | refine zL ?_ | refine zM ?_ | refine zN ?_ | refine zO ?_ | refine zP ?_ | refine zQ ?_ | refine zR ?_) | refine zS ?_)
  have hS : SlR (blk b 3 (l.map (.int .i64) ++ rest) :: Rs) (.slice (some ⟨b, 0, none⟩) l.length cap) 1 l.length (l.map (.int .i64)) := SlR.of_blk hc hcap
  have hS2 := hS.from_ (k := k + 1) (by omega)
  (first | refine CW.drawN mo H fun w H => ?_ | refine CW.seqDrawN mo H fun w H => ?_)
  repeat' (first | refine AnyN.take (i := 0) rfl rfl rfl (by decide +kernel) ?_ | refine AnyN.take (i := 1) rfl rfl rfl (by decide +kernel) ?_ | refine AnyN.take (i := 2) rfl rfl rfl (by decide +kernel) ?_ | refine AnyN.take (i := 3) rfl rfl rfl (by decide +kernel) ?_ | refine AnyN.take (i := 4) rfl rfl rfl (by decide +kernel) ?_ | refine AnyN.take (i := 5) rfl rfl rfl (by decide +kernel) ?_ | refine AnyN.take (i := 6) rfl rfl rfl (by decide +kernel) ?_ | refine AnyN.take (i := 7) rfl rfl rfl (by decide +kernel) ?_ | refine AnyN.take (i := 8) rfl rfl rfl (by decide +kernel) ?_ | refine AnyN.take (i := 9) rfl rfl rfl (by decide +kernel) ?_ | refine AnyN.take (i := 10) rfl rfl rfl (by decide +kernel) ?_ | refine AnyN.take (i := 11) rfl rfl rfl (by decide +kernel) ?_ | refine AnyN.take (i := 12) rfl rfl rfl (by decide +kernel) ?_ | refine AnyN.take (i := 13) rfl rfl rfl (by decide +kernel) ?_ | refine AnyN.take (i := 14) rfl rfl rfl (by decide +kernel) ?_ | refine AnyN.take (i := 15) rfl rfl rfl (by decide +kernel) ?_ | refine AnyN.take (i := 16) rfl rfl rfl (by decide +kernel) ?_ | refine AnyN.take (i := 17) rfl rfl rfl (by decide +kernel) ?_ | refine AnyN.take (i := 18) rfl rfl rfl (by decide +kernel) ?_ | refine AnyN.take (i := 19) rfl rfl rfl (by decide +kernel) ?_ | refine AnyN.take (i := 20) rfl rfl rfl (by decide +kernel) ?_ | refine AnyN.take (i := 21) rfl rfl rfl (by decide +kernel) ?_ | refine AnyN.take (i := 22) rfl rfl rfl (by decide +kernel) ?_ | refine AnyN.take (i := 23) rfl rfl rfl (by decide +kernel) ?_ | refine AnyN.take (i := 24) rfl rfl rfl (by decide +kernel) ?_ | refine AnyN.take (i := 25) rfl rfl rfl (by decide +kernel) ?_ | refine AnyN.take (i := 26) rfl rfl rfl (by decide +kernel) ?_ | refine AnyN.take (i := 27) rfl rfl rfl (by decide +kernel) ?_)
  repeat' (first | exact AllI.nil' rfl | refine AllI.cons' rfl rfl ?_ ?_ | refine AnyN.step rfl rfl ?_ | (first | (refine zA ?_; first | refine zB ?_ | refine zC H ?_ | refine zD H ?_ | refine zE H fun _ _ H => ?_ | refine zF H fun _ _ H => ?_ | refine zG H fun _ H => ?_ | refine zH H fun _ H => ?_) | (refine zI ?_; first | refine zJ ?_ | refine zK ?_ | refine zL ?_ | refine zM ?_ | refine zN ?_ | refine zO ?_ | refine zP ?_ | refine zQ ?_ | refine zR ?_) | refine zS ?_) | refine OpsW.slcT (k := k) rfl rfl rfl rfl rfl rfl (by omega) rfl ?_ | refine OpsW.slcF (k := k + 1) rfl rfl rfl rfl rfl rfl rfl (by omega) hcap rfl ?_ | refine OpsW.appIn H p0 hS2 (by rw [List.all_eq_true]; intro x hx; obtain ⟨y, _, rfl⟩ := List.mem_map.1 (List.mem_of_mem_drop hx); rfl) (by omega) (by simp; omega) rfl rfl rfl rfl rfl rfl rfl fun w H => ?_)
  all_goals
    refine AnyN.done rfl ?_
    repeat' (first | (refine zA ?_; first | refine zB ?_ | refine zC H ?_ | refine zD H ?_ | refine zE H fun _ _ H => ?_ | refine zF H fun _ _ H => ?_ | refine zG H fun _ H => ?_ | refine zH H fun _ H => ?_) | (refine zI ?_; first | refine zJ ?_ | refine zK ?_ | refine zL ?_ | refine zM ?_ | refine zN ?_ | refine zO ?_ | refine zP ?_ | refine zQ ?_ | refine zR ?_) | refine zS ?_)
    refine OpsW.slcFT (k := k + (l.length - (k + 1))) (j := l.length) rfl rfl rfl rfl rfl rfl rfl rfl rfl (by omega) hcap rfl ?_
    have hd : (if cap = k + (l.length - (k + 1)) then (some ⟨b, 0, none⟩ : Option Addr) else (some (⟨b, 0, none⟩ : Addr)).map (·.add ((k + (l.length - (k + 1))) * 1))) = some ⟨b, l.length - 1, none⟩ := by
      rw [if_neg (by omega)]
      simp only [Option.map_some, add_off]
      congr 2; omega
    have hkk : k + (l.length - (k + 1)) = l.length - 1 := by omega
    refine OpsW.clr (sz := 1) (off := l.length - 1) (n := l.length - (k + (l.length - (k + 1)))) H p0 (fun _ => ?_) rfl (congrArg (fun a => Value.slice a _ _) hd) rfl rfl rfl rfl rfl fun w zs hz1 hz2 H => ?_
    · rw [splice_length, List.length_append, List.length_map]; omega
    repeat' (first | (refine zA ?_; first | refine zB ?_ | refine zC H ?_ | refine zD H ?_ | refine zE H fun _ _ H => ?_ | refine zF H fun _ _ H => ?_ | refine zG H fun _ H => ?_ | refine zH H fun _ H => ?_) | (refine zI ?_; first | refine zJ ?_ | refine zK ?_ | refine zL ?_ | refine zM ?_ | refine zN ?_ | refine zO ?_ | refine zP ?_ | refine zQ ?_ | refine zR ?_) | refine zS ?_)
    obtain ⟨rest', e1, e2⟩ := del_splice (l := l.map (.int .i64)) (rest := rest) (zs := zs) (k := k) (by simpa using hk) (by rw [hz1]; omega)
    refine ret1 (v := .slice (some ⟨b, 0, none⟩) (k + (l.length - (k + 1))) cap) rfl ⟨by rw [hkk], ?_⟩
    refine Sat.imp H fun h e => ?_
    have el : (l.eraseIdx k).length = l.length - 1 := List.length_eraseIdx_of_lt hk
    unfold ivec
    rw [el, List.eraseIdx_eq_take_drop_succ, List.map_append, List.map_take, List.map_drop]
    refine vec_blk (rest := rest') ?_ ?_ ?_ ?_
    · rw [← e1]
      rw [List.length_map] 
      have e0 : 0 + k * 1 = k := by omega
      have e00 : (k + 1) * 1 = k + 1 := by omega
      rw [e0, e00] at e
      exact e
    · rw [← List.map_take, ← List.map_drop, ← List.map_append, ← List.eraseIdx_eq_take_drop_succ, List.length_map, el]; omega
    · rw [e2, hr]; omega
    · omega
end
end Go.Proofs.YtbmfpkpcljihgaaDoor.X
