/- Contracts of chapter 6 (node); conditions: none. -/
import Derived.Test.YtnfefbhjdncccaaDoorSE
import Derived.Test.YtnfefbhjdncccaaDoorAK
import Derived.Test.YtnfefbhjdncccaaDoorGC
--AUTODROP
namespace Go.Proofs.YtnfefbhjdncccaaDoor.X
open Go Go.Proofs
set_option linter.unusedSimpArgs false
set_option linter.unusedVariables false
attribute [local irreducible] CW OpsW RetW Spec blk snap DrawP AnyW AnyM AnyN bits IntKind.wrap vec arena
theorem Kl_len (k : K) : k.l.length = 5 := rfl
/-- The keys of a node, laid. -/
def kds (p : Nat → K) : List Value := (mk 16 p).flatMap K.l
def nds (N : Nat) (nd : Nat → Nat → K) : List Value := (mk N nd).flatMap kds
theorem kds_len (p : Nat → K) : (kds p).length = 80 := by rw [kds, fl_length K.l 5 Kl_len, mk_length]
theorem kl_scal (l : List K) : (l.flatMap K.l).all scal = true := by
  rw [List.all_eq_true]; intro x hx
  obtain ⟨k, _, hk⟩ := List.mem_flatMap.1 hx
  simp only [K.l, List.mem_cons, List.not_mem_nil, or_false] at hk
  rcases hk with rfl | rfl | rfl | rfl | rfl <;> rfl
theorem kds_scal (p : Nat → K) : (kds p).all scal = true := kl_scal _
section
variable {N : Nat} {nd : Nat → Nat → K} {rest : List Value}
theorem nds_len : (nds N nd).length = N * 80 := by rw [nds, fl_length kds 80 kds_len, mk_length]
theorem nds_flat : nds N nd = (mk (N * 16) fun m => nd (m / 16) (m % 16)).flatMap K.l := by
  rw [nds, ← mk_rows N 16 (by decide), List.flatMap_assoc]; rfl
theorem nds_key {j i : Nat} (hj : j < N) (hi : i < 16) : ((nds N nd ++ rest).drop (0 + j * 80 + i * 5)).take 5 = (nd j i).l := by
  have := fl_take K.l 5 Kl_len (mk (N * 16) fun m => nd (m / 16) (m % 16)) rest (j * 16 + i) (by rw [mk_length]; omega)
  rw [mk_get, show (j * 16 + i) / 16 = j by omega, show (j * 16 + i) % 16 = i by omega] at this
  rw [nds_flat, show 0 + j * 80 + i * 5 = (j * 16 + i) * 5 by omega]
  exact this
theorem nds_set {j i : Nat} (hj : j < N) (hi : i < 16) (k : K) : splice (nds N nd) (0 + j * 80 + i * 5) k.l = nds N fun a => if a = j then (fun b => if b = i then k else nd j b) else nd a := by
  have := fl_splice K.l 5 Kl_len (mk (N * 16) fun m => nd (m / 16) (m % 16)) (j * 16 + i) (by rw [mk_length]; omega) k
  rw [nds_flat, nds_flat, show 0 + j * 80 + i * 5 = (j * 16 + i) * 5 by omega, this, mk_set]
  congr 1
  refine mk_congr fun m hm => ?_
  by_cases e : m = j * 16 + i
  · rw [if_pos e, if_pos (by omega), if_pos (by omega)]
  · rw [if_neg e]
    by_cases e2 : m / 16 = j
    · rw [if_pos e2, if_neg (by omega), e2]
    · rw [if_neg e2]
theorem nds_lay {j : Nat} (hj : j < N) (p : Nat → K) : splice (nds N nd) (0 + j * 80) (kds p) = nds N fun a => if a = j then p else nd a := by
  have := fl_splice kds 80 kds_len (mk N nd) j (by rw [mk_length]; exact hj) p
  rw [mk_set] at this
  rw [Nat.zero_add]; exact this
theorem nds_repl (n : Nat) : repl n (kds fun _ => K.void) = nds n fun _ _ => K.void := by
  rw [nds, ← mk_rep]
  induction n with
  | zero => rfl
  | succ n ih => rw [repl, ih, List.replicate_succ (n := n) (a := fun _ => K.void), List.flatMap_cons]
theorem kds_lay (l : List K) (h : l.length ≤ 16) : splice (kds fun _ => K.void) 0 (l.flatMap K.l) = kds fun i => l.getD i K.void := by
  obtain ⟨m, hm⟩ : ∃ m, l.length + m = 16 := ⟨16 - l.length, by omega⟩
  have hl5 : (l.flatMap K.l).length = l.length * 5 := fl_length K.l 5 Kl_len l
  have := splice_app (l.flatMap K.l) [] (kds fun _ => K.void) (by rw [kds_len, hl5]; omega)
  rw [List.nil_append, List.nil_append, List.length_nil] at this
  rw [this]
  have e0 : ∀ g : Nat → K, kds g = (mk l.length g).flatMap K.l ++ (mk m fun i => g (l.length + i)).flatMap K.l := fun g => by
    rw [kds, ← hm, mk_add, List.flatMap_append]
  have e1 : (mk l.length fun i => l.getD i K.void) = l := by
    apply List.ext_getElem
    · rw [mk_length]
    · intro i h1 h2; rw [mk_get]; simp [h2]
  rw [e0 fun i => l.getD i K.void, e1, e0 fun _ => K.void]
  congr 1
  have hl6 : ((mk l.length fun _ => K.void).flatMap K.l).length = (l.flatMap K.l).length := by rw [hl5, fl_length K.l 5 Kl_len, mk_length]
  rw [← hl6, List.drop_left]
  congr 1
  refine mk_congr fun i _ => ?_
  rw [List.getD_eq_getElem?_getD, List.getElem?_eq_none (by omega)]; rfl
theorem takeK_kds (p : Nat → K) : takeK 80 (kds p) some = some (kds p) := by
  rw [takeK_run 80 _ _ (by rw [kds_len]; exact Nat.le_refl _), List.take_of_length_le (by rw [kds_len]; exact Nat.le_refl _)]
theorem takeK_key {j i : Nat} (hj : j < N) (hi : i < 16) : takeK 5 ((nds N nd ++ rest).drop (0 + j * 80 + i * 5)) some = some (nd j i).l := by
  rw [takeK_run 5 _ _ (by rw [List.length_drop, List.length_append, nds_len]; omega), nds_key hj hi]
end
theorem zero16 : cf.T.zero.getD 68 [] = kds fun _ => K.void := by kernel_rfl
theorem zero16V : (cf.T.zeroV 68).cells.toList = kds fun _ => K.void := by kernel_rfl
attribute [local irreducible] kds nds
/-- What is amiss first with keys. -/
def fitE (l : List K) : Nat := match l.find? fun k => k.err != 0 with
  | some k => k.err
  | none => 0
theorem fit_at {l : List K} {i n : Nat} (hi : i < l.length) (h : l[i].err ≠ 0) (hne : ∀ j (hj : j < l.length), j < i → l[j].err = 0) (hn : l[i].err = n) : fitE l = n := by
  have : l.find? (fun k => k.err != 0) = some l[i] := by
    rw [List.find?_eq_some_iff_getElem]
    exact ⟨by simpa using h, i, hi, rfl, fun j hj => by rw [hne j (by omega) hj]; rfl⟩
  rw [fitE, this]; exact hn
section
variable {z w : World} {Rs : List HP} {bp ba b N : Nat} {f : Nat → Pl} {nd : Nat → Nat → K}
set_option maxRecDepth 20000 in
theorem node_new (h1 : 1 ≤ N) (h2 : N ≤ 256) (H : Sat z w Rs) :
    Spec cf 84 #[.int .i64 N] w fun e w' => ∃ bp ba b : Nat, e = .tuple #[.pointer (some ⟨bp, 0, none⟩), .nilIface] ∧ Sat z w' (blk bp 131 [.pointer (some ⟨ba, 0, none⟩), .slice (some ⟨b, 0, none⟩) N N] :: arena ba (mk N fun _ => Pl.z) :: blk b 68 (nds N fun _ _ => K.void) :: Rs) := by
  refine enter (l := [.int .i64 N]) Tryd.func84 rfl rfl rfl rfl rfl ?_
  repeat' (first | (refine zA ?_; first | refine zB ?_ | refine zC H ?_ | refine zD H ?_ | refine zE H fun _ _ H => ?_ | refine zF H fun _ _ H => ?_ | refine zG H fun _ H => ?_ | refine zH H fun _ H => ?_) | (refine zI ?_; first | refine zJ ?_ | refine zK ?_ | refine zL ?_ | refine zM ?_ | refine zN ?_ | refine zO ?_ | refine zP ?_ | refine zQ ?_ | refine zR ?_) | refine zS ?_)
  refine OpsW.call rfl rfl rfl (arenaN_new h1 h2 H) ?_
  rintro _ w ⟨ba, rfl, H⟩
  repeat' (first | (refine zA ?_; first | refine zB ?_ | refine zC H ?_ | refine zD H ?_ | refine zE H fun _ _ H => ?_ | refine zF H fun _ _ H => ?_ | refine zG H fun _ H => ?_ | refine zH H fun _ H => ?_) | (refine zI ?_; first | refine zJ ?_ | refine zK ?_ | refine zL ?_ | refine zM ?_ | refine zN ?_ | refine zO ?_ | refine zP ?_ | refine zQ ?_ | refine zR ?_) | refine zS ?_)
  refine OpsW.mks H rfl rfl rfl rfl rfl (by omega) rfl rfl rfl rfl rfl fun b w H => ?_
  have H2 : Sat z w (blk b 68 (repl N (cf.T.zero.getD 68 [])) :: arena ba (mk N fun _ => Pl.z) :: Rs) := H
  rw [zero16, nds_repl] at H2
  clear H
  have H := H2
  clear H2
  repeat' (first | (refine zA ?_; first | refine zB ?_ | refine zC H ?_ | refine zD H ?_ | refine zE H fun _ _ H => ?_ | refine zF H fun _ _ H => ?_ | refine zG H fun _ H => ?_ | refine zH H fun _ H => ?_) | (refine zI ?_; first | refine zJ ?_ | refine zK ?_ | refine zL ?_ | refine zM ?_ | refine zN ?_ | refine zO ?_ | refine zP ?_ | refine zQ ?_ | refine zR ?_) | refine zS ?_)
  refine ret2 rfl rfl ⟨_, ba, b, rfl, ?_⟩
  exact H.perm (.cons _ (.swap _ _ _))
theorem fits_ {v : Value} {As : List HP} (H : Sat z w As) {eS eR eM : Addr} (hS : GlobV As 5 (errV eS)) (hR : GlobV As 1 (errV eR)) (hM : GlobV As 0 (errV eM)) (l : List K) (hl : l.length ≤ 1000000) (hv : SlR As v 5 l.length (l.flatMap K.l)) :
    Spec cf 51 #[v] w fun e w' => e = (if 16 < l.length then errV eM else kerrV eS eR (fitE l)) ∧ Sat z w' As := by
  obtain ⟨a, cap, rfl⟩ := lenW hv
  refine enter (l := [.slice a l.length cap]) Tryd.func51 rfl rfl rfl rfl rfl ?_
  repeat' (first | (refine zA ?_; first | refine zB ?_ | refine zC H ?_ | refine zD H ?_ | refine zE H fun _ _ H => ?_ | refine zF H fun _ _ H => ?_ | refine zG H fun _ H => ?_ | refine zH H fun _ H => ?_) | (refine zI ?_; first | refine zJ ?_ | refine zK ?_ | refine zL ?_ | refine zM ?_ | refine zN ?_ | refine zO ?_ | refine zP ?_ | refine zQ ?_ | refine zR ?_) | refine zS ?_)
  refine CW.cond rfl (fun h => ?_) (fun h => ?_)
  · rw [if_pos (by have := of_decide_eq_true h; omega)]
    repeat' (first | (refine zA ?_; first | refine zB ?_ | refine zC H ?_ | refine zD H ?_ | refine zE H fun _ _ H => ?_ | refine zF H fun _ _ H => ?_ | refine zG H fun _ H => ?_ | refine zH H fun _ H => ?_) | (refine zI ?_; first | refine zJ ?_ | refine zK ?_ | refine zL ?_ | refine zM ?_ | refine zN ?_ | refine zO ?_ | refine zP ?_ | refine zQ ?_ | refine zR ?_) | refine zS ?_)
    refine OpsW.ldg H hM rfl rfl rfl rfl rfl ?_
    repeat' (first | (refine zA ?_; first | refine zB ?_ | refine zC H ?_ | refine zD H ?_ | refine zE H fun _ _ H => ?_ | refine zF H fun _ _ H => ?_ | refine zG H fun _ H => ?_ | refine zH H fun _ H => ?_) | (refine zI ?_; first | refine zJ ?_ | refine zK ?_ | refine zL ?_ | refine zM ?_ | refine zN ?_ | refine zO ?_ | refine zP ?_ | refine zQ ?_ | refine zR ?_) | refine zS ?_)
    exact ret1 rfl ⟨rfl, H⟩
  rw [if_neg (by have := of_decide_eq_false h; omega)]
  repeat' (first | (refine zA ?_; first | refine zB ?_ | refine zC H ?_ | refine zD H ?_ | refine zE H fun _ _ H => ?_ | refine zF H fun _ _ H => ?_ | refine zG H fun _ H => ?_ | refine zH H fun _ H => ?_) | (refine zI ?_; first | refine zJ ?_ | refine zK ?_ | refine zL ?_ | refine zM ?_ | refine zN ?_ | refine zO ?_ | refine zP ?_ | refine zQ ?_ | refine zR ?_) | refine zS ?_)
  refine CW.loopF (X := Nat) (fun j => (Nat.ble 3 j && Nat.ble j 5) || Nat.ble 12 j) (fun i => [(12, .int .i64 (i : Int))]) (fun i w => (i ≤ l.length ∧ ∀ j (hj : j < l.length), j < i → l[j].err = 0) ∧ Sat z w As) (fun i => l.length - i) 0 ⟨rfl, trivial⟩ ⟨⟨Nat.zero_le _, fun j _ hj => absurd hj (Nat.not_lt_zero j)⟩, H⟩ ?_
  clear H
  rintro i τ w ⟨⟨hi, hne⟩, H⟩
  repeat' (first | (refine zA ?_; first | refine zB ?_ | refine zC H ?_ | refine zD H ?_ | refine zE H fun _ _ H => ?_ | refine zF H fun _ _ H => ?_ | refine zG H fun _ H => ?_ | refine zH H fun _ H => ?_) | (refine zI ?_; first | refine zJ ?_ | refine zK ?_ | refine zL ?_ | refine zM ?_ | refine zN ?_ | refine zO ?_ | refine zP ?_ | refine zQ ?_ | refine zR ?_) | refine zS ?_)
  refine CW.cond rfl (fun h => ?_) (fun h => ?_)
  · have hi' : i < l.length := by simpa using h
    have hvs := fl_take K.l 5 Kl_len l [] i hi'
    rw [List.append_nil] at hvs
    obtain ⟨k, hk⟩ : ∃ k, k = l[i] := ⟨_, rfl⟩
    rw [← hk] at hvs
    repeat' (first | (refine zA ?_; first | refine zB ?_ | refine zC H ?_ | refine zD H ?_ | refine zE H fun _ _ H => ?_ | refine zF H fun _ _ H => ?_ | refine zG H fun _ H => ?_ | refine zH H fun _ H => ?_) | (refine zI ?_; first | refine zJ ?_ | refine zK ?_ | refine zL ?_ | refine zM ?_ | refine zN ?_ | refine zO ?_ | refine zP ?_ | refine zQ ?_ | refine zR ?_) | refine zS ?_)
    refine OpsW.ixldA H hv rfl (fun _ => rfl) rfl rfl rfl rfl rfl rfl rfl rfl hi' hvs rfl rfl fun pp => ?_
    repeat' (first | (refine zA ?_; first | refine zB ?_ | refine zC H ?_ | refine zD H ?_ | refine zE H fun _ _ H => ?_ | refine zF H fun _ _ H => ?_ | refine zG H fun _ H => ?_ | refine zH H fun _ H => ?_) | (refine zI ?_; first | refine zJ ?_ | refine zK ?_ | refine zL ?_ | refine zM ?_ | refine zN ?_ | refine zO ?_ | refine zP ?_ | refine zQ ?_ | refine zR ?_) | refine zS ?_)
    refine OpsW.call rfl rfl rfl (valid_ H hS.tail hR.tail k) ?_
    rintro _ w ⟨rfl, H⟩
    replace H := H.drop
    have h2 : k.err = 0 ∨ k.err = 1 ∨ k.err = 2 := by
      unfold K.err; repeat' split
      all_goals simp
    rcases h2 with h2 | h2 | h2
    · rw [show kerrV eS eR k.err = .nilIface by rw [h2]; rfl]
      repeat' (first | (refine zA ?_; first | refine zB ?_ | refine zC H ?_ | refine zD H ?_ | refine zE H fun _ _ H => ?_ | refine zF H fun _ _ H => ?_ | refine zG H fun _ H => ?_ | refine zH H fun _ H => ?_) | (refine zI ?_; first | refine zJ ?_ | refine zK ?_ | refine zL ?_ | refine zM ?_ | refine zN ?_ | refine zO ?_ | refine zP ?_ | refine zQ ?_ | refine zR ?_) | refine zS ?_)
      refine ⟨i + 1, (by (repeat (first | (with_reducible exact Agree.refl _ _) | (with_reducible refine Agree.trim (by assumption) ?_) | refine Agree.upd ?_ rfl | exact Agree.mix' | refine Agree.mixL ?_ (fun j h => by simp only [Bool.or_eq_true, Bool.and_eq_true, Nat.beq_eq, Nat.ble_eq] at h ⊢; omega) rfl))), ⟨nat_succ hi' (by omega), trivial⟩, ⟨⟨hi', fun j hj hji => ?_⟩, H⟩, by omega⟩
      by_cases e : j = i
      · subst e; rw [← hk]; exact h2
      · exact hne j hj (by omega)
    · have e : fitE l = 1 := fit_at hi' (by rw [← hk]; omega) hne (by rw [← hk]; exact h2)
      rw [show kerrV eS eR k.err = errV eS by rw [h2]; rfl, show kerrV eS eR (fitE l) = errV eS by rw [e]; rfl]
      repeat' (first | (refine zA ?_; first | refine zB ?_ | refine zC H ?_ | refine zD H ?_ | refine zE H fun _ _ H => ?_ | refine zF H fun _ _ H => ?_ | refine zG H fun _ H => ?_ | refine zH H fun _ H => ?_) | (refine zI ?_; first | refine zJ ?_ | refine zK ?_ | refine zL ?_ | refine zM ?_ | refine zN ?_ | refine zO ?_ | refine zP ?_ | refine zQ ?_ | refine zR ?_) | refine zS ?_)
      exact ret1 rfl ⟨rfl, H⟩
    · have e : fitE l = 2 := fit_at hi' (by rw [← hk]; omega) hne (by rw [← hk]; exact h2)
      rw [show kerrV eS eR k.err = errV eR by rw [h2]; rfl, show kerrV eS eR (fitE l) = errV eR by rw [e]; rfl]
      repeat' (first | (refine zA ?_; first | refine zB ?_ | refine zC H ?_ | refine zD H ?_ | refine zE H fun _ _ H => ?_ | refine zF H fun _ _ H => ?_ | refine zG H fun _ H => ?_ | refine zH H fun _ H => ?_) | (refine zI ?_; first | refine zJ ?_ | refine zK ?_ | refine zL ?_ | refine zM ?_ | refine zN ?_ | refine zO ?_ | refine zP ?_ | refine zQ ?_ | refine zR ?_) | refine zS ?_)
      exact ret1 rfl ⟨rfl, H⟩
  · have : i = l.length := by simp at h; omega
    subst this
    have e : fitE l = 0 := by
      have : l.find? (fun k => k.err != 0) = none := by
        rw [List.find?_eq_none]
        intro x hx
        obtain ⟨j, hj, rfl⟩ := List.mem_iff_getElem.1 hx
        rw [hne j hj hj]; simp
      rw [fitE, this]
    rw [e]
    repeat' (first | (refine zA ?_; first | refine zB ?_ | refine zC H ?_ | refine zD H ?_ | refine zE H fun _ _ H => ?_ | refine zF H fun _ _ H => ?_ | refine zG H fun _ H => ?_ | refine zH H fun _ H => ?_) | (refine zI ?_; first | refine zJ ?_ | refine zK ?_ | refine zL ?_ | refine zM ?_ | refine zN ?_ | refine zO ?_ | refine zP ?_ | refine zQ ?_ | refine zR ?_) | refine zS ?_)
    exact ret1 rfl ⟨rfl, H⟩
theorem node_make (H : Sat z w (blk bp 131 [.pointer (some ⟨ba, 0, none⟩), .slice (some ⟨b, 0, none⟩) N N] :: arena ba (mk N f) :: blk b 68 (nds N nd) :: Rs)) (hN : N ≤ 256) {eS eR eM : Addr} {te : TypeId} {ve : Value} (hS : GlobV Rs 5 (errV eS)) (hR : GlobV Rs 1 (errV eR)) (hM : GlobV Rs 0 (errV eM)) (hE : GlobV Rs 2 (.iface te ve)) (v : Value) (l : List K) (hl : l.length ≤ 16) (hok : fitE l = 0) (hv : SlR Rs v 5 l.length (l.flatMap K.l)) (q : Nat) (hq : q < N) (hf : (f q).free = true) (hb : ∀ j, j < q → (f j).free = false) :
    Spec cf 17 #[.pointer (some ⟨bp, 0, none⟩), v] w fun e w' => e = .tuple #[.int .i64 q, .int .i64 (f q).ver, .nilIface] ∧ Sat z w' (blk bp 131 [.pointer (some ⟨ba, 0, none⟩), .slice (some ⟨b, 0, none⟩) N N] :: arena ba (mk N fun j => if j = q then (f q).take else f j) :: blk b 68 (nds N fun a => if a = q then (fun i => l.getD i K.void) else nd a) :: Rs) := by
  obtain ⟨a, cap, rfl⟩ := lenW hv
  have hfit := fits_ (eS := eS) (eR := eR) (eM := eM) H hS.tail.tail.tail hR.tail.tail.tail hM.tail.tail.tail l (by omega) hv.tail.tail.tail
  rw [if_neg (by omega), hok] at hfit
  refine enter (l := [.pointer (some ⟨bp, 0, none⟩), .slice a l.length cap]) Tryd.func17 rfl rfl rfl rfl rfl ?_
  repeat' (first | (refine zA ?_; first | refine zB ?_ | refine zC H ?_ | refine zD H ?_ | refine zE H fun _ _ H => ?_ | refine zF H fun _ _ H => ?_ | refine zG H fun _ H => ?_ | refine zH H fun _ H => ?_) | (refine zI ?_; first | refine zJ ?_ | refine zK ?_ | refine zL ?_ | refine zM ?_ | refine zN ?_ | refine zO ?_ | refine zP ?_ | refine zQ ?_ | refine zR ?_) | refine zS ?_)
  refine OpsW.call rfl rfl rfl hfit ?_
  rintro _ w ⟨rfl, H⟩
  rw [show kerrV eS eR 0 = .nilIface from rfl]
  repeat' (first | (refine zA ?_; first | refine zB ?_ | refine zC H ?_ | refine zD H ?_ | refine zE H fun _ _ H => ?_ | refine zF H fun _ _ H => ?_ | refine zG H fun _ H => ?_ | refine zH H fun _ H => ?_) | (refine zI ?_; first | refine zJ ?_ | refine zK ?_ | refine zL ?_ | refine zM ?_ | refine zN ?_ | refine zO ?_ | refine zP ?_ | refine zQ ?_ | refine zR ?_) | refine zS ?_)
  refine OpsW.call rfl rfl rfl (arenaN_take (H.perm (pS p0)) hN hE.tail.tail q hq hf hb) ?_
  rintro _ w ⟨rfl, H⟩
  replace H := H.perm (pS p0)
  repeat' (first | (refine zA ?_; first | refine zB ?_ | refine zC H ?_ | refine zD H ?_ | refine zE H fun _ _ H => ?_ | refine zG H fun _ H => ?_ | refine zH H fun _ H => ?_) | (refine zI ?_; first | refine zJ ?_ | refine zK ?_ | refine zL ?_ | refine zM ?_ | refine zN ?_ | refine zO ?_ | refine zP ?_ | refine zQ ?_ | refine zR ?_) | refine zS ?_)
  refine OpsW.alloc (l := kds fun _ => K.void) H rfl rfl ((forceL_eq _ _).trans (congrArg some zero16V)) rfl fun bl w H => ?_
  repeat' (first | (refine zA ?_; first | refine zB ?_ | refine zC H ?_ | refine zD H ?_ | refine zE H fun _ _ H => ?_ | refine zG H fun _ H => ?_ | refine zH H fun _ H => ?_) | (refine zI ?_; first | refine zJ ?_ | refine zK ?_ | refine zL ?_ | refine zM ?_ | refine zN ?_ | refine zO ?_ | refine zP ?_ | refine zQ ?_ | refine zR ?_) | refine zS ?_)
  refine OpsW.slcA rfl rfl rfl rfl rfl rfl ?_
  repeat' (first | (refine zA ?_; first | refine zB ?_ | refine zC H ?_ | refine zD H ?_ | refine zE H fun _ _ H => ?_ | refine zG H fun _ H => ?_ | refine zH H fun _ H => ?_) | (refine zI ?_; first | refine zJ ?_ | refine zK ?_ | refine zL ?_ | refine zM ?_ | refine zN ?_ | refine zO ?_ | refine zP ?_ | refine zQ ?_ | refine zR ?_) | refine zS ?_)
  refine OpsW.cpy (sz := 5) H p0 hv.tail.tail.tail.tail (kl_scal l) hl (by rw [kds_len]; omega) rfl rfl rfl rfl rfl rfl rfl fun w H => ?_
  rw [kds_lay l hl] at H
  repeat' (first | (refine zA ?_; first | refine zB ?_ | refine zC H ?_ | refine zD H ?_ | refine zE H fun _ _ H => ?_ | refine zG H fun _ H => ?_ | refine zH H fun _ H => ?_) | (refine zI ?_; first | refine zJ ?_ | refine zK ?_ | refine zL ?_ | refine zM ?_ | refine zN ?_ | refine zO ?_ | refine zP ?_ | refine zQ ?_ | refine zR ?_) | refine zS ?_)
  first | refine CW.seqDraw mo H [0, 1, 3, 7, 0, 0, 63, 127] fun w H => ?_ | refine CW.draw mo H [0, 1, 3, 7, 0, 0, 63, 127] fun w H => ?_
  refine AnyW.seg (m := 6) (by kernel_rfl) (by kernel_rfl) H rfl ?_
  repeat' (first | (refine DrawP.nil ?_; intro w H) | (refine DrawP.go ?_; first | refine DrawP.cons rfl (fun τ w H => OpsW.st rfl (OpsW.nil ⟨rfl, H⟩)) ?_ | refine DrawP.cons rfl (fun τ w H => OpsW.ld H (by (first | exact p0 | exact p1 | exact p2 | exact p3 | exact p4 | exact p5 | exact p6 | exact p7)) rfl rfl rfl rfl (by rfl) rfl (OpsW.nil ⟨rfl, H⟩)) ?_ | refine DrawP.cons rfl (fun τ w H => OpsW.ldA H (by (first | exact p0 | exact p1 | exact p2 | exact p3 | exact p4 | exact p5 | exact p6 | exact p7)) rfl rfl rfl (by rfl) rfl (OpsW.nil ⟨rfl, H⟩)) ?_ | refine DrawP.cons rfl (fun τ w H => OpsW.ldA H p0 rfl rfl rfl (takeK_kds _) rfl (OpsW.nil ⟨rfl, H⟩)) ?_) | refine DrawP.split (fun h => ?_) (fun h => ?_))
  refine AnyW.seg (m := 7) (by kernel_rfl) (by kernel_rfl) H rfl ?_
  repeat' (first | (refine DrawP.nil ?_; intro w H) | (refine DrawP.go ?_; first | refine DrawP.cons rfl (fun τ w H => OpsW.st rfl (OpsW.nil ⟨rfl, H⟩)) ?_ | refine DrawP.cons rfl (fun τ w H => OpsW.ld H (by (first | exact p0 | exact p1 | exact p2 | exact p3 | exact p4 | exact p5 | exact p6 | exact p7)) rfl rfl rfl rfl (by rfl) rfl (OpsW.nil ⟨rfl, H⟩)) ?_ | refine DrawP.cons rfl (fun τ w H => OpsW.ldA H (by (first | exact p0 | exact p1 | exact p2 | exact p3 | exact p4 | exact p5 | exact p6 | exact p7)) rfl rfl rfl (by rfl) rfl (OpsW.nil ⟨rfl, H⟩)) ?_ | refine DrawP.cons rfl (fun τ w H => OpsW.ix (n := q) rfl rfl rfl rfl rfl rfl rfl hq rfl (OpsW.nil ⟨rfl, H⟩)) ?_) | refine DrawP.split (fun h => ?_) (fun h => ?_))
  refine AnyW.one (by kernel_rfl) (by kernel_rfl) rfl ?_
  refine OpsW.strA (vs := kds fun i => l.getD i K.void) H (pS (pS (pS p0))) rfl rfl (forceL_eq _ _) (kds_scal _) rfl (kds_len _) (by rw [kds_len, nds_len]; show 0 + q * 80 + 80 ≤ N * 80; omega) fun w H => ?_
  rw [nds_lay hq] at H
  refine OpsW.nil ?_
  refine AnyW.done ?_
  repeat' (first | (refine zA ?_; first | refine zB ?_ | refine zC H ?_ | refine zD H ?_ | refine zE H fun _ _ H => ?_ | refine zG H fun _ H => ?_ | refine zH H fun _ H => ?_) | (refine zI ?_; first | refine zJ ?_ | refine zK ?_ | refine zL ?_ | refine zM ?_ | refine zN ?_ | refine zO ?_ | refine zP ?_ | refine zQ ?_ | refine zR ?_) | refine zS ?_)
  exact ret3 rfl rfl rfl ⟨rfl, (H.perm (pS p0)).drop.perm ((List.Perm.swap _ _ _).trans (.cons _ (.swap _ _ _)))⟩
theorem slot_ {As : List HP} (H : Sat z w As) (i : Int) : Spec cf 92 #[.int .i64 i] w fun e w' => e = .bool (decide (0 ≤ i) && decide (i < 16)) ∧ Sat z w' As := by
  refine enter (l := [.int .i64 i]) Tryd.func92 rfl rfl rfl rfl rfl ?_
  repeat' (first | (refine zA ?_; first | refine zB ?_ | refine zC H ?_ | refine zD H ?_ | refine zE H fun _ _ H => ?_ | refine zF H fun _ _ H => ?_ | refine zG H fun _ H => ?_ | refine zH H fun _ H => ?_ | (refine OpsW.gs rfl rfl rfl (fun h => ?_) (fun h => ?_); fail_if_success (with_reducible have h2 : true = true := h); fail_if_success (with_reducible have h2 : false = true := h))) | (refine zI ?_; first | refine zJ ?_ | refine zK ?_ | refine zL ?_ | refine zM ?_ | refine zN ?_ | refine zO ?_ | refine zP ?_ | refine zQ ?_ | refine zR ?_ | (refine CW.cond rfl (fun h => ?_) (fun h => ?_))) | refine zS ?_)
  all_goals
    refine ret1 rfl ⟨?_, H⟩
    clear H
    first | (simp_all; done) | (simp_all; omega)
theorem slot_yes {As : List HP} (H : Sat z w As) {i : Nat} (hi : i < 16) : Spec cf 92 #[.int .i64 i] w fun e w' => e = .bool true ∧ Sat z w' As := by
  have := slot_ H i
  rw [decide_eq_true (show (0 : Int) ≤ i by omega), decide_eq_true (show (i : Int) < 16 by omega)] at this
  exact this
theorem node_get (H : Sat z w (blk bp 131 [.pointer (some ⟨ba, 0, none⟩), .slice (some ⟨b, 0, none⟩) N N] :: arena ba (mk N f) :: blk b 68 (nds N nd) :: Rs)) (hN : N ≤ 256) (k i : Nat) (hk : k < N) (hon : (f k).there = true) (hi : i < 16) :
    Spec cf 98 #[.pointer (some ⟨bp, 0, none⟩), .int .i64 k, .int .i64 i] w fun e w' => e = .tuple #[(nd k i).v, .bool true] ∧ Sat z w' (blk bp 131 [.pointer (some ⟨ba, 0, none⟩), .slice (some ⟨b, 0, none⟩) N N] :: arena ba (mk N f) :: blk b 68 (nds N nd) :: Rs) := by
  refine enter (l := [.pointer (some ⟨bp, 0, none⟩), .int .i64 k, .int .i64 i]) Tryd.func98 rfl rfl rfl rfl rfl ?_
  have htk := takeK_key (nd := nd) (rest := []) hk hi
  rw [List.append_nil] at htk
  repeat' (first | (refine zA ?_; first | refine zB ?_ | refine zC H ?_ | refine zD H ?_ | refine zE H fun _ _ H => ?_ | refine zF H fun _ _ H => ?_ | refine zG H fun _ H => ?_ | refine zH H fun _ H => ?_) | (refine zI ?_; first | refine zJ ?_ | refine zK ?_ | refine zL ?_ | refine zM ?_ | refine zN ?_ | refine zO ?_ | refine zP ?_ | refine zQ ?_ | refine zR ?_) | refine zS ?_)
  refine OpsW.call rfl rfl rfl (arenaN_there_at (H.perm (pS (pS p0))) hN k hk true hon) ?_
  rintro _ w ⟨rfl, H⟩
  replace H := H.perm (pS (pS p0)).symm
  repeat' (first | (refine zA ?_; first | refine zB ?_ | refine zC H ?_ | refine zD H ?_ | refine zE H fun _ _ H => ?_ | refine zF H fun _ _ H => ?_ | refine zG H fun _ H => ?_ | refine zH H fun _ H => ?_) | (refine zI ?_; first | refine zJ ?_ | refine zK ?_ | refine zL ?_ | refine zM ?_ | refine zN ?_ | refine zO ?_ | refine zP ?_ | refine zQ ?_ | refine zR ?_) | refine zS ?_)
  refine OpsW.call rfl rfl rfl (slot_yes H hi) ?_
  rintro _ w ⟨rfl, H⟩
  repeat' (first | (refine zA ?_; first | refine zB ?_ | refine zC H ?_ | refine zD H ?_ | refine zE H fun _ _ H => ?_ | refine zF H fun _ _ H => ?_ | refine zG H fun _ H => ?_ | refine zH H fun _ H => ?_) | (refine zI ?_; first | refine zJ ?_ | refine zK ?_ | refine zL ?_ | refine zM ?_ | refine zN ?_ | refine zO ?_ | refine zP ?_ | refine zQ ?_ | refine zR ?_) | refine zS ?_)
  refine OpsW.ix (n := k) rfl rfl rfl rfl rfl rfl rfl hk rfl ?_
  repeat' (first | (refine zA ?_; first | refine zB ?_ | refine zC H ?_ | refine zD H ?_ | refine zE H fun _ _ H => ?_ | refine zF H fun _ _ H => ?_ | refine zG H fun _ H => ?_ | refine zH H fun _ H => ?_) | (refine zI ?_; first | refine zJ ?_ | refine zK ?_ | refine zL ?_ | refine zM ?_ | refine zN ?_ | refine zO ?_ | refine zP ?_ | refine zQ ?_ | refine zR ?_) | refine zS ?_)
  refine OpsW.ixA (n := i) rfl rfl rfl rfl rfl rfl rfl hi rfl ?_
  repeat' (first | (refine zA ?_; first | refine zB ?_ | refine zC H ?_ | refine zD H ?_ | refine zE H fun _ _ H => ?_ | refine zF H fun _ _ H => ?_ | refine zG H fun _ H => ?_ | refine zH H fun _ H => ?_) | (refine zI ?_; first | refine zJ ?_ | refine zK ?_ | refine zL ?_ | refine zM ?_ | refine zN ?_ | refine zO ?_ | refine zP ?_ | refine zQ ?_ | refine zR ?_) | refine zS ?_)
  refine OpsW.ldA H (pS (pS (pS p0))) rfl rfl rfl htk rfl ?_
  repeat' (first | (refine zA ?_; first | refine zB ?_ | refine zC H ?_ | refine zD H ?_ | refine zE H fun _ _ H => ?_ | refine zF H fun _ _ H => ?_ | refine zG H fun _ H => ?_ | refine zH H fun _ H => ?_) | (refine zI ?_; first | refine zJ ?_ | refine zK ?_ | refine zL ?_ | refine zM ?_ | refine zN ?_ | refine zO ?_ | refine zP ?_ | refine zQ ?_ | refine zR ?_) | refine zS ?_)
  refine ret2c (resA H (by (first | exact p0 | exact p1 | exact p2 | exact p3 | exact p4 | exact p5 | exact p6 | exact p7)) rfl rfl (by rfl)) rfl ?_
  exact ⟨rfl, H.drop⟩
theorem node_get_no (H : Sat z w (blk bp 131 [.pointer (some ⟨ba, 0, none⟩), .slice (some ⟨b, 0, none⟩) N N] :: arena ba (mk N f) :: blk b 68 (nds N nd) :: Rs)) (hN : N ≤ 256) (id i : Int) (hno : (onN N f id && (decide (0 ≤ i) && decide (i < 16))) = false) :
    Spec cf 98 #[.pointer (some ⟨bp, 0, none⟩), .int .i64 id, .int .i64 i] w fun e w' => e = .tuple #[K.void.v, .bool false] ∧ Sat z w' (blk bp 131 [.pointer (some ⟨ba, 0, none⟩), .slice (some ⟨b, 0, none⟩) N N] :: arena ba (mk N f) :: blk b 68 (nds N nd) :: Rs) := by
  refine enter (l := [.pointer (some ⟨bp, 0, none⟩), .int .i64 id, .int .i64 i]) Tryd.func98 rfl rfl rfl rfl rfl ?_
  repeat' (first | (refine zA ?_; first | refine zB ?_ | refine zC H ?_ | refine zD H ?_ | refine zE H fun _ _ H => ?_ | refine zF H fun _ _ H => ?_ | refine zG H fun _ H => ?_ | refine zH H fun _ H => ?_) | (refine zI ?_; first | refine zJ ?_ | refine zK ?_ | refine zL ?_ | refine zM ?_ | refine zN ?_ | refine zO ?_ | refine zP ?_ | refine zQ ?_ | refine zR ?_) | refine zS ?_)
  refine OpsW.call rfl rfl rfl (arenaN_there (H.perm (pS (pS p0))) hN id) ?_
  rintro _ w ⟨rfl, H⟩
  replace H := H.perm (pS (pS p0)).symm
  cases e : onN N f id
  · repeat' (first | (refine zA ?_; first | refine zB ?_ | refine zC H ?_ | refine zD H ?_ | refine zE H fun _ _ H => ?_ | refine zF H fun _ _ H => ?_ | refine zG H fun _ H => ?_ | refine zH H fun _ H => ?_) | (refine zI ?_; first | refine zJ ?_ | refine zK ?_ | refine zL ?_ | refine zM ?_ | refine zN ?_ | refine zO ?_ | refine zP ?_ | refine zQ ?_ | refine zR ?_) | refine zS ?_)
    refine ret2c (resA H (by (first | exact p0 | exact p1 | exact p2 | exact p3 | exact p4 | exact p5 | exact p6 | exact p7)) rfl rfl (by rfl)) rfl ?_
    exact ⟨rfl, H.drop⟩
  · rw [e, Bool.true_and] at hno
    have hs := slot_ H i
    rw [hno] at hs
    repeat' (first | (refine zA ?_; first | refine zB ?_ | refine zC H ?_ | refine zD H ?_ | refine zE H fun _ _ H => ?_ | refine zF H fun _ _ H => ?_ | refine zG H fun _ H => ?_ | refine zH H fun _ H => ?_) | (refine zI ?_; first | refine zJ ?_ | refine zK ?_ | refine zL ?_ | refine zM ?_ | refine zN ?_ | refine zO ?_ | refine zP ?_ | refine zQ ?_ | refine zR ?_) | refine zS ?_)
    refine OpsW.call rfl rfl rfl hs ?_
    rintro _ w ⟨rfl, H⟩
    repeat' (first | (refine zA ?_; first | refine zB ?_ | refine zC H ?_ | refine zD H ?_ | refine zE H fun _ _ H => ?_ | refine zF H fun _ _ H => ?_ | refine zG H fun _ H => ?_ | refine zH H fun _ H => ?_) | (refine zI ?_; first | refine zJ ?_ | refine zK ?_ | refine zL ?_ | refine zM ?_ | refine zN ?_ | refine zO ?_ | refine zP ?_ | refine zQ ?_ | refine zR ?_) | refine zS ?_)
    refine ret2c (resA H (by (first | exact p0 | exact p1 | exact p2 | exact p3 | exact p4 | exact p5 | exact p6 | exact p7)) rfl rfl (by rfl)) rfl ?_
    exact ⟨rfl, H.drop⟩
end
end Go.Proofs.YtnfefbhjdncccaaDoor.X
