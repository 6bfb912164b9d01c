/- Contracts of chapter 19 (holes): what reaches out; conditions: none. -/
import Derived.Test.YtbmfpkpcljihgaaDoorA19
namespace Go.Proofs.YtbmfpkpcljihgaaDoor.X
open Go Go.Proofs
set_option linter.unusedSimpArgs false
set_option linter.unusedVariables false
attribute [local irreducible] CW OpsW RetW Spec blk snap DrawP AnyW AnyM AnyN bits IntKind.wrap vec K.sensory namedF
def anyS {S : Type} (step : S → K → Bool × S) : S → List K → Bool × S
  | s, [] => (false, s)
  | s, x :: l => if (step s x).1 then (true, (step s x).2) else anyS step (step s x).2 l
theorem anyS_inv {S : Type} {step : S → K → Bool × S} {P : S → Prop} (h : ∀ s x, P s → P (step s x).2) : ∀ (l : List K) (s : S), P s → P (anyS step s l).2 := by
  intro l
  induction l with
  | nil => intro s hs; exact hs
  | cons x l ih =>
    intro s hs
    rw [anyS]
    split
    · exact h s x hs
    · exact ih _ (h s x hs)
def reach (fs : List Fac) : Nat → K → List Bool → Bool × List Bool
  | 0, _, met => (false, met)
  | n + 1, k, met => if k.sensory then (false, met) else match namedF fs k with
    | none => (true, met)
    | some i => if met.getD i false then (false, met) else anyS (fun met x => reach fs n x met) (met.set i true) (fs.getD i ⟨0, 0, false, none, 0, []⟩).parts
section
variable {z w : World} {As : List HP}
theorem indexKeys_ {S : Type} {fn : FuncId} {b1 b2 : Nat} {l : List K} {v : Value} (step : S → K → Bool × S) (M : S → List HP) (inv : S → Prop) (hl : l.length ≤ 9223372036854775807)
    (hv : ∀ s, SlR (M s) v 5 l.length (l.flatMap K.l))
    (hp : ∀ s x w, inv s → Sat z w (M s) → Spec cf fn #[x.v, .pointer (some ⟨b1, 0, none⟩), .pointer (some ⟨b2, 0, none⟩)] w fun e w' => e = .bool (step s x).1 ∧ Sat z w' (M (step s x).2))
    (hi : ∀ s x, inv s → inv (step s x).2) (s0 : S) (h0 : inv s0) (H : Sat z w (M s0)) :
    Spec cf 115 #[v, .func (.func fn) #[] #[.pointer (some ⟨b1, 0, none⟩), .pointer (some ⟨b2, 0, none⟩)]] w fun e w' => ∃ i : Int, e = .int .i64 i ∧ decide (i ≥ 0) = (anyS step s0 l).1 ∧ Sat z w' (M (anyS step s0 l).2) := by
  obtain ⟨a, cp, rfl⟩ := lenW (hv s0)
  refine enter (l := [.slice a l.length cp, .func (.func fn) #[] #[.pointer (some ⟨b1, 0, none⟩), .pointer (some ⟨b2, 0, none⟩)]]) Tryd.func115 rfl rfl rfl rfl rfl ?_
  repeat' (first | (refine zA ?_; first | refine zB ?_ | refine zC H ?_ | refine zD H ?_ | refine zE H fun _ _ H => ?_ | refine zF H fun _ _ H => ?_ | refine zG H fun _ H => ?_ | refine zH H fun _ H => ?_) | (refine zI ?_; first | refine zJ ?_ | refine zK ?_ | refine zL ?_ | refine zM ?_ | refine zN ?_ | refine zO ?_ | refine zP ?_ | refine zQ ?_ | refine zR ?_) | refine zS ?_)
  refine CW.loopF (X := Nat × S) (fun j => Nat.beq j 5 || Nat.ble 8 j) (fun s => [(8, .int .i64 (s.1 : Int))]) (fun s w => (s.1 ≤ l.length ∧ inv s.2 ∧ anyS step s0 l = anyS step s.2 (l.drop s.1)) ∧ Sat z w (M s.2)) (fun s => l.length - s.1) (0, s0) ⟨rfl, trivial⟩ ⟨⟨Nat.zero_le _, h0, rfl⟩, H⟩ ?_
  rintro ⟨i, s⟩ τ w ⟨⟨hil, hs, ha⟩, H⟩
  dsimp only at hil hs ha H
  repeat' (first | (refine zA ?_; first | refine zB ?_ | refine zC H ?_ | refine zD H ?_ | refine zE H fun _ _ H => ?_ | refine zF H fun _ _ H => ?_ | refine zG H fun _ H => ?_ | refine zH H fun _ H => ?_) | (refine zI ?_; first | refine zJ ?_ | refine zK ?_ | refine zL ?_ | refine zM ?_ | refine zN ?_ | refine zO ?_ | refine zP ?_ | refine zQ ?_ | refine zR ?_) | refine zS ?_)
  refine CW.cond rfl (fun h => ?_) (fun h => ?_)
  · have hi' : i < l.length := by simpa using h
    have hvs := fl_take K.l 5 K.l_len l [] i hi'
    rw [List.append_nil] at hvs
    rw [List.drop_eq_getElem_cons hi', anyS] at ha
    repeat' (first | (refine zA ?_; first | refine zB ?_ | refine zC H ?_ | refine zD H ?_ | refine zE H fun _ _ H => ?_ | refine zF H fun _ _ H => ?_ | refine zG H fun _ H => ?_ | refine zH H fun _ H => ?_) | (refine zI ?_; first | refine zJ ?_ | refine zK ?_ | refine zL ?_ | refine zM ?_ | refine zN ?_ | refine zO ?_ | refine zP ?_ | refine zQ ?_ | refine zR ?_) | refine zS ?_)
    refine OpsW.ixldA H (hv s) rfl (fun _ => rfl) rfl rfl rfl rfl rfl rfl rfl rfl hi' hvs rfl rfl fun pp => ?_
    repeat' (first | (refine zA ?_; first | refine zB ?_ | refine zC H ?_ | refine zD H ?_ | refine zE H fun _ _ H => ?_ | refine zF H fun _ _ H => ?_ | refine zG H fun _ H => ?_ | refine zH H fun _ H => ?_) | (refine zI ?_; first | refine zJ ?_ | refine zK ?_ | refine zL ?_ | refine zM ?_ | refine zN ?_ | refine zO ?_ | refine zP ?_ | refine zQ ?_ | refine zR ?_) | refine zS ?_)
    refine OpsW.callv rfl rfl rfl rfl (hp s l[i] w hs H) ?_
    rintro _ w ⟨rfl, H⟩
    repeat' (first | (refine zA ?_; first | refine zB ?_ | refine zC H ?_ | refine zD H ?_ | refine zE H fun _ _ H => ?_ | refine zF H fun _ _ H => ?_ | refine zG H fun _ H => ?_ | refine zH H fun _ H => ?_) | (refine zI ?_; first | refine zJ ?_ | refine zK ?_ | refine zL ?_ | refine zM ?_ | refine zN ?_ | refine zO ?_ | refine zP ?_ | refine zQ ?_ | refine zR ?_) | refine zS ?_)
    refine CW.cond rfl (fun h5 => ?_) (fun h5 => ?_)
    · rw [if_pos h5] at ha
      repeat' (first | (refine zA ?_; first | refine zB ?_ | refine zC H ?_ | refine zD H ?_ | refine zE H fun _ _ H => ?_ | refine zF H fun _ _ H => ?_ | refine zG H fun _ H => ?_ | refine zH H fun _ H => ?_) | (refine zI ?_; first | refine zJ ?_ | refine zK ?_ | refine zL ?_ | refine zM ?_ | refine zN ?_ | refine zO ?_ | refine zP ?_ | refine zQ ?_ | refine zR ?_) | refine zS ?_)
      refine ret1 rfl ⟨i, rfl, ?_, ?_⟩
      · rw [ha]; simp
      · rw [ha]; exact H
    · rw [if_neg (by rw [h5]; simp)] at ha
      repeat' (first | (refine zA ?_; first | refine zB ?_ | refine zC H ?_ | refine zD H ?_ | refine zE H fun _ _ H => ?_ | refine zF H fun _ _ H => ?_ | refine zG H fun _ H => ?_ | refine zH H fun _ H => ?_) | (refine zI ?_; first | refine zJ ?_ | refine zK ?_ | refine zL ?_ | refine zM ?_ | refine zN ?_ | refine zO ?_ | refine zP ?_ | refine zQ ?_ | refine zR ?_) | refine zS ?_)
      exact ⟨(i + 1, (step s l[i]).2), (by (repeat (first | (with_reducible exact Agree.refl _ _) | (with_reducible refine Agree.trim (by assumption) ?_) | refine Agree.upd ?_ rfl | exact Agree.mix' | refine Agree.mixL ?_ (fun j h => by simp only [Bool.or_eq_true, Bool.and_eq_true, Nat.beq_eq, Nat.ble_eq] at h ⊢; omega) rfl))), ⟨nat_succ hi' hl, trivial⟩, ⟨⟨hi', hi _ _ hs, ha⟩, H⟩, by show l.length - (i + 1) < l.length - i; omega⟩
  · have : i = l.length := by simp at h; omega
    subst this
    rw [List.drop_length, anyS] at ha
    repeat' (first | (refine zA ?_; first | refine zB ?_ | refine zC H ?_ | refine zD H ?_ | refine zE H fun _ _ H => ?_ | refine zF H fun _ _ H => ?_ | refine zG H fun _ H => ?_ | refine zH H fun _ H => ?_) | (refine zI ?_; first | refine zJ ?_ | refine zK ?_ | refine zL ?_ | refine zM ?_ | refine zN ?_ | refine zO ?_ | refine zP ?_ | refine zQ ?_ | refine zR ?_) | refine zS ?_)
    refine ret1 rfl ⟨-1, rfl, ?_, ?_⟩
    · rw [ha]; rfl
    · rw [ha]; exact H
theorem containsKeys_ {S : Type} {fn : FuncId} {b1 b2 : Nat} {l : List K} {v : Value} (step : S → K → Bool × S) (M : S → List HP) (inv : S → Prop) (hl : l.length ≤ 9223372036854775807)
    (hv : ∀ s, SlR (M s) v 5 l.length (l.flatMap K.l))
    (hp : ∀ s x w, inv s → Sat z w (M s) → Spec cf fn #[x.v, .pointer (some ⟨b1, 0, none⟩), .pointer (some ⟨b2, 0, none⟩)] w fun e w' => e = .bool (step s x).1 ∧ Sat z w' (M (step s x).2))
    (hi : ∀ s x, inv s → inv (step s x).2) (s0 : S) (h0 : inv s0) (H : Sat z w (M s0)) :
    Spec cf 109 #[v, .func (.func fn) #[] #[.pointer (some ⟨b1, 0, none⟩), .pointer (some ⟨b2, 0, none⟩)]] w fun e w' => e = .bool (anyS step s0 l).1 ∧ Sat z w' (M (anyS step s0 l).2) := by
  obtain ⟨a, cp, rfl⟩ := lenW (hv s0)
  refine enter (l := [.slice a l.length cp, .func (.func fn) #[] #[.pointer (some ⟨b1, 0, none⟩), .pointer (some ⟨b2, 0, none⟩)]]) Tryd.func109 rfl rfl rfl rfl rfl ?_
  repeat' (first | (refine zA ?_; first | refine zB ?_ | refine zC H ?_ | refine zD H ?_ | refine zE H fun _ _ H => ?_ | refine zF H fun _ _ H => ?_ | refine zG H fun _ H => ?_ | refine zH H fun _ H => ?_) | (refine zI ?_; first | refine zJ ?_ | refine zK ?_ | refine zL ?_ | refine zM ?_ | refine zN ?_ | refine zO ?_ | refine zP ?_ | refine zQ ?_ | refine zR ?_) | refine zS ?_)
  refine OpsW.call rfl rfl rfl (indexKeys_ step M inv hl hv hp hi s0 h0 H) ?_
  rintro _ w ⟨i, rfl, hd, H⟩
  repeat' (first | (refine zA ?_; first | refine zB ?_ | refine zC H ?_ | refine zD H ?_ | refine zE H fun _ _ H => ?_ | refine zF H fun _ _ H => ?_ | refine zG H fun _ H => ?_ | refine zH H fun _ H => ?_) | (refine zI ?_; first | refine zJ ?_ | refine zK ?_ | refine zL ?_ | refine zM ?_ | refine zN ?_ | refine zO ?_ | refine zP ?_ | refine zQ ?_ | refine zR ?_) | refine zS ?_)
  exact ret1 rfl ⟨by rw [← hd], by (first | exact H | exact H.drop | exact H.d2 | exact H.d3 | exact H.d4 | exact H.d5 | exact H.d6 | exact H.d7)⟩
theorem count_set_lt {met : List Bool} {i : Nat} (hi : i < met.length) (h : met.getD i false = false) : (met.set i true).count false + 1 = met.count false := by
  refine count_set met i ?_
  rw [List.getElem?_eq_getElem hi]
  simpa [hi] using h
theorem reach_met (fs : List Fac) : ∀ (n : Nat) (k : K) (met : List Bool), (reach fs n k met).2.length = met.length ∧ (reach fs n k met).2.count false ≤ met.count false := by
  intro n
  induction n with
  | zero => intro k met; exact ⟨rfl, Nat.le_refl _⟩
  | succ n ih =>
    intro k met
    rw [reach]
    split
    · exact ⟨rfl, Nat.le_refl _⟩
    · cases namedF fs k with
      | none => exact ⟨rfl, Nat.le_refl _⟩
      | some i =>
        simp only
        split
        · exact ⟨rfl, Nat.le_refl _⟩
        · rename_i hm
          have hc : (met.set i true).count false ≤ met.count false := by
            by_cases hi : i < met.length
            · have := count_set_lt hi (by simpa using hm); omega
            · rw [List.set_eq_of_length_le (by omega)]; exact Nat.le_refl _
          refine anyS_inv (P := fun s : List Bool => s.length = met.length ∧ s.count false ≤ met.count false) (fun s x h => ?_) _ _ ⟨by simp, hc⟩
          have := ih x s
          exact ⟨this.1.trans h.1, Nat.le_trans this.2 h.2⟩
theorem namedF_lt {fs : List Fac} {k : K} {i : Nat} (h : namedF fs k = some i) : i < fs.length := by
  unfold namedF at h
  split at h
  · split at h
    · rename_i j hj
      split at h
      · cases h
        exact (List.findIdx?_eq_some_iff_getElem.1 hj).1
      · cases h
    · cases h
  · cases h
theorem reach_ (fs : List Fac) (hl : fs.length ≤ 1000000) : ∀ (n : Nat) (w : World) (As : List HP) (v : Value) (bm : Nat) (k : K) (met : List Bool) (mc : Nat), met.count false < n → met.length = fs.length → fs.length ≤ mc →
    Sat z w (blk bm 4 (met.map .bool) :: As) → SlR As v 4 fs.length (fs.flatMap Fac.c) → (∀ f ∈ fs, f.ok As ∧ f.parts.length ≤ 1000000) →
    Spec cf 103 #[k.v, v, .slice (some ⟨bm, 0, none⟩) fs.length mc] w fun e w' => e = .bool (reach fs n k met).1 ∧ Sat z w' (blk bm 4 ((reach fs n k met).2.map .bool) :: As) := by
  intro n
  induction n with
  | zero => intro w As v bm k met mc h; omega
  | succ n ih =>
    intro w As v bm k met mc hc hm hmc H hv hok
    obtain ⟨a, cp, rfl⟩ := lenW hv
    refine enter (l := [k.v, .slice a fs.length cp, .slice (some ⟨bm, 0, none⟩) fs.length mc]) Tryd.func103 rfl rfl rfl rfl rfl ?_
    repeat' (first | (refine zA ?_; first | refine zB ?_ | (refine OpsW.goCall ?_; first | (refine OpsW.call rfl rfl rfl (sensory_ _ _ _ H k) ?_; rintro _ w ⟨rfl, H⟩)) | refine zC H ?_ | refine zD H ?_ | refine zE H fun _ _ H => ?_ | refine zF H fun _ _ H => ?_ | refine zG H fun _ H => ?_ | refine zH H fun _ H => ?_) | (refine zI ?_; first | refine zJ ?_ | refine zK ?_ | refine zL ?_ | refine zM ?_ | refine zN ?_ | refine zO ?_ | refine zP ?_ | refine zQ ?_ | refine zR ?_) | refine zS ?_)
    cases hs : k.sensory
    · repeat' (first | (refine zA ?_; first | refine zB ?_ | refine zC H ?_ | refine zD H ?_ | refine zE H fun _ _ H => ?_ | refine zF H fun _ _ H => ?_ | refine zG H fun _ H => ?_ | refine zH H fun _ H => ?_) | (refine zI ?_; first | refine zJ ?_ | refine zK ?_ | refine zL ?_ | refine zM ?_ | refine zN ?_ | refine zO ?_ | refine zP ?_ | refine zQ ?_ | refine zR ?_) | refine zS ?_)
      refine OpsW.call rfl rfl rfl (named_ H hv.tail.tail.tail.tail hl k) ?_
      rintro _ w ⟨rfl, H⟩
      have hr : reach fs (n + 1) k met = match namedF fs k with
        | none => (true, met)
        | some i => if met.getD i false then (false, met) else anyS (fun met x => reach fs n x met) (met.set i true) (fs.getD i ⟨0, 0, false, none, 0, []⟩).parts := by
        rw [reach, hs]; rfl
      rw [hr]
      cases e : namedF fs k with
      | none =>
        repeat' (first | (refine zA ?_; first | refine zB ?_ | refine zC H ?_ | refine zD H ?_ | refine zE H fun _ _ H => ?_ | refine zF H fun _ _ H => ?_ | refine zG H fun _ H => ?_ | refine zH H fun _ H => ?_) | (refine zI ?_; first | refine zJ ?_ | refine zK ?_ | refine zL ?_ | refine zM ?_ | refine zN ?_ | refine zO ?_ | refine zP ?_ | refine zQ ?_ | refine zR ?_) | refine zS ?_)
        exact ret1 rfl ⟨rfl, by (first | exact H | exact H.drop | exact H.d2 | exact H.d3 | exact H.d4 | exact H.d5 | exact H.d6 | exact H.d7)⟩
      | some i =>
        have hi := namedF_lt e
        have hd : fs.getD i ⟨0, 0, false, none, 0, []⟩ = fs[i] := by simp [hi]
        have hgd : met.getD i false = met[i]'(by omega) := by simp [hm, hi]
        simp only [hd]
        have hgm : (met.map Value.bool)[0 + i * 1]? = some (.bool (met.getD i false)) := by
          rw [Nat.zero_add, Nat.mul_one, List.getElem?_map, hgd, List.getElem?_eq_getElem (by omega)]; rfl
        repeat' (first | (refine zA ?_; first | refine zB ?_ | refine zC H ?_ | refine zD H ?_ | refine zE H fun _ _ H => ?_ | refine zF H fun _ _ H => ?_ | refine zG H fun _ H => ?_ | refine zH H fun _ H => ?_) | (refine zI ?_; first | refine zJ ?_ | refine zK ?_ | refine zL ?_ | refine zM ?_ | refine zN ?_ | refine zO ?_ | refine zP ?_ | refine zQ ?_ | refine zR ?_) | refine zS ?_)
        refine OpsW.ix (n := i) rfl rfl rfl rfl rfl rfl rfl hi rfl ?_
        refine OpsW.ld H (by (first | exact p0 | exact p1 | exact p2 | exact p3 | exact p4 | exact p5 | exact p6 | exact p7)) rfl rfl rfl rfl hgm rfl ?_
        cases hb : met.getD i false
        · repeat' (first | (refine zA ?_; first | refine zB ?_ | refine zC H ?_ | refine zD H ?_ | refine zE H fun _ _ H => ?_ | refine zF H fun _ _ H => ?_ | refine zG H fun _ H => ?_ | refine zH H fun _ H => ?_) | (refine zI ?_; first | refine zJ ?_ | refine zK ?_ | refine zL ?_ | refine zM ?_ | refine zN ?_ | refine zO ?_ | refine zP ?_ | refine zQ ?_ | refine zR ?_) | refine zS ?_)
          refine OpsW.ix (n := i) rfl rfl rfl rfl rfl rfl rfl hi rfl ?_
          refine OpsW.str H (by (first | exact p0 | exact p1 | exact p2 | exact p3 | exact p4 | exact p5 | exact p6 | exact p7)) rfl rfl rfl rfl rfl rfl (by rw [List.length_map]; omega) fun w H => ?_
          obtain ⟨b, off, m, E, fr, rfl, hbl, hme⟩ := hv.at_ (by omega)
          have hg := fl_get Fac.c 4 Fac.c_len fs [] i 3 hi (by decide)
          rw [List.append_nil] at hg
          have hg2 := (hme i 3 hi (by decide)).trans hg
          obtain ⟨hok1, hok2⟩ := hok fs[i] (List.getElem_mem hi)
          have hset : (met.map Value.bool).set (0 + i * 1) (.bool true) = (met.set i true).map .bool := by
            rw [Nat.zero_add, Nat.mul_one, List.map_set]
          rw [hset] at H
          have hc2 : (met.set i true).count false < n := by
            have := count_set_lt (met := met) (i := i) (by omega) hb; omega
          repeat' (first | (refine zA ?_; first | refine zB ?_ | refine zC H ?_ | refine zD H ?_ | refine zE H fun _ _ H => ?_ | refine zF H fun _ _ H => ?_ | refine zG H fun _ H => ?_ | refine zH H fun _ H => ?_) | (refine zI ?_; first | refine zJ ?_ | refine zK ?_ | refine zL ?_ | refine zM ?_ | refine zN ?_ | refine zO ?_ | refine zP ?_ | refine zQ ?_ | refine zR ?_) | refine zS ?_)
          refine OpsW.ix (n := i) rfl rfl rfl rfl rfl rfl rfl hi rfl ?_
          repeat' (first | (refine zA ?_; first | refine zB ?_ | refine zC H ?_ | refine zD H ?_ | refine zE H fun _ _ H => ?_ | refine zF H fun _ _ H => ?_ | refine zG H fun _ H => ?_ | refine zH H fun _ H => ?_) | (refine zI ?_; first | refine zJ ?_ | refine zK ?_ | refine zL ?_ | refine zM ?_ | refine zN ?_ | refine zO ?_ | refine zP ?_ | refine zQ ?_ | refine zR ?_) | refine zS ?_)
          refine OpsW.ldh (H.has hbl.tail.tail.tail.tail) rfl rfl rfl rfl hg2 rfl ?_
          repeat' (first | (refine zA ?_; first | refine zB ?_ | refine zC H ?_ | refine zD H ?_ | refine zE H fun _ _ H => ?_ | refine zF H fun _ _ H => ?_ | refine zG H fun _ H => ?_ | refine zH H fun _ H => ?_) | (refine zI ?_; first | refine zJ ?_ | refine zK ?_ | refine zL ?_ | refine zM ?_ | refine zN ?_ | refine zO ?_ | refine zP ?_ | refine zQ ?_ | refine zR ?_) | refine zS ?_)
          refine OpsW.call rfl rfl rfl (containsKeys_ (fun met x => reach fs n x met) (fun s => blk bm 4 (s.map .bool) :: blk _ _ _ :: blk _ _ _ :: blk _ _ _ :: As) (fun s => s.count false < n ∧ s.length = fs.length) (by omega) (fun s => SlR.tail (SlR.tail (SlR.tail (SlR.tail hok1)))) ?_ ?_ (met.set i true) ⟨hc2, by rw [List.length_set, hm]⟩ H) ?_
          · intro s x w hs H
            refine enter (l := [x.v, .pointer (some ⟨_, 0, none⟩), .pointer (some ⟨_, 0, none⟩)]) Tryd.func110 rfl rfl rfl rfl rfl ?_
            repeat' (first | (refine zA ?_; first | refine zB ?_ | refine zC H ?_ | refine zD H ?_ | refine zE H fun _ _ H => ?_ | refine zF H fun _ _ H => ?_ | refine zG H fun _ H => ?_ | refine zH H fun _ H => ?_) | (refine zI ?_; first | refine zJ ?_ | refine zK ?_ | refine zL ?_ | refine zM ?_ | refine zN ?_ | refine zO ?_ | refine zP ?_ | refine zQ ?_ | refine zR ?_) | refine zS ?_)
            refine OpsW.call rfl rfl rfl (ih _ _ _ bm x s mc hs.1 hs.2 hmc (H.perm (.swap _ _ _)) hv.tail.tail.tail.tail (fun f hf => ⟨SlR.tail (SlR.tail (SlR.tail (SlR.tail (hok f hf).1))), (hok f hf).2⟩)) ?_
            rintro _ w ⟨rfl, H⟩
            repeat' (first | (refine zA ?_; first | refine zB ?_ | refine zC H ?_ | refine zD H ?_ | refine zE H fun _ _ H => ?_ | refine zF H fun _ _ H => ?_ | refine zG H fun _ H => ?_ | refine zH H fun _ H => ?_) | (refine zI ?_; first | refine zJ ?_ | refine zK ?_ | refine zL ?_ | refine zM ?_ | refine zN ?_ | refine zO ?_ | refine zP ?_ | refine zQ ?_ | refine zR ?_) | refine zS ?_)
            exact ret1 rfl ⟨rfl, (H.perm (.swap _ _ _)).drop⟩
          · intro s x hs
            have := reach_met fs n x s
            exact ⟨Nat.lt_of_le_of_lt this.2 hs.1, this.1.trans hs.2⟩
          · rintro _ w ⟨rfl, H⟩
            simp only [Bool.false_eq_true, if_false]
            repeat' (first | (refine zA ?_; first | refine zB ?_ | refine zC H ?_ | refine zD H ?_ | refine zE H fun _ _ H => ?_ | refine zF H fun _ _ H => ?_ | refine zG H fun _ H => ?_ | refine zH H fun _ H => ?_) | (refine zI ?_; first | refine zJ ?_ | refine zK ?_ | refine zL ?_ | refine zM ?_ | refine zN ?_ | refine zO ?_ | refine zP ?_ | refine zQ ?_ | refine zR ?_) | refine zS ?_)
            exact ret1 rfl ⟨rfl, (H.perm (pS (pS (pS p0))).symm).drop.drop.drop⟩
        · repeat' (first | (refine zA ?_; first | refine zB ?_ | refine zC H ?_ | refine zD H ?_ | refine zE H fun _ _ H => ?_ | refine zF H fun _ _ H => ?_ | refine zG H fun _ H => ?_ | refine zH H fun _ H => ?_) | (refine zI ?_; first | refine zJ ?_ | refine zK ?_ | refine zL ?_ | refine zM ?_ | refine zN ?_ | refine zO ?_ | refine zP ?_ | refine zQ ?_ | refine zR ?_) | refine zS ?_)
          exact ret1 rfl ⟨rfl, by (first | exact H | exact H.drop | exact H.d2 | exact H.d3 | exact H.d4 | exact H.d5 | exact H.d6 | exact H.d7)⟩
    · repeat' (first | (refine zA ?_; first | refine zB ?_ | refine zC H ?_ | refine zD H ?_ | refine zE H fun _ _ H => ?_ | refine zF H fun _ _ H => ?_ | refine zG H fun _ H => ?_ | refine zH H fun _ H => ?_) | (refine zI ?_; first | refine zJ ?_ | refine zK ?_ | refine zL ?_ | refine zM ?_ | refine zN ?_ | refine zO ?_ | refine zP ?_ | refine zQ ?_ | refine zR ?_) | refine zS ?_)
      have hr : reach fs (n + 1) k met = (false, met) := by rw [reach, hs]; rfl
      rw [hr]
      exact ret1 rfl ⟨rfl, by (first | exact H | exact H.drop | exact H.d2 | exact H.d3 | exact H.d4 | exact H.d5 | exact H.d6 | exact H.d7)⟩
end
end Go.Proofs.YtbmfpkpcljihgaaDoor.X
