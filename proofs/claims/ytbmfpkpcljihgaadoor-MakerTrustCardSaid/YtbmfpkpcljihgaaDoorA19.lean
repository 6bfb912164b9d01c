/- Contracts of chapter 19 (holes); conditions: none. -/
import Derived.Test.YtbmfpkpcljihgaaDoorA7S
import Derived.Test.YtbmfpkpcljihgaaDoorGB
namespace Go.Proofs.YtbmfpkpcljihgaaDoor.X
open Go Go.Proofs
set_option linter.unusedSimpArgs false
set_option linter.unusedVariables false
attribute [local irreducible] CW OpsW RetW Spec blk snap DrawP AnyW AnyM AnyN bits IntKind.wrap vec K.sensory
structure Fac where
  id : Int
  ver : Int
  sealed : Bool
  pa : Option Addr
  pc : Nat
  parts : List K
abbrev Fac.c (f : Fac) : List Value := [.int .i64 f.id, .int .i64 f.ver, .bool f.sealed, .slice f.pa f.parts.length f.pc]
theorem Fac.c_len (f : Fac) : f.c.length = 4 := rfl
theorem K.l_len (k : K) : k.l.length = 5 := rfl
def Fac.ok (As : List HP) (f : Fac) : Prop := SlR As (.slice f.pa f.parts.length f.pc) 5 f.parts.length (f.parts.flatMap K.l)
def K.names (k : K) (f : Fac) : Bool := f.id == k.id && f.ver == k.ver
def namedF (fs : List Fac) (k : K) : Option Nat := if k.kind = 9 then (match fs.findIdx? k.names with
  | some i => if (fs.getD i ⟨0, 0, false, none, 0, []⟩).sealed then some i else none
  | none => none) else none
section
variable {z w : World} {As : List HP}
theorem named1_ {bk : Nat} {T : TypeId} {k : K} (H : Sat z w (blk bk T k.l :: As)) (f : Fac) :
    Spec cf 114 #[.agg f.c.toArray, .pointer (some ⟨bk, 0, none⟩)] w fun e w' => e = .bool (k.names f) ∧ Sat z w' (blk bk T k.l :: As) := by
  refine enter (l := [.agg f.c.toArray, .pointer (some ⟨bk, 0, none⟩)]) Tryd.func114 rfl rfl rfl rfl rfl ?_
  repeat' (first | (refine zA ?_; first | refine zB ?_ | refine zC H ?_ | refine zD H ?_ | refine zE H fun _ _ H => ?_ | refine zF H fun _ _ H => ?_ | refine zG H fun _ H => ?_ | refine zH H fun _ H => ?_ | (refine OpsW.gs rfl rfl rfl (fun h => ?_) (fun h => ?_); fail_if_success (with_reducible have h2 : true = true := h); fail_if_success (with_reducible have h2 : false = true := h))) | (refine zI ?_; first | refine zJ ?_ | refine zK ?_ | refine zL ?_ | refine zM ?_ | refine zN ?_ | refine zO ?_ | refine zP ?_ | refine zQ ?_ | refine zR ?_ | (refine CW.cond rfl (fun h => ?_) (fun h => ?_))) | refine zS ?_)
  all_goals
    refine ret1 rfl ⟨?_, by (first | exact H | exact H.drop | exact H.d2 | exact H.d3 | exact H.d4 | exact H.d5 | exact H.d6 | exact H.d7)⟩
    clear H
    simp_all [K.names]
theorem indexFac_ {fn : FuncId} {bk : Nat} {fs : List Fac} {v : Value} (H : Sat z w As) (hv : SlR As v 4 fs.length (fs.flatMap Fac.c)) (hl : fs.length ≤ 9223372036854775807) (p : Fac → Bool)
    (hp : ∀ f ∈ fs, ∀ w, Sat z w As → Spec cf fn #[.agg f.c.toArray, .pointer (some ⟨bk, 0, none⟩)] w fun e w' => e = .bool (p f) ∧ Sat z w' As) :
    Spec cf 113 #[v, .func (.func fn) #[] #[.pointer (some ⟨bk, 0, none⟩)]] w fun e w' => e = .int .i64 (match fs.findIdx? p with | some i => i | none => -1) ∧ Sat z w' As := by
  obtain ⟨a, cp, rfl⟩ := lenW hv
  refine enter (l := [.slice a fs.length cp, .func (.func fn) #[] #[.pointer (some ⟨bk, 0, none⟩)]]) Tryd.func113 rfl rfl rfl rfl rfl ?_
  repeat' (first | (refine zA ?_; first | refine zB ?_ | refine zC H ?_ | refine zD H ?_ | refine zE H fun _ _ H => ?_ | refine zF H fun _ _ H => ?_ | refine zG H fun _ H => ?_ | refine zH H fun _ H => ?_) | (refine zI ?_; first | refine zJ ?_ | refine zK ?_ | refine zL ?_ | refine zM ?_ | refine zN ?_ | refine zO ?_ | refine zP ?_ | refine zQ ?_ | refine zR ?_) | refine zS ?_)
  refine CW.loopF (X := Nat) (fun j => Nat.beq j 5 || Nat.ble 8 j) (fun i => [(8, .int .i64 (i : Int))]) (fun i w => (i ≤ fs.length ∧ ∀ j (hj : j < fs.length), j < i → p fs[j] = false) ∧ Sat z w As) (fun i => fs.length - i) 0 ⟨rfl, trivial⟩ ⟨⟨Nat.zero_le _, fun j _ hj => absurd hj (Nat.not_lt_zero j)⟩, H⟩ ?_
  rintro i τ w ⟨⟨hi, hne⟩, H⟩
  repeat' (first | (refine zA ?_; first | refine zB ?_ | refine zC H ?_ | refine zD H ?_ | refine zE H fun _ _ H => ?_ | refine zF H fun _ _ H => ?_ | refine zG H fun _ H => ?_ | refine zH H fun _ H => ?_) | (refine zI ?_; first | refine zJ ?_ | refine zK ?_ | refine zL ?_ | refine zM ?_ | refine zN ?_ | refine zO ?_ | refine zP ?_ | refine zQ ?_ | refine zR ?_) | refine zS ?_)
  refine CW.cond rfl (fun h => ?_) (fun h => ?_)
  · have hi' : i < fs.length := by simpa using h
    have hvs := fl_take Fac.c 4 Fac.c_len fs [] i hi'
    rw [List.append_nil] at hvs
    repeat' (first | (refine zA ?_; first | refine zB ?_ | refine zC H ?_ | refine zD H ?_ | refine zE H fun _ _ H => ?_ | refine zF H fun _ _ H => ?_ | refine zG H fun _ H => ?_ | refine zH H fun _ H => ?_) | (refine zI ?_; first | refine zJ ?_ | refine zK ?_ | refine zL ?_ | refine zM ?_ | refine zN ?_ | refine zO ?_ | refine zP ?_ | refine zQ ?_ | refine zR ?_) | refine zS ?_)
    refine OpsW.ixldA H hv rfl (fun _ => rfl) rfl rfl rfl rfl rfl rfl rfl rfl hi' hvs rfl rfl fun pp => ?_
    repeat' (first | (refine zA ?_; first | refine zB ?_ | refine zC H ?_ | refine zD H ?_ | refine zE H fun _ _ H => ?_ | refine zF H fun _ _ H => ?_ | refine zG H fun _ H => ?_ | refine zH H fun _ H => ?_) | (refine zI ?_; first | refine zJ ?_ | refine zK ?_ | refine zL ?_ | refine zM ?_ | refine zN ?_ | refine zO ?_ | refine zP ?_ | refine zQ ?_ | refine zR ?_) | refine zS ?_)
    refine OpsW.callv rfl rfl rfl rfl (hp fs[i] (List.getElem_mem hi') w H) ?_
    rintro _ w ⟨rfl, H⟩
    repeat' (first | (refine zA ?_; first | refine zB ?_ | refine zC H ?_ | refine zD H ?_ | refine zE H fun _ _ H => ?_ | refine zF H fun _ _ H => ?_ | refine zG H fun _ H => ?_ | refine zH H fun _ H => ?_) | (refine zI ?_; first | refine zJ ?_ | refine zK ?_ | refine zL ?_ | refine zM ?_ | refine zN ?_ | refine zO ?_ | refine zP ?_ | refine zQ ?_ | refine zR ?_) | refine zS ?_)
    refine CW.cond rfl (fun h5 => ?_) (fun h5 => ?_)
    · repeat' (first | (refine zA ?_; first | refine zB ?_ | refine zC H ?_ | refine zD H ?_ | refine zE H fun _ _ H => ?_ | refine zF H fun _ _ H => ?_ | refine zG H fun _ H => ?_ | refine zH H fun _ H => ?_) | (refine zI ?_; first | refine zJ ?_ | refine zK ?_ | refine zL ?_ | refine zM ?_ | refine zN ?_ | refine zO ?_ | refine zP ?_ | refine zQ ?_ | refine zR ?_) | refine zS ?_)
      refine ret1 rfl ⟨?_, by (first | exact H | exact H.drop | exact H.d2 | exact H.d3 | exact H.d4 | exact H.d5 | exact H.d6 | exact H.d7)⟩
      have e : fs.findIdx? p = some i := by
        rw [List.findIdx?_eq_some_iff_getElem]
        exact ⟨hi', h5, fun j hj => by rw [hne j (by omega) hj]; simp⟩
      rw [e]
    · repeat' (first | (refine zA ?_; first | refine zB ?_ | refine zC H ?_ | refine zD H ?_ | refine zE H fun _ _ H => ?_ | refine zF H fun _ _ H => ?_ | refine zG H fun _ H => ?_ | refine zH H fun _ H => ?_) | (refine zI ?_; first | refine zJ ?_ | refine zK ?_ | refine zL ?_ | refine zM ?_ | refine zN ?_ | refine zO ?_ | refine zP ?_ | refine zQ ?_ | refine zR ?_) | refine zS ?_)
      exact ⟨i + 1, (by (repeat (first | (with_reducible exact Agree.refl _ _) | (with_reducible refine Agree.trim (by assumption) ?_) | refine Agree.upd ?_ rfl | exact Agree.mix' | refine Agree.mixL ?_ (fun j h => by simp only [Bool.or_eq_true, Bool.and_eq_true, Nat.beq_eq, Nat.ble_eq] at h ⊢; omega) rfl))), ⟨nat_succ hi' hl, trivial⟩, ⟨⟨hi', fun j hj hji => by
        by_cases e : j = i
        · subst e; exact h5
        · exact hne j hj (by omega)⟩, H⟩, by omega⟩
  · repeat' (first | (refine zA ?_; first | refine zB ?_ | refine zC H ?_ | refine zD H ?_ | refine zE H fun _ _ H => ?_ | refine zF H fun _ _ H => ?_ | refine zG H fun _ H => ?_ | refine zH H fun _ H => ?_) | (refine zI ?_; first | refine zJ ?_ | refine zK ?_ | refine zL ?_ | refine zM ?_ | refine zN ?_ | refine zO ?_ | refine zP ?_ | refine zQ ?_ | refine zR ?_) | refine zS ?_)
    refine ret1 rfl ⟨?_, by (first | exact H | exact H.drop | exact H.d2 | exact H.d3 | exact H.d4 | exact H.d5 | exact H.d6 | exact H.d7)⟩
    have hil : i = fs.length := by simp at h; omega
    have e : fs.findIdx? p = none := by
      rw [List.findIdx?_eq_none_iff]
      intro y hy
      obtain ⟨j, hj, rfl⟩ := List.mem_iff_getElem.1 hy
      exact hne j hj (by omega)
    rw [e]
theorem named_ {fs : List Fac} {v : Value} (H : Sat z w As) (hv : SlR As v 4 fs.length (fs.flatMap Fac.c)) (hl : fs.length ≤ 1000000) (k : K) :
    Spec cf 108 #[k.v, v] w fun e w' => e = .int .i64 (match namedF fs k with | some i => i | none => -1) ∧ Sat z w' As := by
  obtain ⟨a, cp, rfl⟩ := lenW hv
  refine enter (l := [k.v, .slice a fs.length cp]) Tryd.func108 rfl rfl rfl rfl rfl ?_
  repeat' (first | (refine zA ?_; first | refine zB ?_ | refine zC H ?_ | refine zD H ?_ | refine zE H fun _ _ H => ?_ | refine zF H fun _ _ H => ?_ | refine zG H fun _ H => ?_ | refine zH H fun _ H => ?_) | (refine zI ?_; first | refine zJ ?_ | refine zK ?_ | refine zL ?_ | refine zM ?_ | refine zN ?_ | refine zO ?_ | refine zP ?_ | refine zQ ?_ | refine zR ?_) | refine zS ?_)
  refine CW.cond rfl (fun h => ?_) (fun h => ?_)
  · repeat' (first | (refine zA ?_; first | refine zB ?_ | refine zC H ?_ | refine zD H ?_ | refine zE H fun _ _ H => ?_ | refine zF H fun _ _ H => ?_ | refine zG H fun _ H => ?_ | refine zH H fun _ H => ?_) | (refine zI ?_; first | refine zJ ?_ | refine zK ?_ | refine zL ?_ | refine zM ?_ | refine zN ?_ | refine zO ?_ | refine zP ?_ | refine zQ ?_ | refine zR ?_) | refine zS ?_)
    refine ret1 rfl ⟨?_, by (first | exact H | exact H.drop | exact H.d2 | exact H.d3 | exact H.d4 | exact H.d5 | exact H.d6 | exact H.d7)⟩
    have : ¬ k.kind = 9 := by simpa using h
    rw [namedF, if_neg this]
  · have hk : k.kind = 9 := by simpa using h
    repeat' (first | (refine zA ?_; first | refine zB ?_ | refine zC H ?_ | refine zD H ?_ | refine zE H fun _ _ H => ?_ | refine zF H fun _ _ H => ?_ | refine zG H fun _ H => ?_ | refine zH H fun _ H => ?_) | (refine zI ?_; first | refine zJ ?_ | refine zK ?_ | refine zL ?_ | refine zM ?_ | refine zN ?_ | refine zO ?_ | refine zP ?_ | refine zQ ?_ | refine zR ?_) | refine zS ?_)
    refine OpsW.call rfl rfl rfl (indexFac_ H hv.tail (by omega) k.names fun f _ w H => named1_ H f) ?_
    rintro _ w ⟨rfl, H⟩
    cases e : fs.findIdx? k.names with
    | none =>
      repeat' (first | (refine zA ?_; first | refine zB ?_ | refine zC H ?_ | refine zD H ?_ | refine zE H fun _ _ H => ?_ | refine zF H fun _ _ H => ?_ | refine zG H fun _ H => ?_ | refine zH H fun _ H => ?_) | (refine zI ?_; first | refine zJ ?_ | refine zK ?_ | refine zL ?_ | refine zM ?_ | refine zN ?_ | refine zO ?_ | refine zP ?_ | refine zQ ?_ | refine zR ?_) | refine zS ?_)
      refine ret1 rfl ⟨?_, by (first | exact H | exact H.drop | exact H.d2 | exact H.d3 | exact H.d4 | exact H.d5 | exact H.d6 | exact H.d7)⟩
      rw [namedF, if_pos hk, e]
    | some i =>
      obtain ⟨hi, _, _⟩ := List.findIdx?_eq_some_iff_getElem.1 e
      have hd : fs.getD i ⟨0, 0, false, none, 0, []⟩ = fs[i] := by simp [hi]
      have hn : namedF fs k = if fs[i].sealed then some i else none := by
        rw [namedF, if_pos hk, e]; simp only [hd]
      rw [hn]
      have hg := fl_get Fac.c 4 Fac.c_len fs [] i 2 hi (by decide)
      rw [List.append_nil] at hg
      obtain ⟨b, off, m, E, fr, rfl, hb, hm⟩ := hv.at_ (by omega)
      have hg2 := (hm i 2 hi (by decide)).trans hg
      repeat' (first | (refine zA ?_; first | refine zB ?_ | refine zC H ?_ | refine zD H ?_ | refine zE H fun _ _ H => ?_ | refine zF H fun _ _ H => ?_ | refine zG H fun _ H => ?_ | refine zH H fun _ H => ?_) | (refine zI ?_; first | refine zJ ?_ | refine zK ?_ | refine zL ?_ | refine zM ?_ | refine zN ?_ | refine zO ?_ | refine zP ?_ | refine zQ ?_ | refine zR ?_) | refine zS ?_)
      refine OpsW.gs rfl rfl rfl (fun h => absurd (of_decide_eq_true h) (by show ¬ ((i : Int) < 0); omega)) (fun h0 => ?_)
      repeat' (first | (refine zA ?_; first | refine zB ?_ | refine zC H ?_ | refine zD H ?_ | refine zE H fun _ _ H => ?_ | refine zF H fun _ _ H => ?_ | refine zG H fun _ H => ?_ | refine zH H fun _ H => ?_) | (refine zI ?_; first | refine zJ ?_ | refine zK ?_ | refine zL ?_ | refine zM ?_ | refine zN ?_ | refine zO ?_ | refine zP ?_ | refine zQ ?_ | refine zR ?_) | refine zS ?_)
      refine OpsW.ix (n := i) rfl rfl rfl rfl rfl rfl rfl hi rfl ?_
      repeat' (first | (refine zA ?_; first | refine zB ?_ | refine zC H ?_ | refine zD H ?_ | refine zE H fun _ _ H => ?_ | refine zF H fun _ _ H => ?_ | refine zG H fun _ H => ?_ | refine zH H fun _ H => ?_) | (refine zI ?_; first | refine zJ ?_ | refine zK ?_ | refine zL ?_ | refine zM ?_ | refine zN ?_ | refine zO ?_ | refine zP ?_ | refine zQ ?_ | refine zR ?_) | refine zS ?_)
      refine OpsW.ldh (H.has hb.tail) rfl rfl rfl rfl hg2 rfl ?_
      cases hs : fs[i].sealed
      · repeat' (first | (refine zA ?_; first | refine zB ?_ | refine zC H ?_ | refine zD H ?_ | refine zE H fun _ _ H => ?_ | refine zF H fun _ _ H => ?_ | refine zG H fun _ H => ?_ | refine zH H fun _ H => ?_) | (refine zI ?_; first | refine zJ ?_ | refine zK ?_ | refine zL ?_ | refine zM ?_ | refine zN ?_ | refine zO ?_ | refine zP ?_ | refine zQ ?_ | refine zR ?_) | refine zS ?_)
        refine ret1 rfl ⟨rfl, by (first | exact H | exact H.drop | exact H.d2 | exact H.d3 | exact H.d4 | exact H.d5 | exact H.d6 | exact H.d7)⟩
      · repeat' (first | (refine zA ?_; first | refine zB ?_ | refine zC H ?_ | refine zD H ?_ | refine zE H fun _ _ H => ?_ | refine zF H fun _ _ H => ?_ | refine zG H fun _ H => ?_ | refine zH H fun _ H => ?_) | (refine zI ?_; first | refine zJ ?_ | refine zK ?_ | refine zL ?_ | refine zM ?_ | refine zN ?_ | refine zO ?_ | refine zP ?_ | refine zQ ?_ | refine zR ?_) | refine zS ?_)
        refine ret1 rfl ⟨rfl, by (first | exact H | exact H.drop | exact H.d2 | exact H.d3 | exact H.d4 | exact H.d5 | exact H.d6 | exact H.d7)⟩
end
end Go.Proofs.YtbmfpkpcljihgaaDoor.X
