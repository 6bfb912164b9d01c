/- Contracts of the statements' helpers on errors; conditions: none. -/
import Derived.Test.YtnfefbhjdncccaaDoorR2
import Derived.LaidEql
import Derived.Test.YtnfefbhjdncccaaDoorA4
namespace Go.Proofs.YtnfefbhjdncccaaDoor.X
open Go Go.Proofs
set_option linter.unusedSimpArgs false
set_option linter.unusedVariables false
attribute [local irreducible] CW OpsW RetW Spec blk snap DrawP AnyW AnyM AnyN bits IntKind.wrap vec
abbrev errV (a : Addr) : Value := .iface 237 (.pointer (some a))
abbrev errGs : List Nat := [7, 5, 1, 0, 3, 2, 8, 9, 10, 6, 4, 11]
section
variable {C : Cfg} {N : Nat} {gd : List (Option Nat)} {r : List Oper} {σ : Env} {w z : World} {Q : Env → World → Prop} {As : List HP} {x y : Operand} {d t U E : Nat} {ty yt : TypeId} {pos : String} {af : Array Edge} {g : Option (Nat × Bool)} {a b : Addr} {i j : TypeInfo} {ms : Array (String × TypeId)}
end
section
variable {z w : World} {As : List HP} {ads : List Addr}
theorem errT : ∃ i j, cf.P.info? 237 = some i ∧ i.comparable = true ∧ cf.P.info? 259 = some j ∧ j.size ≠ 0 := by
  have h1 : (cf.P.info? 237).map (·.comparable) = some true := by kernel_rfl
  have h2 : (cf.P.info? 259).map (·.size) = some 1 := by kernel_rfl
  cases e1 : cf.P.info? 237 with
  | none => rw [e1] at h1; cases h1
  | some i =>
    cases e2 : cf.P.info? 259 with
    | none => rw [e2] at h2; cases h2
    | some j =>
      rw [e1] at h1; rw [e2] at h2
      exact ⟨i, j, rfl, by simpa using h1, rfl, by simp at h2; omega⟩
end
end Go.Proofs.YtnfefbhjdncccaaDoor.X

--AUTODROP
namespace Go.Proofs.YtnfefbhjdncccaaDoor.X
open Go Go.Proofs
set_option linter.unusedSimpArgs false
set_option linter.unusedVariables false
attribute [local irreducible] CW OpsW RetW Spec blk snap DrawP AnyW AnyM AnyN bits IntKind.wrap vec
section
variable {z w : World} {Rs : List HP} {ba : Nat} {l : List Pl}
theorem arena_ver (H : Sat z w (arena ba l :: Rs)) (i : Nat) (hi : i < l.length) : Spec cf 56 #[.pointer (some ⟨ba, 0, none⟩), .int .i64 i] w fun r w' => r = .int .i64 l[i].ver ∧ Sat z w' (arena ba l :: Rs) := by
  refine enter (l := [.pointer (some ⟨ba, 0, none⟩), .int .i64 i]) Tryd.func56 rfl rfl rfl rfl rfl ?_
  obtain ⟨b, cap, rest, hc, H⟩ := arena_open H
  have hg := pl_get l rest i 1 hi (by decide)
  repeat' (first | (refine zA ?_; first | refine zB ?_ | refine zC H ?_ | refine zD H ?_ | refine zE H fun _ _ H => ?_ | refine zF H fun _ _ H => ?_ | refine zG H fun _ H => ?_ | refine zH H fun _ H => ?_) | (refine zI ?_; first | refine zJ ?_ | refine zK ?_ | refine zL ?_ | refine zM ?_ | refine zN ?_ | refine zO ?_ | refine zP ?_ | refine zQ ?_ | refine zR ?_) | refine zS ?_)
  refine CW.cond rfl (fun h => absurd (of_decide_eq_true h) (by show ¬ ((i : Int) ≥ (l.length : Int)); omega)) (fun h0 => ?_)
  repeat' (first | (refine zA ?_; first | refine zB ?_ | refine zC H ?_ | refine zD H ?_ | refine zE H fun _ _ H => ?_ | refine zF H fun _ _ H => ?_ | refine zG H fun _ H => ?_ | refine zH H fun _ H => ?_) | (refine zI ?_; first | refine zJ ?_ | refine zK ?_ | refine zL ?_ | refine zM ?_ | refine zN ?_ | refine zO ?_ | refine zP ?_ | refine zQ ?_ | refine zR ?_) | refine zS ?_)
  refine OpsW.ix (n := i) rfl rfl rfl rfl rfl rfl rfl hi rfl ?_
  repeat' (first | (refine zA ?_; first | refine zB ?_ | refine zC H ?_ | refine zD H ?_ | refine zE H fun _ _ H => ?_ | refine zF H fun _ _ H => ?_ | refine zG H fun _ H => ?_ | refine zH H fun _ H => ?_) | (refine zI ?_; first | refine zJ ?_ | refine zK ?_ | refine zL ?_ | refine zM ?_ | refine zN ?_ | refine zO ?_ | refine zP ?_ | refine zQ ?_ | refine zR ?_) | refine zS ?_)
  refine OpsW.ld H (pS p0) rfl rfl rfl rfl hg rfl ?_
  repeat' (first | (refine zA ?_; first | refine zB ?_ | refine zC H ?_ | refine zD H ?_ | refine zE H fun _ _ H => ?_ | refine zF H fun _ _ H => ?_ | refine zG H fun _ H => ?_ | refine zH H fun _ H => ?_) | (refine zI ?_; first | refine zJ ?_ | refine zK ?_ | refine zL ?_ | refine zM ?_ | refine zN ?_ | refine zO ?_ | refine zP ?_ | refine zQ ?_ | refine zR ?_) | refine zS ?_)
  exact ret1 rfl ⟨rfl, arena_close H rfl hc⟩
end
end Go.Proofs.YtnfefbhjdncccaaDoor.X

--AUTODROP
namespace Go.Proofs.YtnfefbhjdncccaaDoor.X
open Go Go.Proofs
set_option linter.unusedSimpArgs false
set_option linter.unusedVariables false
attribute [local irreducible] CW OpsW RetW Spec blk snap DrawP AnyW AnyM AnyN bits IntKind.wrap vec arena
def onN (N : Nat) (f : Nat → Pl) (id : Int) : Bool := decide (0 ≤ id) && (decide (id < N) && (f id.toNat).there)
theorem onN_eq {N : Nat} {f : Nat → Pl} {id : Int} : (decide (0 ≤ id) && ((mk N f).getD id.toNat Pl.z).there) = onN N f id := by
  unfold onN
  by_cases h : 0 ≤ id
  · obtain ⟨k, rfl⟩ := Int.eq_ofNat_of_zero_le h
    rw [show (k : Int).toNat = k from rfl]
    by_cases hk : k < N
    · rw [mk_getD hk, decide_eq_true (show (k : Int) < N by omega)]; simp
    · rw [mk_getD_out (by omega), decide_eq_false (show ¬ (k : Int) < N by omega)]; simp
  · simp [h]
theorem onN_nat {N : Nat} {f : Nat → Pl} {k : Nat} (h : k < N) : onN N f k = (f k).there := by
  unfold onN
  rw [decide_eq_true (show (k : Int) < N by omega), show (k : Int).toNat = k from rfl]; simp
theorem onN_at {N : Nat} {f : Nat → Pl} {id : Int} (h : onN N f id = true) : ∃ k : Nat, id = k ∧ k < N ∧ (f k).there = true := by
  unfold onN at h
  simp only [Bool.and_eq_true, decide_eq_true_eq] at h
  obtain ⟨k, rfl⟩ := Int.eq_ofNat_of_zero_le h.1
  exact ⟨k, rfl, by omega, h.2.2⟩
section
variable {z w : World} {Rs : List HP} {ba N : Nat} {f : Nat → Pl}
theorem arenaN_new (h1 : 1 ≤ N) (h2 : N ≤ 256) (H : Sat z w Rs) :
    Spec cf 114 #[.int .i64 N] w fun e w' => ∃ ba, e = .tuple #[.pointer (some ⟨ba, 0, none⟩), .nilIface] ∧ Sat z w' (arena ba (mk N fun _ => Pl.z) :: Rs) :=
  (arena_new N h1 h2 H).mono fun _ _ ⟨ba, h, H⟩ => ⟨ba, h, by rw [← mk_rep]; exact H⟩
theorem arenaN_there (H : Sat z w (arena ba (mk N f) :: Rs)) (hN : N ≤ 256) (id : Int) :
    Spec cf 55 #[.pointer (some ⟨ba, 0, none⟩), .int .i64 id] w fun r w' => r = .bool (onN N f id) ∧ Sat z w' (arena ba (mk N f) :: Rs) := by
  have := arena_there H (by rw [mk_length]; exact hN) id
  rw [onN_eq] at this; exact this
theorem arenaN_there_at (H : Sat z w (arena ba (mk N f) :: Rs)) (hN : N ≤ 256) (k : Nat) (hk : k < N) (b : Bool) (hb : (f k).there = b) :
    Spec cf 55 #[.pointer (some ⟨ba, 0, none⟩), .int .i64 k] w fun r w' => r = .bool b ∧ Sat z w' (arena ba (mk N f) :: Rs) := by
  have := arenaN_there H hN k
  rw [onN_nat hk, hb] at this; exact this
theorem arenaN_take (H : Sat z w (arena ba (mk N f) :: Rs)) (hN : N ≤ 256) {te : TypeId} {ve : Value} (hE : GlobV Rs 2 (.iface te ve)) (q : Nat) (hq : q < N) (h1 : (f q).free = true) (h2 : ∀ j, j < q → (f j).free = false) :
    Spec cf 52 #[.pointer (some ⟨ba, 0, none⟩)] w fun r w' => r = .tuple #[.int .i64 q, .int .i64 (f q).ver, .nilIface] ∧ Sat z w' (arena ba (mk N fun j => if j = q then (f q).take else f j) :: Rs) := by
  have := arena_take H (by rw [mk_length]; exact hN) hE
  rw [mk_find hq h1 h2] at this
  simp only [mk_getD hq] at this
  rw [mk_set] at this
  exact this
end
end Go.Proofs.YtnfefbhjdncccaaDoor.X
