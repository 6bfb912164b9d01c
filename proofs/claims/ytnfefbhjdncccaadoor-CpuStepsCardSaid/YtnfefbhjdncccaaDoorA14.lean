/- Contracts of chapter 14 (code): instructions; conditions: none. -/
import Derived.Test.YtnfefbhjdncccaaDoorX25
import Derived.Test.YtnfefbhjdncccaaDoorAE
import Derived.Test.YtnfefbhjdncccaaDoorR0
namespace Go.Proofs.YtnfefbhjdncccaaDoor.X
open Go Go.Proofs
set_option linter.unusedSimpArgs false
set_option linter.unusedVariables false
structure Ins where
  op : Int
  a : Int
  b : Int
  c : Int
  imm : Int
abbrev Ins.l (i : Ins) : List Value := [.int .i64 i.op, .int .i64 i.a, .int .i64 i.b, .int .i64 i.c, .int .i64 i.imm]
abbrev Ins.v (i : Ins) : Value := .agg #[.int .i64 i.op, .int .i64 i.a, .int .i64 i.b, .int .i64 i.c, .int .i64 i.imm]
def inR (n m : Int) : Bool := decide (0 ≤ n) && decide (n < m)
def Ins.fit (i : Ins) : Bool :=
  if i.op = 1 ∨ i.op = 2 ∨ i.op = 5 then inR i.a 8 && i.b == 0 && i.c == 0 && inR i.imm 4096
  else if i.op = 3 then inR i.a 8 && inR i.b 8 && inR i.c 8 && inR i.imm 12
  else if i.op = 4 then i.a == 0 && i.b == 0 && i.c == 0 && inR i.imm 4096
  else if i.op = 6 ∨ i.op = 7 then inR i.a 8 && inR i.b 8 && i.c == 0 && inR i.imm 4096
  else if i.op = 8 then inR i.a 16 && inR i.b 16 && i.c == 0 && i.imm == 0
  else if i.op = 9 then inR i.a 16 && inR i.b 8 && i.c == 0 && i.imm == 0
  else if i.op = 10 then inR i.a 8 && inR i.b 16 && i.c == 0 && i.imm == 0
  else if i.op = 11 then inR i.a 3 && inR i.b 16 && inR i.c 16 && i.imm == 0
  else i.a == 0 && i.b == 0 && i.c == 0 && i.imm == 0
def Ins.ec (i : Ins) : Nat := if i.op < 1 ∨ 13 < i.op then 11 else if i.fit then 0 else 3
def forms : List (List Nat) := [[], [114, 110], [114, 110], [111, 114, 114, 114], [110], [114, 110], [114, 114, 110], [114, 114, 110], [107, 107], [107, 114], [114, 107], [104, 107, 107], [], []]
def formL (op : Int) : List Nat := if 0 ≤ op ∧ op < 14 then forms.getD op.toNat [] else []
theorem forms_get (op : Int) (h : 0 ≤ op) (h' : op < 14) : (forms.map fun l => Value.string (asc l))[0 + op.toNat * 1]? = some (.string (asc (formL op))) := by
  rw [Nat.mul_one, Nat.zero_add, List.getElem?_map, formL, if_pos ⟨h, h'⟩]
  have : op.toNat < forms.length := by show op.toNat < 14; omega
  rw [List.getD_eq_getElem?_getD, List.getElem?_eq_getElem this]; rfl
attribute [local irreducible] CW OpsW RetW Spec blk snap DrawP AnyW AnyM AnyN bits IntKind.wrap vec itr asc
section
variable {z w : World} {As : List HP}
set_option maxHeartbeats 4000000 in
theorem form_ (H : Sat z w As) (op : Int) : Spec cf 132 #[.int .i64 op] w fun e w' => e = .string (asc (formL op)) ∧ Sat z w' As := by
  refine enter (l := [.int .i64 op]) Tryd.func132 rfl rfl rfl rfl rfl ?_
  repeat' (first | (refine zA ?_; first | refine zB ?_ | refine zC H ?_ | refine zD H ?_ | refine zE H fun _ _ H => ?_ | refine zF H fun _ _ H => ?_ | refine zG H fun _ H => ?_ | refine zH H fun _ H => ?_ | (refine OpsW.gs rfl rfl rfl (fun h => ?_) (fun h => ?_); fail_if_success (with_reducible have h2 : true = true := h); fail_if_success (with_reducible have h2 : false = true := h))) | (refine zI ?_; first | refine zJ ?_ | refine zK ?_ | refine zL ?_ | refine zM ?_ | refine zN ?_ | refine zO ?_ | refine zP ?_ | refine zQ ?_ | refine zR ?_ | (refine CW.cond rfl (fun h => ?_) (fun h => ?_))) | refine zS ?_)
  refine OpsW.bsl H rfl rfl rfl rfl rfl rfl rfl rfl fun b w H => ?_
  replace H : Sat z w (blk b 9 (forms.map fun l => Value.string (asc l)) :: As) := by with_unfolding_all exact H
  repeat' (first | (refine zA ?_; first | refine zB ?_ | refine zC H ?_ | refine zD H ?_ | refine zE H fun _ _ H => ?_ | refine zF H fun _ _ H => ?_ | refine zG H fun _ H => ?_ | refine zH H fun _ H => ?_ | (refine OpsW.gs rfl rfl rfl (fun h => ?_) (fun h => ?_); fail_if_success (with_reducible have h2 : true = true := h); fail_if_success (with_reducible have h2 : false = true := h))) | (refine zI ?_; first | refine zJ ?_ | refine zK ?_ | refine zL ?_ | refine zM ?_ | refine zN ?_ | refine zO ?_ | refine zP ?_ | refine zQ ?_ | refine zR ?_ | (refine CW.cond rfl (fun h => ?_) (fun h => ?_))) | refine zS ?_)
  · refine ret1 rfl ⟨?_, by (first | exact H | exact H.drop | exact H.d2 | exact H.d3 | exact H.d4 | exact H.d5 | exact H.d6 | exact H.d7)⟩
    simp at h; rw [formL, if_neg (by omega)]; with_unfolding_all rfl
  · refine ret1 rfl ⟨?_, by (first | exact H | exact H.drop | exact H.d2 | exact H.d3 | exact H.d4 | exact H.d5 | exact H.d6 | exact H.d7)⟩
    rename_i h1
    simp at h h1; rw [formL, if_neg (by omega)]; with_unfolding_all rfl
  · rename_i h1
    simp at h h1
    refine OpsW.ix (n := op.toNat) rfl rfl rfl rfl rfl rfl (by omega) (by omega) rfl ?_
    refine OpsW.ld H (by (first | exact p0 | exact p1 | exact p2 | exact p3 | exact p4 | exact p5 | exact p6 | exact p7)) rfl rfl rfl rfl (forms_get op h1 (by omega)) rfl ?_
    repeat' (first | (refine zA ?_; first | refine zB ?_ | refine zC H ?_ | refine zD H ?_ | refine zE H fun _ _ H => ?_ | refine zF H fun _ _ H => ?_ | refine zG H fun _ H => ?_ | refine zH H fun _ H => ?_ | (refine OpsW.gs rfl rfl rfl (fun h => ?_) (fun h => ?_); fail_if_success (with_reducible have h2 : true = true := h); fail_if_success (with_reducible have h2 : false = true := h))) | (refine zI ?_; first | refine zJ ?_ | refine zK ?_ | refine zL ?_ | refine zM ?_ | refine zN ?_ | refine zO ?_ | refine zP ?_ | refine zQ ?_ | refine zR ?_ | (refine CW.cond rfl (fun h => ?_) (fun h => ?_))) | refine zS ?_)
    exact ret1 rfl ⟨rfl, by (first | exact H | exact H.drop | exact H.d2 | exact H.d3 | exact H.d4 | exact H.d5 | exact H.d6 | exact H.d7)⟩
theorem regs_ (H : Sat z w As) (i : Ins) : Spec cf 131 #[i.v] w fun e w' => ∃ b, e = .slice (some ⟨b, 0, none⟩) (if i.op = 11 then 2 else 3) (if i.op = 11 then 2 else 3) ∧ Sat z w' (blk b 3 (if i.op = 11 then [.int .i64 i.b, .int .i64 i.c] else [.int .i64 i.a, .int .i64 i.b, .int .i64 i.c]) :: As) := by
  refine enter (l := [i.v]) Tryd.func131 rfl rfl rfl rfl rfl ?_
  repeat' (first | (refine zA ?_; first | refine zB ?_ | refine zC H ?_ | refine zD H ?_ | refine zE H fun _ _ H => ?_ | refine zF H fun _ _ H => ?_ | refine zG H fun _ H => ?_ | refine zH H fun _ H => ?_ | (refine OpsW.gs rfl rfl rfl (fun h => ?_) (fun h => ?_); fail_if_success (with_reducible have h2 : true = true := h); fail_if_success (with_reducible have h2 : false = true := h))) | (refine zI ?_; first | refine zJ ?_ | refine zK ?_ | refine zL ?_ | refine zM ?_ | refine zN ?_ | refine zO ?_ | refine zP ?_ | refine zQ ?_ | refine zR ?_ | (refine CW.cond rfl (fun h => ?_) (fun h => ?_))) | refine zS ?_)
  · have h0 : i.op = 11 := by simpa using h
    rw [if_pos h0, if_pos h0]
    refine OpsW.bsl H rfl rfl rfl rfl rfl rfl rfl rfl fun b w H => ?_
    repeat' (first | (refine zA ?_; first | refine zB ?_ | refine zC H ?_ | refine zD H ?_ | refine zE H fun _ _ H => ?_ | refine zF H fun _ _ H => ?_ | refine zG H fun _ H => ?_ | refine zH H fun _ H => ?_ | (refine OpsW.gs rfl rfl rfl (fun h => ?_) (fun h => ?_); fail_if_success (with_reducible have h2 : true = true := h); fail_if_success (with_reducible have h2 : false = true := h))) | (refine zI ?_; first | refine zJ ?_ | refine zK ?_ | refine zL ?_ | refine zM ?_ | refine zN ?_ | refine zO ?_ | refine zP ?_ | refine zQ ?_ | refine zR ?_ | (refine CW.cond rfl (fun h => ?_) (fun h => ?_))) | refine zS ?_)
    exact ret1 rfl ⟨b, rfl, (H.perm (.swap _ _ _)).drop⟩
  · have h0 : ¬ i.op = 11 := by simpa using h
    rw [if_neg h0, if_neg h0]
    refine OpsW.bsl H rfl rfl rfl rfl rfl rfl rfl rfl fun b w H => ?_
    repeat' (first | (refine zA ?_; first | refine zB ?_ | refine zC H ?_ | refine zD H ?_ | refine zE H fun _ _ H => ?_ | refine zF H fun _ _ H => ?_ | refine zG H fun _ H => ?_ | refine zH H fun _ H => ?_ | (refine OpsW.gs rfl rfl rfl (fun h => ?_) (fun h => ?_); fail_if_success (with_reducible have h2 : true = true := h); fail_if_success (with_reducible have h2 : false = true := h))) | (refine zI ?_; first | refine zJ ?_ | refine zK ?_ | refine zL ?_ | refine zM ?_ | refine zN ?_ | refine zO ?_ | refine zP ?_ | refine zQ ?_ | refine zR ?_ | (refine CW.cond rfl (fun h => ?_) (fun h => ?_))) | refine zS ?_)
    exact ret1 rfl ⟨b, rfl, (H.perm (.swap _ _ _)).drop⟩
theorem fits1_ (H : Sat z w As) (n : Int) : Spec cf 133 #[.int .i64 n] w fun e w' => e = .bool (n != 0) ∧ Sat z w' As := by
  refine enter (l := [.int .i64 n]) Tryd.func133 rfl rfl rfl rfl rfl ?_
  repeat' (first | (refine zA ?_; first | refine zB ?_ | refine zC H ?_ | refine zD H ?_ | refine zE H fun _ _ H => ?_ | refine zF H fun _ _ H => ?_ | refine zG H fun _ H => ?_ | refine zH H fun _ H => ?_ | (refine OpsW.gs rfl rfl rfl (fun h => ?_) (fun h => ?_); fail_if_success (with_reducible have h2 : true = true := h); fail_if_success (with_reducible have h2 : false = true := h))) | (refine zI ?_; first | refine zJ ?_ | refine zK ?_ | refine zL ?_ | refine zM ?_ | refine zN ?_ | refine zO ?_ | refine zP ?_ | refine zQ ?_ | refine zR ?_ | (refine CW.cond rfl (fun h => ?_) (fun h => ?_))) | refine zS ?_)
  exact ret1 rfl ⟨rfl, H⟩
theorem ixNz_ {fn : FuncId} {m : List Int} {v : Value} (H : Sat z w As) (hv : SlR As v 1 m.length (m.map (.int .i64))) (hl : m.length ≤ 9223372036854775807) (p : Int → Bool)
    (hp : ∀ x ∈ m, ∀ w, Sat z w As → Spec cf fn #[.int .i64 x] w fun e w' => e = .bool (p x) ∧ Sat z w' As) :
    Spec cf 118 #[v, .func (.func fn) #[] #[]] w fun e w' => e = .int .i64 (match m.findIdx? p with | some i => i | none => -1) ∧ Sat z w' As := by
  obtain ⟨a, cp, rfl⟩ := lenW hv
  refine enter (l := [.slice a m.length cp, .func (.func fn) #[] #[]]) Tryd.func118 rfl rfl rfl rfl rfl ?_
  repeat' (first | (refine zA ?_; first | refine zB ?_ | refine zC H ?_ | refine zD H ?_ | refine zE H fun _ _ H => ?_ | refine zF H fun _ _ H => ?_ | refine zG H fun _ H => ?_ | refine zH H fun _ H => ?_) | (refine zI ?_; first | refine zJ ?_ | refine zK ?_ | refine zL ?_ | refine zM ?_ | refine zN ?_ | refine zO ?_ | refine zP ?_ | refine zQ ?_ | refine zR ?_) | refine zS ?_)
  refine CW.loopF (X := Nat) (fun j => Nat.beq j 5 || Nat.ble 8 j) (fun i => [(8, .int .i64 (i : Int))]) (fun i w => (i ≤ m.length ∧ ∀ j (hj : j < m.length), j < i → p m[j] = false) ∧ Sat z w As) (fun i => m.length - i) 0 ⟨rfl, trivial⟩ ⟨⟨Nat.zero_le _, fun j _ hj => absurd hj (Nat.not_lt_zero j)⟩, H⟩ ?_
  rintro i τ w ⟨⟨hi, hne⟩, H⟩
  repeat' (first | (refine zA ?_; first | refine zB ?_ | refine zC H ?_ | refine zD H ?_ | refine zE H fun _ _ H => ?_ | refine zF H fun _ _ H => ?_ | refine zG H fun _ H => ?_ | refine zH H fun _ H => ?_) | (refine zI ?_; first | refine zJ ?_ | refine zK ?_ | refine zL ?_ | refine zM ?_ | refine zN ?_ | refine zO ?_ | refine zP ?_ | refine zQ ?_ | refine zR ?_) | refine zS ?_)
  refine CW.cond rfl (fun h => ?_) (fun h => ?_)
  · have hi' : i < m.length := by simpa using h
    have hx : (m.map (Value.int .i64))[i]? = some (.int .i64 m[i]) := by simp [hi']
    repeat' (first | (refine zA ?_; first | refine zB ?_ | refine zC H ?_ | refine zD H ?_ | refine zE H fun _ _ H => ?_ | refine zF H fun _ _ H => ?_ | refine zG H fun _ H => ?_ | refine zH H fun _ H => ?_) | (refine zI ?_; first | refine zJ ?_ | refine zK ?_ | refine zL ?_ | refine zM ?_ | refine zN ?_ | refine zO ?_ | refine zP ?_ | refine zQ ?_ | refine zR ?_) | refine zS ?_)
    refine OpsW.ixld H hv rfl (fun _ => rfl) rfl rfl rfl rfl rfl rfl rfl rfl hi' hx rfl rfl fun pp => ?_
    repeat' (first | (refine zA ?_; first | refine zB ?_ | refine zC H ?_ | refine zD H ?_ | refine zE H fun _ _ H => ?_ | refine zF H fun _ _ H => ?_ | refine zG H fun _ H => ?_ | refine zH H fun _ H => ?_) | (refine zI ?_; first | refine zJ ?_ | refine zK ?_ | refine zL ?_ | refine zM ?_ | refine zN ?_ | refine zO ?_ | refine zP ?_ | refine zQ ?_ | refine zR ?_) | refine zS ?_)
    refine OpsW.callv rfl rfl rfl rfl (hp m[i] (List.getElem_mem hi') w H) ?_
    rintro _ w ⟨rfl, H⟩
    repeat' (first | (refine zA ?_; first | refine zB ?_ | refine zC H ?_ | refine zD H ?_ | refine zE H fun _ _ H => ?_ | refine zF H fun _ _ H => ?_ | refine zG H fun _ H => ?_ | refine zH H fun _ H => ?_) | (refine zI ?_; first | refine zJ ?_ | refine zK ?_ | refine zL ?_ | refine zM ?_ | refine zN ?_ | refine zO ?_ | refine zP ?_ | refine zQ ?_ | refine zR ?_) | refine zS ?_)
    refine CW.cond rfl (fun h5 => ?_) (fun h5 => ?_)
    · repeat' (first | (refine zA ?_; first | refine zB ?_ | refine zC H ?_ | refine zD H ?_ | refine zE H fun _ _ H => ?_ | refine zF H fun _ _ H => ?_ | refine zG H fun _ H => ?_ | refine zH H fun _ H => ?_) | (refine zI ?_; first | refine zJ ?_ | refine zK ?_ | refine zL ?_ | refine zM ?_ | refine zN ?_ | refine zO ?_ | refine zP ?_ | refine zQ ?_ | refine zR ?_) | refine zS ?_)
      refine ret1 rfl ⟨?_, by (first | exact H | exact H.drop | exact H.d2 | exact H.d3 | exact H.d4 | exact H.d5 | exact H.d6 | exact H.d7)⟩
      have e : m.findIdx? p = some i := by
        rw [List.findIdx?_eq_some_iff_getElem]
        exact ⟨hi', h5, fun j hj => by rw [hne j (by omega) hj]; simp⟩
      rw [e]
    · repeat' (first | (refine zA ?_; first | refine zB ?_ | refine zC H ?_ | refine zD H ?_ | refine zE H fun _ _ H => ?_ | refine zF H fun _ _ H => ?_ | refine zG H fun _ H => ?_ | refine zH H fun _ H => ?_) | (refine zI ?_; first | refine zJ ?_ | refine zK ?_ | refine zL ?_ | refine zM ?_ | refine zN ?_ | refine zO ?_ | refine zP ?_ | refine zQ ?_ | refine zR ?_) | refine zS ?_)
      exact ⟨i + 1, (by (repeat (first | (with_reducible exact Agree.refl _ _) | (with_reducible refine Agree.trim (by assumption) ?_) | refine Agree.upd ?_ rfl | exact Agree.mix' | refine Agree.mixL ?_ (fun j h => by simp only [Bool.or_eq_true, Bool.and_eq_true, Nat.beq_eq, Nat.ble_eq] at h ⊢; omega) rfl))), ⟨nat_succ hi' hl, trivial⟩, ⟨⟨hi', fun j hj hji => by
        by_cases e : j = i
        · subst e; exact h5
        · exact hne j hj (by omega)⟩, H⟩, by omega⟩
  · repeat' (first | (refine zA ?_; first | refine zB ?_ | refine zC H ?_ | refine zD H ?_ | refine zE H fun _ _ H => ?_ | refine zF H fun _ _ H => ?_ | refine zG H fun _ H => ?_ | refine zH H fun _ H => ?_) | (refine zI ?_; first | refine zJ ?_ | refine zK ?_ | refine zL ?_ | refine zM ?_ | refine zN ?_ | refine zO ?_ | refine zP ?_ | refine zQ ?_ | refine zR ?_) | refine zS ?_)
    refine ret1 rfl ⟨?_, by (first | exact H | exact H.drop | exact H.d2 | exact H.d3 | exact H.d4 | exact H.d5 | exact H.d6 | exact H.d7)⟩
    have hil : i = m.length := by simp at h; omega
    have e : m.findIdx? p = none := by
      rw [List.findIdx?_eq_none_iff]
      intro y hy
      obtain ⟨j, hj, rfl⟩ := List.mem_iff_getElem.1 hy
      exact hne j hj (by omega)
    rw [e]
theorem find_anyN {α : Type} (p : α → Bool) (m : List α) : decide ((match m.findIdx? p with | some i => (i : Int) | none => -1) ≥ 0) = m.any p := by
  cases e : m.findIdx? p with
  | some i =>
    dsimp only
    obtain ⟨hi, h1, _⟩ := List.findIdx?_eq_some_iff_getElem.1 e
    rw [show m.any p = true from List.any_eq_true.2 ⟨m[i], List.getElem_mem hi, h1⟩]
    exact decide_eq_true (by omega)
  | none =>
    dsimp only
    rw [List.findIdx?_eq_none_iff] at e
    rw [show m.any p = false from List.any_eq_false.2 fun x hx => by rw [e x hx]; decide]
    exact decide_eq_false (by omega)
theorem anyNz_ {fn : FuncId} {m : List Int} {v : Value} (H : Sat z w As) (hv : SlR As v 1 m.length (m.map (.int .i64))) (hl : m.length ≤ 9223372036854775807) (p : Int → Bool)
    (hp : ∀ x ∈ m, ∀ w, Sat z w As → Spec cf fn #[.int .i64 x] w fun e w' => e = .bool (p x) ∧ Sat z w' As) :
    Spec cf 89 #[v, .func (.func fn) #[] #[]] w fun e w' => e = .bool (m.any p) ∧ Sat z w' As := by
  obtain ⟨a, cp, rfl⟩ := lenW hv
  refine enter (l := [.slice a m.length cp, .func (.func fn) #[] #[]]) Tryd.func89 rfl rfl rfl rfl rfl ?_
  repeat' (first | (refine zA ?_; first | refine zB ?_ | refine zC H ?_ | refine zD H ?_ | refine zE H fun _ _ H => ?_ | refine zF H fun _ _ H => ?_ | refine zG H fun _ H => ?_ | refine zH H fun _ H => ?_) | (refine zI ?_; first | refine zJ ?_ | refine zK ?_ | refine zL ?_ | refine zM ?_ | refine zN ?_ | refine zO ?_ | refine zP ?_ | refine zQ ?_ | refine zR ?_) | refine zS ?_)
  refine OpsW.call rfl rfl rfl (ixNz_ H hv hl p hp) ?_
  rintro _ w ⟨rfl, H⟩
  repeat' (first | (refine zA ?_; first | refine zB ?_ | refine zC H ?_ | refine zD H ?_ | refine zE H fun _ _ H => ?_ | refine zF H fun _ _ H => ?_ | refine zG H fun _ H => ?_ | refine zH H fun _ H => ?_) | (refine zI ?_; first | refine zJ ?_ | refine zK ?_ | refine zL ?_ | refine zM ?_ | refine zN ?_ | refine zO ?_ | refine zP ?_ | refine zQ ?_ | refine zR ?_) | refine zS ?_)
  rw [find_anyN]
  exact ret1 rfl ⟨rfl, H⟩
theorem SlR.of_blkO {As : List HP} {b : Nat} {E : TypeId} {p c : List Value} {off n cap : Nat} (ho : p.length = off) (h : c.length = n) (hc : n ≤ cap) : SlR (blk b E (p ++ c) :: As) (.slice (some ⟨b, off, none⟩) n cap) 1 n c := by
  refine ⟨by omega, _, _, rfl, hc, .inr ⟨b, off, _, E, _, rfl, Has.head, fun j hj => ?_⟩⟩
  rw [List.getElem?_toArray, List.getElem?_append_right (by omega), ← ho]
  congr 1; omega
theorem lit9 {α : Type} {l : List α} (n : Nat) (h : l.length = n := by rfl) (h9 : Nat.ble n 9 = true := by rfl) : l.length ≤ 9223372036854775807 := by have := Nat.le_of_ble_eq_true h9; omega
theorem nz_any (m : List Int) : m.any (fun n => n != 0) = !m.all fun n => n == 0 := by
  induction m with
  | nil => rfl
  | cons a l ih =>
    rw [List.any_cons, List.all_cons, ih, Bool.not_and]; rfl
set_option maxHeartbeats 4000000 in
theorem cfits1_ (H : Sat z w As) (a b c m : Int) : Spec cf 108 #[Ins.v ⟨1, a, b, c, m⟩] w fun e w' => e = .bool (Ins.fit ⟨1, a, b, c, m⟩) ∧ Sat z w' As := by
  refine enter (l := [Ins.v ⟨1, a, b, c, m⟩]) Tryd.func108 rfl rfl rfl rfl rfl ?_
  repeat' (first | (refine zA ?_; first | refine zB ?_ | refine zC H ?_ | refine zD H ?_ | refine zE H fun _ _ H => ?_ | refine zF H fun _ _ H => ?_ | refine zG H fun _ H => ?_ | refine zH H fun _ H => ?_) | (refine zI ?_; first | refine zJ ?_ | refine zK ?_ | refine zL ?_ | refine zM ?_ | refine zN ?_ | refine zO ?_ | refine zP ?_ | refine zQ ?_ | refine zR ?_) | refine zS ?_)
  refine OpsW.call rfl rfl rfl (regs_ H _) ?_
  rintro _ w ⟨br, rfl, H⟩
  rw [if_neg (show ¬ (1 : Int) = 11 by decide)] at H
  rw [if_neg (show ¬ (1 : Int) = 11 by decide)]
  repeat' (first | (refine zA ?_; first | refine zB ?_ | refine zC H ?_ | refine zD H ?_ | refine zE H fun _ _ H => ?_ | refine zF H fun _ _ H => ?_ | refine zG H fun _ H => ?_ | refine zH H fun _ H => ?_) | (refine zI ?_; first | refine zJ ?_ | refine zK ?_ | refine zL ?_ | refine zM ?_ | refine zN ?_ | refine zO ?_ | refine zP ?_ | refine zQ ?_ | refine zR ?_) | refine zS ?_)
  refine OpsW.call rfl rfl rfl (form_ H _) ?_
  rw [show formL 1 = [114, 110] from rfl]
  rintro _ w ⟨rfl, H⟩
  repeat' (first | (refine zA ?_; first | refine zB ?_ | refine zC H ?_ | refine zD H ?_ | refine zE H fun _ _ H => ?_ | refine zF H fun _ _ H => ?_ | refine zG H fun _ H => ?_ | refine zH H fun _ H => ?_) | (refine zI ?_; first | refine zJ ?_ | refine zK ?_ | refine zL ?_ | refine zM ?_ | refine zN ?_ | refine zO ?_ | refine zP ?_ | refine zQ ?_ | refine zR ?_) | refine zS ?_)
  refine OpsW.rng H rfl rfl rfl rfl fun bi w H => ?_
  dsimp only at H ⊢
  repeat' (first | (refine OpsW.go ?_; first | refine OpsW.st rfl ?_ | refine OpsW.ld H (by (first | exact p0 | exact p1 | exact p2 | exact p3 | exact p4 | exact p5 | exact p6 | exact p7)) rfl rfl rfl rfl (by rfl) rfl ?_ | refine OpsW.nxtL H p0 rfl rfl rfl rfl rfl fun w H => ?_ | refine OpsW.nxtE H p0 rfl rfl rfl rfl ?_ | refine OpsW.ix (n := 0) rfl rfl rfl rfl rfl rfl rfl (by decide) rfl ?_ | refine OpsW.slcFs (k := 1) rfl rfl rfl rfl rfl rfl rfl (by decide) (by decide) (by decide) rfl ?_ | refine OpsW.slcFe (k := 1) rfl rfl rfl rfl rfl rfl rfl rfl rfl ?_ | (refine OpsW.gs rfl rfl rfl (fun h => ?_) (fun h => ?_); fail_if_success (with_reducible have h2 : true = true := h); fail_if_success (with_reducible have h2 : false = true := h))) | (refine CW.go ?_; first | refine CW.condT rfl ?_ | refine CW.condF rfl ?_ | refine CW.seqR ?_ | refine CW.seqD ?_ | refine CW.block ?_ | refine CW.region ?_ | refine CW.ret ?_ | refine CW.exit ?_ | refine CW.skip ?_ | refine CW.unroll 6 (Un.go ?_) | (refine CW.cond rfl (fun h => ?_) (fun h => ?_))) | refine OpsW.nil ?_ | refine Un.go ?_)
  all_goals first
    | (refine ret1 rfl ⟨?_, by (first | exact H | exact H.drop | exact H.d2 | exact H.d3 | exact H.d4 | exact H.d5 | exact H.d6 | exact H.d7)⟩
       clear H
       simp at *
       simp [Ins.fit, inR]
       omega)
    | (refine OpsW.call rfl rfl rfl (anyNz_ (m := [b, c]) H ((SlR.of_blkO (p := [.int .i64 a]) (c := [.int .i64 b, .int .i64 c]) rfl rfl (Nat.le_refl _)).tail) (lit9 2) (fun n => n != 0) (fun x _ w H => fits1_ H x)) ?_
       rintro _ w ⟨rfl, H⟩
       rw [nz_any]
       repeat' (first | (refine OpsW.go ?_; first | refine OpsW.st rfl ?_ | refine OpsW.ld H (by (first | exact p0 | exact p1 | exact p2 | exact p3 | exact p4 | exact p5 | exact p6 | exact p7)) rfl rfl rfl rfl (by rfl) rfl ?_ | refine OpsW.nxtL H p0 rfl rfl rfl rfl rfl fun w H => ?_ | refine OpsW.nxtE H p0 rfl rfl rfl rfl ?_ | refine OpsW.ix (n := 0) rfl rfl rfl rfl rfl rfl rfl (by decide) rfl ?_ | refine OpsW.slcFs (k := 1) rfl rfl rfl rfl rfl rfl rfl (by decide) (by decide) (by decide) rfl ?_ | refine OpsW.slcFe (k := 1) rfl rfl rfl rfl rfl rfl rfl rfl rfl ?_ | (refine OpsW.gs rfl rfl rfl (fun h => ?_) (fun h => ?_); fail_if_success (with_reducible have h2 : true = true := h); fail_if_success (with_reducible have h2 : false = true := h))) | (refine CW.go ?_; first | refine CW.condT rfl ?_ | refine CW.condF rfl ?_ | refine CW.seqR ?_ | refine CW.seqD ?_ | refine CW.block ?_ | refine CW.region ?_ | refine CW.ret ?_ | refine CW.exit ?_ | refine CW.skip ?_ | refine CW.unroll 6 (Un.go ?_) | (refine CW.cond rfl (fun h => ?_) (fun h => ?_))) | refine OpsW.nil ?_ | refine Un.go ?_)
       refine ret1 rfl ⟨?_, by (first | exact H | exact H.drop | exact H.d2 | exact H.d3 | exact H.d4 | exact H.d5 | exact H.d6 | exact H.d7)⟩
       clear H
       simp at *
       simp only [Ins.fit, inR]
       by_cases ha : a = 0 <;> by_cases hb : b = 0 <;> by_cases hc : c = 0 <;> simp_all <;> first | omega | simp [show m = 0 by omega, Bool.and_assoc] | simp [show m < 4096 by omega, Bool.and_assoc])
set_option maxHeartbeats 4000000 in
theorem cfits2_ (H : Sat z w As) (a b c m : Int) : Spec cf 108 #[Ins.v ⟨2, a, b, c, m⟩] w fun e w' => e = .bool (Ins.fit ⟨2, a, b, c, m⟩) ∧ Sat z w' As := by
  refine enter (l := [Ins.v ⟨2, a, b, c, m⟩]) Tryd.func108 rfl rfl rfl rfl rfl ?_
  repeat' (first | (refine zA ?_; first | refine zB ?_ | refine zC H ?_ | refine zD H ?_ | refine zE H fun _ _ H => ?_ | refine zF H fun _ _ H => ?_ | refine zG H fun _ H => ?_ | refine zH H fun _ H => ?_) | (refine zI ?_; first | refine zJ ?_ | refine zK ?_ | refine zL ?_ | refine zM ?_ | refine zN ?_ | refine zO ?_ | refine zP ?_ | refine zQ ?_ | refine zR ?_) | refine zS ?_)
  refine OpsW.call rfl rfl rfl (regs_ H _) ?_
  rintro _ w ⟨br, rfl, H⟩
  rw [if_neg (show ¬ (2 : Int) = 11 by decide)] at H
  rw [if_neg (show ¬ (2 : Int) = 11 by decide)]
  repeat' (first | (refine zA ?_; first | refine zB ?_ | refine zC H ?_ | refine zD H ?_ | refine zE H fun _ _ H => ?_ | refine zF H fun _ _ H => ?_ | refine zG H fun _ H => ?_ | refine zH H fun _ H => ?_) | (refine zI ?_; first | refine zJ ?_ | refine zK ?_ | refine zL ?_ | refine zM ?_ | refine zN ?_ | refine zO ?_ | refine zP ?_ | refine zQ ?_ | refine zR ?_) | refine zS ?_)
  refine OpsW.call rfl rfl rfl (form_ H _) ?_
  rw [show formL 2 = [114, 110] from rfl]
  rintro _ w ⟨rfl, H⟩
  repeat' (first | (refine zA ?_; first | refine zB ?_ | refine zC H ?_ | refine zD H ?_ | refine zE H fun _ _ H => ?_ | refine zF H fun _ _ H => ?_ | refine zG H fun _ H => ?_ | refine zH H fun _ H => ?_) | (refine zI ?_; first | refine zJ ?_ | refine zK ?_ | refine zL ?_ | refine zM ?_ | refine zN ?_ | refine zO ?_ | refine zP ?_ | refine zQ ?_ | refine zR ?_) | refine zS ?_)
  refine OpsW.rng H rfl rfl rfl rfl fun bi w H => ?_
  dsimp only at H ⊢
  repeat' (first | (refine OpsW.go ?_; first | refine OpsW.st rfl ?_ | refine OpsW.ld H (by (first | exact p0 | exact p1 | exact p2 | exact p3 | exact p4 | exact p5 | exact p6 | exact p7)) rfl rfl rfl rfl (by rfl) rfl ?_ | refine OpsW.nxtL H p0 rfl rfl rfl rfl rfl fun w H => ?_ | refine OpsW.nxtE H p0 rfl rfl rfl rfl ?_ | refine OpsW.ix (n := 0) rfl rfl rfl rfl rfl rfl rfl (by decide) rfl ?_ | refine OpsW.slcFs (k := 1) rfl rfl rfl rfl rfl rfl rfl (by decide) (by decide) (by decide) rfl ?_ | refine OpsW.slcFe (k := 1) rfl rfl rfl rfl rfl rfl rfl rfl rfl ?_ | (refine OpsW.gs rfl rfl rfl (fun h => ?_) (fun h => ?_); fail_if_success (with_reducible have h2 : true = true := h); fail_if_success (with_reducible have h2 : false = true := h))) | (refine CW.go ?_; first | refine CW.condT rfl ?_ | refine CW.condF rfl ?_ | refine CW.seqR ?_ | refine CW.seqD ?_ | refine CW.block ?_ | refine CW.region ?_ | refine CW.ret ?_ | refine CW.exit ?_ | refine CW.skip ?_ | refine CW.unroll 6 (Un.go ?_) | (refine CW.cond rfl (fun h => ?_) (fun h => ?_))) | refine OpsW.nil ?_ | refine Un.go ?_)
  all_goals first
    | (refine ret1 rfl ⟨?_, by (first | exact H | exact H.drop | exact H.d2 | exact H.d3 | exact H.d4 | exact H.d5 | exact H.d6 | exact H.d7)⟩
       clear H
       simp at *
       simp [Ins.fit, inR]
       omega)
    | (refine OpsW.call rfl rfl rfl (anyNz_ (m := [b, c]) H ((SlR.of_blkO (p := [.int .i64 a]) (c := [.int .i64 b, .int .i64 c]) rfl rfl (Nat.le_refl _)).tail) (lit9 2) (fun n => n != 0) (fun x _ w H => fits1_ H x)) ?_
       rintro _ w ⟨rfl, H⟩
       rw [nz_any]
       repeat' (first | (refine OpsW.go ?_; first | refine OpsW.st rfl ?_ | refine OpsW.ld H (by (first | exact p0 | exact p1 | exact p2 | exact p3 | exact p4 | exact p5 | exact p6 | exact p7)) rfl rfl rfl rfl (by rfl) rfl ?_ | refine OpsW.nxtL H p0 rfl rfl rfl rfl rfl fun w H => ?_ | refine OpsW.nxtE H p0 rfl rfl rfl rfl ?_ | refine OpsW.ix (n := 0) rfl rfl rfl rfl rfl rfl rfl (by decide) rfl ?_ | refine OpsW.slcFs (k := 1) rfl rfl rfl rfl rfl rfl rfl (by decide) (by decide) (by decide) rfl ?_ | refine OpsW.slcFe (k := 1) rfl rfl rfl rfl rfl rfl rfl rfl rfl ?_ | (refine OpsW.gs rfl rfl rfl (fun h => ?_) (fun h => ?_); fail_if_success (with_reducible have h2 : true = true := h); fail_if_success (with_reducible have h2 : false = true := h))) | (refine CW.go ?_; first | refine CW.condT rfl ?_ | refine CW.condF rfl ?_ | refine CW.seqR ?_ | refine CW.seqD ?_ | refine CW.block ?_ | refine CW.region ?_ | refine CW.ret ?_ | refine CW.exit ?_ | refine CW.skip ?_ | refine CW.unroll 6 (Un.go ?_) | (refine CW.cond rfl (fun h => ?_) (fun h => ?_))) | refine OpsW.nil ?_ | refine Un.go ?_)
       refine ret1 rfl ⟨?_, by (first | exact H | exact H.drop | exact H.d2 | exact H.d3 | exact H.d4 | exact H.d5 | exact H.d6 | exact H.d7)⟩
       clear H
       simp at *
       simp only [Ins.fit, inR]
       by_cases ha : a = 0 <;> by_cases hb : b = 0 <;> by_cases hc : c = 0 <;> simp_all <;> first | omega | simp [show m = 0 by omega, Bool.and_assoc] | simp [show m < 4096 by omega, Bool.and_assoc])
set_option maxHeartbeats 4000000 in
theorem cfits3_ (H : Sat z w As) (a b c m : Int) : Spec cf 108 #[Ins.v ⟨3, a, b, c, m⟩] w fun e w' => e = .bool (Ins.fit ⟨3, a, b, c, m⟩) ∧ Sat z w' As := by
  refine enter (l := [Ins.v ⟨3, a, b, c, m⟩]) Tryd.func108 rfl rfl rfl rfl rfl ?_
  repeat' (first | (refine zA ?_; first | refine zB ?_ | refine zC H ?_ | refine zD H ?_ | refine zE H fun _ _ H => ?_ | refine zF H fun _ _ H => ?_ | refine zG H fun _ H => ?_ | refine zH H fun _ H => ?_) | (refine zI ?_; first | refine zJ ?_ | refine zK ?_ | refine zL ?_ | refine zM ?_ | refine zN ?_ | refine zO ?_ | refine zP ?_ | refine zQ ?_ | refine zR ?_) | refine zS ?_)
  refine OpsW.call rfl rfl rfl (regs_ H _) ?_
  rintro _ w ⟨br, rfl, H⟩
  rw [if_neg (show ¬ (3 : Int) = 11 by decide)] at H
  rw [if_neg (show ¬ (3 : Int) = 11 by decide)]
  repeat' (first | (refine zA ?_; first | refine zB ?_ | refine zC H ?_ | refine zD H ?_ | refine zE H fun _ _ H => ?_ | refine zF H fun _ _ H => ?_ | refine zG H fun _ H => ?_ | refine zH H fun _ H => ?_) | (refine zI ?_; first | refine zJ ?_ | refine zK ?_ | refine zL ?_ | refine zM ?_ | refine zN ?_ | refine zO ?_ | refine zP ?_ | refine zQ ?_ | refine zR ?_) | refine zS ?_)
  refine OpsW.call rfl rfl rfl (form_ H _) ?_
  rw [show formL 3 = [111, 114, 114, 114] from rfl]
  rintro _ w ⟨rfl, H⟩
  repeat' (first | (refine zA ?_; first | refine zB ?_ | refine zC H ?_ | refine zD H ?_ | refine zE H fun _ _ H => ?_ | refine zF H fun _ _ H => ?_ | refine zG H fun _ H => ?_ | refine zH H fun _ H => ?_) | (refine zI ?_; first | refine zJ ?_ | refine zK ?_ | refine zL ?_ | refine zM ?_ | refine zN ?_ | refine zO ?_ | refine zP ?_ | refine zQ ?_ | refine zR ?_) | refine zS ?_)
  refine OpsW.rng H rfl rfl rfl rfl fun bi w H => ?_
  dsimp only at H ⊢
  repeat' (first | (refine OpsW.go ?_; first | refine OpsW.st rfl ?_ | refine OpsW.ld H (by (first | exact p0 | exact p1 | exact p2 | exact p3 | exact p4 | exact p5 | exact p6 | exact p7)) rfl rfl rfl rfl (by rfl) rfl ?_ | refine OpsW.nxtL H p0 rfl rfl rfl rfl rfl fun w H => ?_ | refine OpsW.nxtE H p0 rfl rfl rfl rfl ?_ | refine OpsW.ix (n := 0) rfl rfl rfl rfl rfl rfl rfl (by decide) rfl ?_ | refine OpsW.slcFs (k := 1) rfl rfl rfl rfl rfl rfl rfl (by decide) (by decide) (by decide) rfl ?_ | refine OpsW.slcFe (k := 1) rfl rfl rfl rfl rfl rfl rfl rfl rfl ?_ | (refine OpsW.gs rfl rfl rfl (fun h => ?_) (fun h => ?_); fail_if_success (with_reducible have h2 : true = true := h); fail_if_success (with_reducible have h2 : false = true := h))) | (refine CW.go ?_; first | refine CW.condT rfl ?_ | refine CW.condF rfl ?_ | refine CW.seqR ?_ | refine CW.seqD ?_ | refine CW.block ?_ | refine CW.region ?_ | refine CW.ret ?_ | refine CW.exit ?_ | refine CW.skip ?_ | refine CW.unroll 6 (Un.go ?_) | (refine CW.cond rfl (fun h => ?_) (fun h => ?_))) | refine OpsW.nil ?_ | refine Un.go ?_)
  all_goals first
    | (refine ret1 rfl ⟨?_, by (first | exact H | exact H.drop | exact H.d2 | exact H.d3 | exact H.d4 | exact H.d5 | exact H.d6 | exact H.d7)⟩
       clear H
       simp at *
       simp [Ins.fit, inR]
       omega)
    | (refine OpsW.call rfl rfl rfl (anyNz_ (m := []) H (SlR.nil_) (lit9 0) (fun n => n != 0) (fun x _ w H => fits1_ H x)) ?_
       rintro _ w ⟨rfl, H⟩
       rw [nz_any]
       repeat' (first | (refine OpsW.go ?_; first | refine OpsW.st rfl ?_ | refine OpsW.ld H (by (first | exact p0 | exact p1 | exact p2 | exact p3 | exact p4 | exact p5 | exact p6 | exact p7)) rfl rfl rfl rfl (by rfl) rfl ?_ | refine OpsW.nxtL H p0 rfl rfl rfl rfl rfl fun w H => ?_ | refine OpsW.nxtE H p0 rfl rfl rfl rfl ?_ | refine OpsW.ix (n := 0) rfl rfl rfl rfl rfl rfl rfl (by decide) rfl ?_ | refine OpsW.slcFs (k := 1) rfl rfl rfl rfl rfl rfl rfl (by decide) (by decide) (by decide) rfl ?_ | refine OpsW.slcFe (k := 1) rfl rfl rfl rfl rfl rfl rfl rfl rfl ?_ | (refine OpsW.gs rfl rfl rfl (fun h => ?_) (fun h => ?_); fail_if_success (with_reducible have h2 : true = true := h); fail_if_success (with_reducible have h2 : false = true := h))) | (refine CW.go ?_; first | refine CW.condT rfl ?_ | refine CW.condF rfl ?_ | refine CW.seqR ?_ | refine CW.seqD ?_ | refine CW.block ?_ | refine CW.region ?_ | refine CW.ret ?_ | refine CW.exit ?_ | refine CW.skip ?_ | refine CW.unroll 6 (Un.go ?_) | (refine CW.cond rfl (fun h => ?_) (fun h => ?_))) | refine OpsW.nil ?_ | refine Un.go ?_)
       refine ret1 rfl ⟨?_, by (first | exact H | exact H.drop | exact H.d2 | exact H.d3 | exact H.d4 | exact H.d5 | exact H.d6 | exact H.d7)⟩
       clear H
       simp at *
       simp only [Ins.fit, inR]
       by_cases ha : a = 0 <;> by_cases hb : b = 0 <;> by_cases hc : c = 0 <;> simp_all <;> first | omega | simp [show m = 0 by omega, Bool.and_assoc] | simp [show m < 4096 by omega, Bool.and_assoc])
set_option maxHeartbeats 4000000 in
theorem cfits4_ (H : Sat z w As) (a b c m : Int) : Spec cf 108 #[Ins.v ⟨4, a, b, c, m⟩] w fun e w' => e = .bool (Ins.fit ⟨4, a, b, c, m⟩) ∧ Sat z w' As := by
  refine enter (l := [Ins.v ⟨4, a, b, c, m⟩]) Tryd.func108 rfl rfl rfl rfl rfl ?_
  repeat' (first | (refine zA ?_; first | refine zB ?_ | refine zC H ?_ | refine zD H ?_ | refine zE H fun _ _ H => ?_ | refine zF H fun _ _ H => ?_ | refine zG H fun _ H => ?_ | refine zH H fun _ H => ?_) | (refine zI ?_; first | refine zJ ?_ | refine zK ?_ | refine zL ?_ | refine zM ?_ | refine zN ?_ | refine zO ?_ | refine zP ?_ | refine zQ ?_ | refine zR ?_) | refine zS ?_)
  refine OpsW.call rfl rfl rfl (regs_ H _) ?_
  rintro _ w ⟨br, rfl, H⟩
  rw [if_neg (show ¬ (4 : Int) = 11 by decide)] at H
  rw [if_neg (show ¬ (4 : Int) = 11 by decide)]
  repeat' (first | (refine zA ?_; first | refine zB ?_ | refine zC H ?_ | refine zD H ?_ | refine zE H fun _ _ H => ?_ | refine zF H fun _ _ H => ?_ | refine zG H fun _ H => ?_ | refine zH H fun _ H => ?_) | (refine zI ?_; first | refine zJ ?_ | refine zK ?_ | refine zL ?_ | refine zM ?_ | refine zN ?_ | refine zO ?_ | refine zP ?_ | refine zQ ?_ | refine zR ?_) | refine zS ?_)
  refine OpsW.call rfl rfl rfl (form_ H _) ?_
  rw [show formL 4 = [110] from rfl]
  rintro _ w ⟨rfl, H⟩
  repeat' (first | (refine zA ?_; first | refine zB ?_ | refine zC H ?_ | refine zD H ?_ | refine zE H fun _ _ H => ?_ | refine zF H fun _ _ H => ?_ | refine zG H fun _ H => ?_ | refine zH H fun _ H => ?_) | (refine zI ?_; first | refine zJ ?_ | refine zK ?_ | refine zL ?_ | refine zM ?_ | refine zN ?_ | refine zO ?_ | refine zP ?_ | refine zQ ?_ | refine zR ?_) | refine zS ?_)
  refine OpsW.rng H rfl rfl rfl rfl fun bi w H => ?_
  dsimp only at H ⊢
  repeat' (first | (refine OpsW.go ?_; first | refine OpsW.st rfl ?_ | refine OpsW.ld H (by (first | exact p0 | exact p1 | exact p2 | exact p3 | exact p4 | exact p5 | exact p6 | exact p7)) rfl rfl rfl rfl (by rfl) rfl ?_ | refine OpsW.nxtL H p0 rfl rfl rfl rfl rfl fun w H => ?_ | refine OpsW.nxtE H p0 rfl rfl rfl rfl ?_ | refine OpsW.ix (n := 0) rfl rfl rfl rfl rfl rfl rfl (by decide) rfl ?_ | refine OpsW.slcFs (k := 1) rfl rfl rfl rfl rfl rfl rfl (by decide) (by decide) (by decide) rfl ?_ | refine OpsW.slcFe (k := 1) rfl rfl rfl rfl rfl rfl rfl rfl rfl ?_ | (refine OpsW.gs rfl rfl rfl (fun h => ?_) (fun h => ?_); fail_if_success (with_reducible have h2 : true = true := h); fail_if_success (with_reducible have h2 : false = true := h))) | (refine CW.go ?_; first | refine CW.condT rfl ?_ | refine CW.condF rfl ?_ | refine CW.seqR ?_ | refine CW.seqD ?_ | refine CW.block ?_ | refine CW.region ?_ | refine CW.ret ?_ | refine CW.exit ?_ | refine CW.skip ?_ | refine CW.unroll 6 (Un.go ?_) | (refine CW.cond rfl (fun h => ?_) (fun h => ?_))) | refine OpsW.nil ?_ | refine Un.go ?_)
  all_goals first
    | (refine ret1 rfl ⟨?_, by (first | exact H | exact H.drop | exact H.d2 | exact H.d3 | exact H.d4 | exact H.d5 | exact H.d6 | exact H.d7)⟩
       clear H
       simp at *
       simp [Ins.fit, inR]
       omega)
    | (refine OpsW.call rfl rfl rfl (anyNz_ (m := [a, b, c]) H ((SlR.of_blkO (p := []) (c := [.int .i64 a, .int .i64 b, .int .i64 c]) rfl rfl (Nat.le_refl _)).tail) (lit9 3) (fun n => n != 0) (fun x _ w H => fits1_ H x)) ?_
       rintro _ w ⟨rfl, H⟩
       rw [nz_any]
       repeat' (first | (refine OpsW.go ?_; first | refine OpsW.st rfl ?_ | refine OpsW.ld H (by (first | exact p0 | exact p1 | exact p2 | exact p3 | exact p4 | exact p5 | exact p6 | exact p7)) rfl rfl rfl rfl (by rfl) rfl ?_ | refine OpsW.nxtL H p0 rfl rfl rfl rfl rfl fun w H => ?_ | refine OpsW.nxtE H p0 rfl rfl rfl rfl ?_ | refine OpsW.ix (n := 0) rfl rfl rfl rfl rfl rfl rfl (by decide) rfl ?_ | refine OpsW.slcFs (k := 1) rfl rfl rfl rfl rfl rfl rfl (by decide) (by decide) (by decide) rfl ?_ | refine OpsW.slcFe (k := 1) rfl rfl rfl rfl rfl rfl rfl rfl rfl ?_ | (refine OpsW.gs rfl rfl rfl (fun h => ?_) (fun h => ?_); fail_if_success (with_reducible have h2 : true = true := h); fail_if_success (with_reducible have h2 : false = true := h))) | (refine CW.go ?_; first | refine CW.condT rfl ?_ | refine CW.condF rfl ?_ | refine CW.seqR ?_ | refine CW.seqD ?_ | refine CW.block ?_ | refine CW.region ?_ | refine CW.ret ?_ | refine CW.exit ?_ | refine CW.skip ?_ | refine CW.unroll 6 (Un.go ?_) | (refine CW.cond rfl (fun h => ?_) (fun h => ?_))) | refine OpsW.nil ?_ | refine Un.go ?_)
       refine ret1 rfl ⟨?_, by (first | exact H | exact H.drop | exact H.d2 | exact H.d3 | exact H.d4 | exact H.d5 | exact H.d6 | exact H.d7)⟩
       clear H
       simp at *
       simp only [Ins.fit, inR]
       by_cases ha : a = 0 <;> by_cases hb : b = 0 <;> by_cases hc : c = 0 <;> simp_all <;> first | omega | simp [show m = 0 by omega, Bool.and_assoc] | simp [show m < 4096 by omega, Bool.and_assoc])
set_option maxHeartbeats 4000000 in
theorem cfits5_ (H : Sat z w As) (a b c m : Int) : Spec cf 108 #[Ins.v ⟨5, a, b, c, m⟩] w fun e w' => e = .bool (Ins.fit ⟨5, a, b, c, m⟩) ∧ Sat z w' As := by
  refine enter (l := [Ins.v ⟨5, a, b, c, m⟩]) Tryd.func108 rfl rfl rfl rfl rfl ?_
  repeat' (first | (refine zA ?_; first | refine zB ?_ | refine zC H ?_ | refine zD H ?_ | refine zE H fun _ _ H => ?_ | refine zF H fun _ _ H => ?_ | refine zG H fun _ H => ?_ | refine zH H fun _ H => ?_) | (refine zI ?_; first | refine zJ ?_ | refine zK ?_ | refine zL ?_ | refine zM ?_ | refine zN ?_ | refine zO ?_ | refine zP ?_ | refine zQ ?_ | refine zR ?_) | refine zS ?_)
  refine OpsW.call rfl rfl rfl (regs_ H _) ?_
  rintro _ w ⟨br, rfl, H⟩
  rw [if_neg (show ¬ (5 : Int) = 11 by decide)] at H
  rw [if_neg (show ¬ (5 : Int) = 11 by decide)]
  repeat' (first | (refine zA ?_; first | refine zB ?_ | refine zC H ?_ | refine zD H ?_ | refine zE H fun _ _ H => ?_ | refine zF H fun _ _ H => ?_ | refine zG H fun _ H => ?_ | refine zH H fun _ H => ?_) | (refine zI ?_; first | refine zJ ?_ | refine zK ?_ | refine zL ?_ | refine zM ?_ | refine zN ?_ | refine zO ?_ | refine zP ?_ | refine zQ ?_ | refine zR ?_) | refine zS ?_)
  refine OpsW.call rfl rfl rfl (form_ H _) ?_
  rw [show formL 5 = [114, 110] from rfl]
  rintro _ w ⟨rfl, H⟩
  repeat' (first | (refine zA ?_; first | refine zB ?_ | refine zC H ?_ | refine zD H ?_ | refine zE H fun _ _ H => ?_ | refine zF H fun _ _ H => ?_ | refine zG H fun _ H => ?_ | refine zH H fun _ H => ?_) | (refine zI ?_; first | refine zJ ?_ | refine zK ?_ | refine zL ?_ | refine zM ?_ | refine zN ?_ | refine zO ?_ | refine zP ?_ | refine zQ ?_ | refine zR ?_) | refine zS ?_)
  refine OpsW.rng H rfl rfl rfl rfl fun bi w H => ?_
  dsimp only at H ⊢
  repeat' (first | (refine OpsW.go ?_; first | refine OpsW.st rfl ?_ | refine OpsW.ld H (by (first | exact p0 | exact p1 | exact p2 | exact p3 | exact p4 | exact p5 | exact p6 | exact p7)) rfl rfl rfl rfl (by rfl) rfl ?_ | refine OpsW.nxtL H p0 rfl rfl rfl rfl rfl fun w H => ?_ | refine OpsW.nxtE H p0 rfl rfl rfl rfl ?_ | refine OpsW.ix (n := 0) rfl rfl rfl rfl rfl rfl rfl (by decide) rfl ?_ | refine OpsW.slcFs (k := 1) rfl rfl rfl rfl rfl rfl rfl (by decide) (by decide) (by decide) rfl ?_ | refine OpsW.slcFe (k := 1) rfl rfl rfl rfl rfl rfl rfl rfl rfl ?_ | (refine OpsW.gs rfl rfl rfl (fun h => ?_) (fun h => ?_); fail_if_success (with_reducible have h2 : true = true := h); fail_if_success (with_reducible have h2 : false = true := h))) | (refine CW.go ?_; first | refine CW.condT rfl ?_ | refine CW.condF rfl ?_ | refine CW.seqR ?_ | refine CW.seqD ?_ | refine CW.block ?_ | refine CW.region ?_ | refine CW.ret ?_ | refine CW.exit ?_ | refine CW.skip ?_ | refine CW.unroll 6 (Un.go ?_) | (refine CW.cond rfl (fun h => ?_) (fun h => ?_))) | refine OpsW.nil ?_ | refine Un.go ?_)
  all_goals first
    | (refine ret1 rfl ⟨?_, by (first | exact H | exact H.drop | exact H.d2 | exact H.d3 | exact H.d4 | exact H.d5 | exact H.d6 | exact H.d7)⟩
       clear H
       simp at *
       simp [Ins.fit, inR]
       omega)
    | (refine OpsW.call rfl rfl rfl (anyNz_ (m := [b, c]) H ((SlR.of_blkO (p := [.int .i64 a]) (c := [.int .i64 b, .int .i64 c]) rfl rfl (Nat.le_refl _)).tail) (lit9 2) (fun n => n != 0) (fun x _ w H => fits1_ H x)) ?_
       rintro _ w ⟨rfl, H⟩
       rw [nz_any]
       repeat' (first | (refine OpsW.go ?_; first | refine OpsW.st rfl ?_ | refine OpsW.ld H (by (first | exact p0 | exact p1 | exact p2 | exact p3 | exact p4 | exact p5 | exact p6 | exact p7)) rfl rfl rfl rfl (by rfl) rfl ?_ | refine OpsW.nxtL H p0 rfl rfl rfl rfl rfl fun w H => ?_ | refine OpsW.nxtE H p0 rfl rfl rfl rfl ?_ | refine OpsW.ix (n := 0) rfl rfl rfl rfl rfl rfl rfl (by decide) rfl ?_ | refine OpsW.slcFs (k := 1) rfl rfl rfl rfl rfl rfl rfl (by decide) (by decide) (by decide) rfl ?_ | refine OpsW.slcFe (k := 1) rfl rfl rfl rfl rfl rfl rfl rfl rfl ?_ | (refine OpsW.gs rfl rfl rfl (fun h => ?_) (fun h => ?_); fail_if_success (with_reducible have h2 : true = true := h); fail_if_success (with_reducible have h2 : false = true := h))) | (refine CW.go ?_; first | refine CW.condT rfl ?_ | refine CW.condF rfl ?_ | refine CW.seqR ?_ | refine CW.seqD ?_ | refine CW.block ?_ | refine CW.region ?_ | refine CW.ret ?_ | refine CW.exit ?_ | refine CW.skip ?_ | refine CW.unroll 6 (Un.go ?_) | (refine CW.cond rfl (fun h => ?_) (fun h => ?_))) | refine OpsW.nil ?_ | refine Un.go ?_)
       refine ret1 rfl ⟨?_, by (first | exact H | exact H.drop | exact H.d2 | exact H.d3 | exact H.d4 | exact H.d5 | exact H.d6 | exact H.d7)⟩
       clear H
       simp at *
       simp only [Ins.fit, inR]
       by_cases ha : a = 0 <;> by_cases hb : b = 0 <;> by_cases hc : c = 0 <;> simp_all <;> first | omega | simp [show m = 0 by omega, Bool.and_assoc] | simp [show m < 4096 by omega, Bool.and_assoc])
set_option maxHeartbeats 4000000 in
theorem cfits6_ (H : Sat z w As) (a b c m : Int) : Spec cf 108 #[Ins.v ⟨6, a, b, c, m⟩] w fun e w' => e = .bool (Ins.fit ⟨6, a, b, c, m⟩) ∧ Sat z w' As := by
  refine enter (l := [Ins.v ⟨6, a, b, c, m⟩]) Tryd.func108 rfl rfl rfl rfl rfl ?_
  repeat' (first | (refine zA ?_; first | refine zB ?_ | refine zC H ?_ | refine zD H ?_ | refine zE H fun _ _ H => ?_ | refine zF H fun _ _ H => ?_ | refine zG H fun _ H => ?_ | refine zH H fun _ H => ?_) | (refine zI ?_; first | refine zJ ?_ | refine zK ?_ | refine zL ?_ | refine zM ?_ | refine zN ?_ | refine zO ?_ | refine zP ?_ | refine zQ ?_ | refine zR ?_) | refine zS ?_)
  refine OpsW.call rfl rfl rfl (regs_ H _) ?_
  rintro _ w ⟨br, rfl, H⟩
  rw [if_neg (show ¬ (6 : Int) = 11 by decide)] at H
  rw [if_neg (show ¬ (6 : Int) = 11 by decide)]
  repeat' (first | (refine zA ?_; first | refine zB ?_ | refine zC H ?_ | refine zD H ?_ | refine zE H fun _ _ H => ?_ | refine zF H fun _ _ H => ?_ | refine zG H fun _ H => ?_ | refine zH H fun _ H => ?_) | (refine zI ?_; first | refine zJ ?_ | refine zK ?_ | refine zL ?_ | refine zM ?_ | refine zN ?_ | refine zO ?_ | refine zP ?_ | refine zQ ?_ | refine zR ?_) | refine zS ?_)
  refine OpsW.call rfl rfl rfl (form_ H _) ?_
  rw [show formL 6 = [114, 114, 110] from rfl]
  rintro _ w ⟨rfl, H⟩
  repeat' (first | (refine zA ?_; first | refine zB ?_ | refine zC H ?_ | refine zD H ?_ | refine zE H fun _ _ H => ?_ | refine zF H fun _ _ H => ?_ | refine zG H fun _ H => ?_ | refine zH H fun _ H => ?_) | (refine zI ?_; first | refine zJ ?_ | refine zK ?_ | refine zL ?_ | refine zM ?_ | refine zN ?_ | refine zO ?_ | refine zP ?_ | refine zQ ?_ | refine zR ?_) | refine zS ?_)
  refine OpsW.rng H rfl rfl rfl rfl fun bi w H => ?_
  dsimp only at H ⊢
  repeat' (first | (refine OpsW.go ?_; first | refine OpsW.st rfl ?_ | refine OpsW.ld H (by (first | exact p0 | exact p1 | exact p2 | exact p3 | exact p4 | exact p5 | exact p6 | exact p7)) rfl rfl rfl rfl (by rfl) rfl ?_ | refine OpsW.nxtL H p0 rfl rfl rfl rfl rfl fun w H => ?_ | refine OpsW.nxtE H p0 rfl rfl rfl rfl ?_ | refine OpsW.ix (n := 0) rfl rfl rfl rfl rfl rfl rfl (by decide) rfl ?_ | refine OpsW.slcFs (k := 1) rfl rfl rfl rfl rfl rfl rfl (by decide) (by decide) (by decide) rfl ?_ | refine OpsW.slcFe (k := 1) rfl rfl rfl rfl rfl rfl rfl rfl rfl ?_ | (refine OpsW.gs rfl rfl rfl (fun h => ?_) (fun h => ?_); fail_if_success (with_reducible have h2 : true = true := h); fail_if_success (with_reducible have h2 : false = true := h))) | (refine CW.go ?_; first | refine CW.condT rfl ?_ | refine CW.condF rfl ?_ | refine CW.seqR ?_ | refine CW.seqD ?_ | refine CW.block ?_ | refine CW.region ?_ | refine CW.ret ?_ | refine CW.exit ?_ | refine CW.skip ?_ | refine CW.unroll 6 (Un.go ?_) | (refine CW.cond rfl (fun h => ?_) (fun h => ?_))) | refine OpsW.nil ?_ | refine Un.go ?_)
  all_goals first
    | (refine ret1 rfl ⟨?_, by (first | exact H | exact H.drop | exact H.d2 | exact H.d3 | exact H.d4 | exact H.d5 | exact H.d6 | exact H.d7)⟩
       clear H
       simp at *
       simp [Ins.fit, inR]
       omega)
    | (refine OpsW.call rfl rfl rfl (anyNz_ (m := [c]) H ((SlR.of_blkO (p := [.int .i64 a, .int .i64 b]) (c := [.int .i64 c]) rfl rfl (Nat.le_refl _)).tail) (lit9 1) (fun n => n != 0) (fun x _ w H => fits1_ H x)) ?_
       rintro _ w ⟨rfl, H⟩
       rw [nz_any]
       repeat' (first | (refine OpsW.go ?_; first | refine OpsW.st rfl ?_ | refine OpsW.ld H (by (first | exact p0 | exact p1 | exact p2 | exact p3 | exact p4 | exact p5 | exact p6 | exact p7)) rfl rfl rfl rfl (by rfl) rfl ?_ | refine OpsW.nxtL H p0 rfl rfl rfl rfl rfl fun w H => ?_ | refine OpsW.nxtE H p0 rfl rfl rfl rfl ?_ | refine OpsW.ix (n := 0) rfl rfl rfl rfl rfl rfl rfl (by decide) rfl ?_ | refine OpsW.slcFs (k := 1) rfl rfl rfl rfl rfl rfl rfl (by decide) (by decide) (by decide) rfl ?_ | refine OpsW.slcFe (k := 1) rfl rfl rfl rfl rfl rfl rfl rfl rfl ?_ | (refine OpsW.gs rfl rfl rfl (fun h => ?_) (fun h => ?_); fail_if_success (with_reducible have h2 : true = true := h); fail_if_success (with_reducible have h2 : false = true := h))) | (refine CW.go ?_; first | refine CW.condT rfl ?_ | refine CW.condF rfl ?_ | refine CW.seqR ?_ | refine CW.seqD ?_ | refine CW.block ?_ | refine CW.region ?_ | refine CW.ret ?_ | refine CW.exit ?_ | refine CW.skip ?_ | refine CW.unroll 6 (Un.go ?_) | (refine CW.cond rfl (fun h => ?_) (fun h => ?_))) | refine OpsW.nil ?_ | refine Un.go ?_)
       refine ret1 rfl ⟨?_, by (first | exact H | exact H.drop | exact H.d2 | exact H.d3 | exact H.d4 | exact H.d5 | exact H.d6 | exact H.d7)⟩
       clear H
       simp at *
       simp only [Ins.fit, inR]
       by_cases ha : a = 0 <;> by_cases hb : b = 0 <;> by_cases hc : c = 0 <;> simp_all <;> first | omega | simp [show m = 0 by omega, Bool.and_assoc] | simp [show m < 4096 by omega, Bool.and_assoc])
set_option maxHeartbeats 4000000 in
theorem cfits7_ (H : Sat z w As) (a b c m : Int) : Spec cf 108 #[Ins.v ⟨7, a, b, c, m⟩] w fun e w' => e = .bool (Ins.fit ⟨7, a, b, c, m⟩) ∧ Sat z w' As := by
  refine enter (l := [Ins.v ⟨7, a, b, c, m⟩]) Tryd.func108 rfl rfl rfl rfl rfl ?_
  repeat' (first | (refine zA ?_; first | refine zB ?_ | refine zC H ?_ | refine zD H ?_ | refine zE H fun _ _ H => ?_ | refine zF H fun _ _ H => ?_ | refine zG H fun _ H => ?_ | refine zH H fun _ H => ?_) | (refine zI ?_; first | refine zJ ?_ | refine zK ?_ | refine zL ?_ | refine zM ?_ | refine zN ?_ | refine zO ?_ | refine zP ?_ | refine zQ ?_ | refine zR ?_) | refine zS ?_)
  refine OpsW.call rfl rfl rfl (regs_ H _) ?_
  rintro _ w ⟨br, rfl, H⟩
  rw [if_neg (show ¬ (7 : Int) = 11 by decide)] at H
  rw [if_neg (show ¬ (7 : Int) = 11 by decide)]
  repeat' (first | (refine zA ?_; first | refine zB ?_ | refine zC H ?_ | refine zD H ?_ | refine zE H fun _ _ H => ?_ | refine zF H fun _ _ H => ?_ | refine zG H fun _ H => ?_ | refine zH H fun _ H => ?_) | (refine zI ?_; first | refine zJ ?_ | refine zK ?_ | refine zL ?_ | refine zM ?_ | refine zN ?_ | refine zO ?_ | refine zP ?_ | refine zQ ?_ | refine zR ?_) | refine zS ?_)
  refine OpsW.call rfl rfl rfl (form_ H _) ?_
  rw [show formL 7 = [114, 114, 110] from rfl]
  rintro _ w ⟨rfl, H⟩
  repeat' (first | (refine zA ?_; first | refine zB ?_ | refine zC H ?_ | refine zD H ?_ | refine zE H fun _ _ H => ?_ | refine zF H fun _ _ H => ?_ | refine zG H fun _ H => ?_ | refine zH H fun _ H => ?_) | (refine zI ?_; first | refine zJ ?_ | refine zK ?_ | refine zL ?_ | refine zM ?_ | refine zN ?_ | refine zO ?_ | refine zP ?_ | refine zQ ?_ | refine zR ?_) | refine zS ?_)
  refine OpsW.rng H rfl rfl rfl rfl fun bi w H => ?_
  dsimp only at H ⊢
  repeat' (first | (refine OpsW.go ?_; first | refine OpsW.st rfl ?_ | refine OpsW.ld H (by (first | exact p0 | exact p1 | exact p2 | exact p3 | exact p4 | exact p5 | exact p6 | exact p7)) rfl rfl rfl rfl (by rfl) rfl ?_ | refine OpsW.nxtL H p0 rfl rfl rfl rfl rfl fun w H => ?_ | refine OpsW.nxtE H p0 rfl rfl rfl rfl ?_ | refine OpsW.ix (n := 0) rfl rfl rfl rfl rfl rfl rfl (by decide) rfl ?_ | refine OpsW.slcFs (k := 1) rfl rfl rfl rfl rfl rfl rfl (by decide) (by decide) (by decide) rfl ?_ | refine OpsW.slcFe (k := 1) rfl rfl rfl rfl rfl rfl rfl rfl rfl ?_ | (refine OpsW.gs rfl rfl rfl (fun h => ?_) (fun h => ?_); fail_if_success (with_reducible have h2 : true = true := h); fail_if_success (with_reducible have h2 : false = true := h))) | (refine CW.go ?_; first | refine CW.condT rfl ?_ | refine CW.condF rfl ?_ | refine CW.seqR ?_ | refine CW.seqD ?_ | refine CW.block ?_ | refine CW.region ?_ | refine CW.ret ?_ | refine CW.exit ?_ | refine CW.skip ?_ | refine CW.unroll 6 (Un.go ?_) | (refine CW.cond rfl (fun h => ?_) (fun h => ?_))) | refine OpsW.nil ?_ | refine Un.go ?_)
  all_goals first
    | (refine ret1 rfl ⟨?_, by (first | exact H | exact H.drop | exact H.d2 | exact H.d3 | exact H.d4 | exact H.d5 | exact H.d6 | exact H.d7)⟩
       clear H
       simp at *
       simp [Ins.fit, inR]
       omega)
    | (refine OpsW.call rfl rfl rfl (anyNz_ (m := [c]) H ((SlR.of_blkO (p := [.int .i64 a, .int .i64 b]) (c := [.int .i64 c]) rfl rfl (Nat.le_refl _)).tail) (lit9 1) (fun n => n != 0) (fun x _ w H => fits1_ H x)) ?_
       rintro _ w ⟨rfl, H⟩
       rw [nz_any]
       repeat' (first | (refine OpsW.go ?_; first | refine OpsW.st rfl ?_ | refine OpsW.ld H (by (first | exact p0 | exact p1 | exact p2 | exact p3 | exact p4 | exact p5 | exact p6 | exact p7)) rfl rfl rfl rfl (by rfl) rfl ?_ | refine OpsW.nxtL H p0 rfl rfl rfl rfl rfl fun w H => ?_ | refine OpsW.nxtE H p0 rfl rfl rfl rfl ?_ | refine OpsW.ix (n := 0) rfl rfl rfl rfl rfl rfl rfl (by decide) rfl ?_ | refine OpsW.slcFs (k := 1) rfl rfl rfl rfl rfl rfl rfl (by decide) (by decide) (by decide) rfl ?_ | refine OpsW.slcFe (k := 1) rfl rfl rfl rfl rfl rfl rfl rfl rfl ?_ | (refine OpsW.gs rfl rfl rfl (fun h => ?_) (fun h => ?_); fail_if_success (with_reducible have h2 : true = true := h); fail_if_success (with_reducible have h2 : false = true := h))) | (refine CW.go ?_; first | refine CW.condT rfl ?_ | refine CW.condF rfl ?_ | refine CW.seqR ?_ | refine CW.seqD ?_ | refine CW.block ?_ | refine CW.region ?_ | refine CW.ret ?_ | refine CW.exit ?_ | refine CW.skip ?_ | refine CW.unroll 6 (Un.go ?_) | (refine CW.cond rfl (fun h => ?_) (fun h => ?_))) | refine OpsW.nil ?_ | refine Un.go ?_)
       refine ret1 rfl ⟨?_, by (first | exact H | exact H.drop | exact H.d2 | exact H.d3 | exact H.d4 | exact H.d5 | exact H.d6 | exact H.d7)⟩
       clear H
       simp at *
       simp only [Ins.fit, inR]
       by_cases ha : a = 0 <;> by_cases hb : b = 0 <;> by_cases hc : c = 0 <;> simp_all <;> first | omega | simp [show m = 0 by omega, Bool.and_assoc] | simp [show m < 4096 by omega, Bool.and_assoc])
set_option maxHeartbeats 4000000 in
theorem cfits8_ (H : Sat z w As) (a b c m : Int) : Spec cf 108 #[Ins.v ⟨8, a, b, c, m⟩] w fun e w' => e = .bool (Ins.fit ⟨8, a, b, c, m⟩) ∧ Sat z w' As := by
  refine enter (l := [Ins.v ⟨8, a, b, c, m⟩]) Tryd.func108 rfl rfl rfl rfl rfl ?_
  repeat' (first | (refine zA ?_; first | refine zB ?_ | refine zC H ?_ | refine zD H ?_ | refine zE H fun _ _ H => ?_ | refine zF H fun _ _ H => ?_ | refine zG H fun _ H => ?_ | refine zH H fun _ H => ?_) | (refine zI ?_; first | refine zJ ?_ | refine zK ?_ | refine zL ?_ | refine zM ?_ | refine zN ?_ | refine zO ?_ | refine zP ?_ | refine zQ ?_ | refine zR ?_) | refine zS ?_)
  refine OpsW.call rfl rfl rfl (regs_ H _) ?_
  rintro _ w ⟨br, rfl, H⟩
  rw [if_neg (show ¬ (8 : Int) = 11 by decide)] at H
  rw [if_neg (show ¬ (8 : Int) = 11 by decide)]
  repeat' (first | (refine zA ?_; first | refine zB ?_ | refine zC H ?_ | refine zD H ?_ | refine zE H fun _ _ H => ?_ | refine zF H fun _ _ H => ?_ | refine zG H fun _ H => ?_ | refine zH H fun _ H => ?_) | (refine zI ?_; first | refine zJ ?_ | refine zK ?_ | refine zL ?_ | refine zM ?_ | refine zN ?_ | refine zO ?_ | refine zP ?_ | refine zQ ?_ | refine zR ?_) | refine zS ?_)
  refine OpsW.call rfl rfl rfl (form_ H _) ?_
  rw [show formL 8 = [107, 107] from rfl]
  rintro _ w ⟨rfl, H⟩
  repeat' (first | (refine zA ?_; first | refine zB ?_ | refine zC H ?_ | refine zD H ?_ | refine zE H fun _ _ H => ?_ | refine zF H fun _ _ H => ?_ | refine zG H fun _ H => ?_ | refine zH H fun _ H => ?_) | (refine zI ?_; first | refine zJ ?_ | refine zK ?_ | refine zL ?_ | refine zM ?_ | refine zN ?_ | refine zO ?_ | refine zP ?_ | refine zQ ?_ | refine zR ?_) | refine zS ?_)
  refine OpsW.rng H rfl rfl rfl rfl fun bi w H => ?_
  dsimp only at H ⊢
  repeat' (first | (refine OpsW.go ?_; first | refine OpsW.st rfl ?_ | refine OpsW.ld H (by (first | exact p0 | exact p1 | exact p2 | exact p3 | exact p4 | exact p5 | exact p6 | exact p7)) rfl rfl rfl rfl (by rfl) rfl ?_ | refine OpsW.nxtL H p0 rfl rfl rfl rfl rfl fun w H => ?_ | refine OpsW.nxtE H p0 rfl rfl rfl rfl ?_ | refine OpsW.ix (n := 0) rfl rfl rfl rfl rfl rfl rfl (by decide) rfl ?_ | refine OpsW.slcFs (k := 1) rfl rfl rfl rfl rfl rfl rfl (by decide) (by decide) (by decide) rfl ?_ | refine OpsW.slcFe (k := 1) rfl rfl rfl rfl rfl rfl rfl rfl rfl ?_ | (refine OpsW.gs rfl rfl rfl (fun h => ?_) (fun h => ?_); fail_if_success (with_reducible have h2 : true = true := h); fail_if_success (with_reducible have h2 : false = true := h))) | (refine CW.go ?_; first | refine CW.condT rfl ?_ | refine CW.condF rfl ?_ | refine CW.seqR ?_ | refine CW.seqD ?_ | refine CW.block ?_ | refine CW.region ?_ | refine CW.ret ?_ | refine CW.exit ?_ | refine CW.skip ?_ | refine CW.unroll 6 (Un.go ?_) | (refine CW.cond rfl (fun h => ?_) (fun h => ?_))) | refine OpsW.nil ?_ | refine Un.go ?_)
  all_goals first
    | (refine ret1 rfl ⟨?_, by (first | exact H | exact H.drop | exact H.d2 | exact H.d3 | exact H.d4 | exact H.d5 | exact H.d6 | exact H.d7)⟩
       clear H
       simp at *
       simp [Ins.fit, inR]
       omega)
    | (refine OpsW.call rfl rfl rfl (anyNz_ (m := [c]) H ((SlR.of_blkO (p := [.int .i64 a, .int .i64 b]) (c := [.int .i64 c]) rfl rfl (Nat.le_refl _)).tail) (lit9 1) (fun n => n != 0) (fun x _ w H => fits1_ H x)) ?_
       rintro _ w ⟨rfl, H⟩
       rw [nz_any]
       repeat' (first | (refine OpsW.go ?_; first | refine OpsW.st rfl ?_ | refine OpsW.ld H (by (first | exact p0 | exact p1 | exact p2 | exact p3 | exact p4 | exact p5 | exact p6 | exact p7)) rfl rfl rfl rfl (by rfl) rfl ?_ | refine OpsW.nxtL H p0 rfl rfl rfl rfl rfl fun w H => ?_ | refine OpsW.nxtE H p0 rfl rfl rfl rfl ?_ | refine OpsW.ix (n := 0) rfl rfl rfl rfl rfl rfl rfl (by decide) rfl ?_ | refine OpsW.slcFs (k := 1) rfl rfl rfl rfl rfl rfl rfl (by decide) (by decide) (by decide) rfl ?_ | refine OpsW.slcFe (k := 1) rfl rfl rfl rfl rfl rfl rfl rfl rfl ?_ | (refine OpsW.gs rfl rfl rfl (fun h => ?_) (fun h => ?_); fail_if_success (with_reducible have h2 : true = true := h); fail_if_success (with_reducible have h2 : false = true := h))) | (refine CW.go ?_; first | refine CW.condT rfl ?_ | refine CW.condF rfl ?_ | refine CW.seqR ?_ | refine CW.seqD ?_ | refine CW.block ?_ | refine CW.region ?_ | refine CW.ret ?_ | refine CW.exit ?_ | refine CW.skip ?_ | refine CW.unroll 6 (Un.go ?_) | (refine CW.cond rfl (fun h => ?_) (fun h => ?_))) | refine OpsW.nil ?_ | refine Un.go ?_)
       refine ret1 rfl ⟨?_, by (first | exact H | exact H.drop | exact H.d2 | exact H.d3 | exact H.d4 | exact H.d5 | exact H.d6 | exact H.d7)⟩
       clear H
       simp at *
       simp only [Ins.fit, inR]
       by_cases ha : a = 0 <;> by_cases hb : b = 0 <;> by_cases hc : c = 0 <;> simp_all <;> first | omega | simp [show m = 0 by omega, Bool.and_assoc] | simp [show m < 4096 by omega, Bool.and_assoc])
set_option maxHeartbeats 4000000 in
theorem cfits9_ (H : Sat z w As) (a b c m : Int) : Spec cf 108 #[Ins.v ⟨9, a, b, c, m⟩] w fun e w' => e = .bool (Ins.fit ⟨9, a, b, c, m⟩) ∧ Sat z w' As := by
  refine enter (l := [Ins.v ⟨9, a, b, c, m⟩]) Tryd.func108 rfl rfl rfl rfl rfl ?_
  repeat' (first | (refine zA ?_; first | refine zB ?_ | refine zC H ?_ | refine zD H ?_ | refine zE H fun _ _ H => ?_ | refine zF H fun _ _ H => ?_ | refine zG H fun _ H => ?_ | refine zH H fun _ H => ?_) | (refine zI ?_; first | refine zJ ?_ | refine zK ?_ | refine zL ?_ | refine zM ?_ | refine zN ?_ | refine zO ?_ | refine zP ?_ | refine zQ ?_ | refine zR ?_) | refine zS ?_)
  refine OpsW.call rfl rfl rfl (regs_ H _) ?_
  rintro _ w ⟨br, rfl, H⟩
  rw [if_neg (show ¬ (9 : Int) = 11 by decide)] at H
  rw [if_neg (show ¬ (9 : Int) = 11 by decide)]
  repeat' (first | (refine zA ?_; first | refine zB ?_ | refine zC H ?_ | refine zD H ?_ | refine zE H fun _ _ H => ?_ | refine zF H fun _ _ H => ?_ | refine zG H fun _ H => ?_ | refine zH H fun _ H => ?_) | (refine zI ?_; first | refine zJ ?_ | refine zK ?_ | refine zL ?_ | refine zM ?_ | refine zN ?_ | refine zO ?_ | refine zP ?_ | refine zQ ?_ | refine zR ?_) | refine zS ?_)
  refine OpsW.call rfl rfl rfl (form_ H _) ?_
  rw [show formL 9 = [107, 114] from rfl]
  rintro _ w ⟨rfl, H⟩
  repeat' (first | (refine zA ?_; first | refine zB ?_ | refine zC H ?_ | refine zD H ?_ | refine zE H fun _ _ H => ?_ | refine zF H fun _ _ H => ?_ | refine zG H fun _ H => ?_ | refine zH H fun _ H => ?_) | (refine zI ?_; first | refine zJ ?_ | refine zK ?_ | refine zL ?_ | refine zM ?_ | refine zN ?_ | refine zO ?_ | refine zP ?_ | refine zQ ?_ | refine zR ?_) | refine zS ?_)
  refine OpsW.rng H rfl rfl rfl rfl fun bi w H => ?_
  dsimp only at H ⊢
  repeat' (first | (refine OpsW.go ?_; first | refine OpsW.st rfl ?_ | refine OpsW.ld H (by (first | exact p0 | exact p1 | exact p2 | exact p3 | exact p4 | exact p5 | exact p6 | exact p7)) rfl rfl rfl rfl (by rfl) rfl ?_ | refine OpsW.nxtL H p0 rfl rfl rfl rfl rfl fun w H => ?_ | refine OpsW.nxtE H p0 rfl rfl rfl rfl ?_ | refine OpsW.ix (n := 0) rfl rfl rfl rfl rfl rfl rfl (by decide) rfl ?_ | refine OpsW.slcFs (k := 1) rfl rfl rfl rfl rfl rfl rfl (by decide) (by decide) (by decide) rfl ?_ | refine OpsW.slcFe (k := 1) rfl rfl rfl rfl rfl rfl rfl rfl rfl ?_ | (refine OpsW.gs rfl rfl rfl (fun h => ?_) (fun h => ?_); fail_if_success (with_reducible have h2 : true = true := h); fail_if_success (with_reducible have h2 : false = true := h))) | (refine CW.go ?_; first | refine CW.condT rfl ?_ | refine CW.condF rfl ?_ | refine CW.seqR ?_ | refine CW.seqD ?_ | refine CW.block ?_ | refine CW.region ?_ | refine CW.ret ?_ | refine CW.exit ?_ | refine CW.skip ?_ | refine CW.unroll 6 (Un.go ?_) | (refine CW.cond rfl (fun h => ?_) (fun h => ?_))) | refine OpsW.nil ?_ | refine Un.go ?_)
  all_goals first
    | (refine ret1 rfl ⟨?_, by (first | exact H | exact H.drop | exact H.d2 | exact H.d3 | exact H.d4 | exact H.d5 | exact H.d6 | exact H.d7)⟩
       clear H
       simp at *
       simp [Ins.fit, inR]
       omega)
    | (refine OpsW.call rfl rfl rfl (anyNz_ (m := [c]) H ((SlR.of_blkO (p := [.int .i64 a, .int .i64 b]) (c := [.int .i64 c]) rfl rfl (Nat.le_refl _)).tail) (lit9 1) (fun n => n != 0) (fun x _ w H => fits1_ H x)) ?_
       rintro _ w ⟨rfl, H⟩
       rw [nz_any]
       repeat' (first | (refine OpsW.go ?_; first | refine OpsW.st rfl ?_ | refine OpsW.ld H (by (first | exact p0 | exact p1 | exact p2 | exact p3 | exact p4 | exact p5 | exact p6 | exact p7)) rfl rfl rfl rfl (by rfl) rfl ?_ | refine OpsW.nxtL H p0 rfl rfl rfl rfl rfl fun w H => ?_ | refine OpsW.nxtE H p0 rfl rfl rfl rfl ?_ | refine OpsW.ix (n := 0) rfl rfl rfl rfl rfl rfl rfl (by decide) rfl ?_ | refine OpsW.slcFs (k := 1) rfl rfl rfl rfl rfl rfl rfl (by decide) (by decide) (by decide) rfl ?_ | refine OpsW.slcFe (k := 1) rfl rfl rfl rfl rfl rfl rfl rfl rfl ?_ | (refine OpsW.gs rfl rfl rfl (fun h => ?_) (fun h => ?_); fail_if_success (with_reducible have h2 : true = true := h); fail_if_success (with_reducible have h2 : false = true := h))) | (refine CW.go ?_; first | refine CW.condT rfl ?_ | refine CW.condF rfl ?_ | refine CW.seqR ?_ | refine CW.seqD ?_ | refine CW.block ?_ | refine CW.region ?_ | refine CW.ret ?_ | refine CW.exit ?_ | refine CW.skip ?_ | refine CW.unroll 6 (Un.go ?_) | (refine CW.cond rfl (fun h => ?_) (fun h => ?_))) | refine OpsW.nil ?_ | refine Un.go ?_)
       refine ret1 rfl ⟨?_, by (first | exact H | exact H.drop | exact H.d2 | exact H.d3 | exact H.d4 | exact H.d5 | exact H.d6 | exact H.d7)⟩
       clear H
       simp at *
       simp only [Ins.fit, inR]
       by_cases ha : a = 0 <;> by_cases hb : b = 0 <;> by_cases hc : c = 0 <;> simp_all <;> first | omega | simp [show m = 0 by omega, Bool.and_assoc] | simp [show m < 4096 by omega, Bool.and_assoc])
set_option maxHeartbeats 4000000 in
theorem cfits10_ (H : Sat z w As) (a b c m : Int) : Spec cf 108 #[Ins.v ⟨10, a, b, c, m⟩] w fun e w' => e = .bool (Ins.fit ⟨10, a, b, c, m⟩) ∧ Sat z w' As := by
  refine enter (l := [Ins.v ⟨10, a, b, c, m⟩]) Tryd.func108 rfl rfl rfl rfl rfl ?_
  repeat' (first | (refine zA ?_; first | refine zB ?_ | refine zC H ?_ | refine zD H ?_ | refine zE H fun _ _ H => ?_ | refine zF H fun _ _ H => ?_ | refine zG H fun _ H => ?_ | refine zH H fun _ H => ?_) | (refine zI ?_; first | refine zJ ?_ | refine zK ?_ | refine zL ?_ | refine zM ?_ | refine zN ?_ | refine zO ?_ | refine zP ?_ | refine zQ ?_ | refine zR ?_) | refine zS ?_)
  refine OpsW.call rfl rfl rfl (regs_ H _) ?_
  rintro _ w ⟨br, rfl, H⟩
  rw [if_neg (show ¬ (10 : Int) = 11 by decide)] at H
  rw [if_neg (show ¬ (10 : Int) = 11 by decide)]
  repeat' (first | (refine zA ?_; first | refine zB ?_ | refine zC H ?_ | refine zD H ?_ | refine zE H fun _ _ H => ?_ | refine zF H fun _ _ H => ?_ | refine zG H fun _ H => ?_ | refine zH H fun _ H => ?_) | (refine zI ?_; first | refine zJ ?_ | refine zK ?_ | refine zL ?_ | refine zM ?_ | refine zN ?_ | refine zO ?_ | refine zP ?_ | refine zQ ?_ | refine zR ?_) | refine zS ?_)
  refine OpsW.call rfl rfl rfl (form_ H _) ?_
  rw [show formL 10 = [114, 107] from rfl]
  rintro _ w ⟨rfl, H⟩
  repeat' (first | (refine zA ?_; first | refine zB ?_ | refine zC H ?_ | refine zD H ?_ | refine zE H fun _ _ H => ?_ | refine zF H fun _ _ H => ?_ | refine zG H fun _ H => ?_ | refine zH H fun _ H => ?_) | (refine zI ?_; first | refine zJ ?_ | refine zK ?_ | refine zL ?_ | refine zM ?_ | refine zN ?_ | refine zO ?_ | refine zP ?_ | refine zQ ?_ | refine zR ?_) | refine zS ?_)
  refine OpsW.rng H rfl rfl rfl rfl fun bi w H => ?_
  dsimp only at H ⊢
  repeat' (first | (refine OpsW.go ?_; first | refine OpsW.st rfl ?_ | refine OpsW.ld H (by (first | exact p0 | exact p1 | exact p2 | exact p3 | exact p4 | exact p5 | exact p6 | exact p7)) rfl rfl rfl rfl (by rfl) rfl ?_ | refine OpsW.nxtL H p0 rfl rfl rfl rfl rfl fun w H => ?_ | refine OpsW.nxtE H p0 rfl rfl rfl rfl ?_ | refine OpsW.ix (n := 0) rfl rfl rfl rfl rfl rfl rfl (by decide) rfl ?_ | refine OpsW.slcFs (k := 1) rfl rfl rfl rfl rfl rfl rfl (by decide) (by decide) (by decide) rfl ?_ | refine OpsW.slcFe (k := 1) rfl rfl rfl rfl rfl rfl rfl rfl rfl ?_ | (refine OpsW.gs rfl rfl rfl (fun h => ?_) (fun h => ?_); fail_if_success (with_reducible have h2 : true = true := h); fail_if_success (with_reducible have h2 : false = true := h))) | (refine CW.go ?_; first | refine CW.condT rfl ?_ | refine CW.condF rfl ?_ | refine CW.seqR ?_ | refine CW.seqD ?_ | refine CW.block ?_ | refine CW.region ?_ | refine CW.ret ?_ | refine CW.exit ?_ | refine CW.skip ?_ | refine CW.unroll 6 (Un.go ?_) | (refine CW.cond rfl (fun h => ?_) (fun h => ?_))) | refine OpsW.nil ?_ | refine Un.go ?_)
  all_goals first
    | (refine ret1 rfl ⟨?_, by (first | exact H | exact H.drop | exact H.d2 | exact H.d3 | exact H.d4 | exact H.d5 | exact H.d6 | exact H.d7)⟩
       clear H
       simp at *
       simp [Ins.fit, inR]
       omega)
    | (refine OpsW.call rfl rfl rfl (anyNz_ (m := [c]) H ((SlR.of_blkO (p := [.int .i64 a, .int .i64 b]) (c := [.int .i64 c]) rfl rfl (Nat.le_refl _)).tail) (lit9 1) (fun n => n != 0) (fun x _ w H => fits1_ H x)) ?_
       rintro _ w ⟨rfl, H⟩
       rw [nz_any]
       repeat' (first | (refine OpsW.go ?_; first | refine OpsW.st rfl ?_ | refine OpsW.ld H (by (first | exact p0 | exact p1 | exact p2 | exact p3 | exact p4 | exact p5 | exact p6 | exact p7)) rfl rfl rfl rfl (by rfl) rfl ?_ | refine OpsW.nxtL H p0 rfl rfl rfl rfl rfl fun w H => ?_ | refine OpsW.nxtE H p0 rfl rfl rfl rfl ?_ | refine OpsW.ix (n := 0) rfl rfl rfl rfl rfl rfl rfl (by decide) rfl ?_ | refine OpsW.slcFs (k := 1) rfl rfl rfl rfl rfl rfl rfl (by decide) (by decide) (by decide) rfl ?_ | refine OpsW.slcFe (k := 1) rfl rfl rfl rfl rfl rfl rfl rfl rfl ?_ | (refine OpsW.gs rfl rfl rfl (fun h => ?_) (fun h => ?_); fail_if_success (with_reducible have h2 : true = true := h); fail_if_success (with_reducible have h2 : false = true := h))) | (refine CW.go ?_; first | refine CW.condT rfl ?_ | refine CW.condF rfl ?_ | refine CW.seqR ?_ | refine CW.seqD ?_ | refine CW.block ?_ | refine CW.region ?_ | refine CW.ret ?_ | refine CW.exit ?_ | refine CW.skip ?_ | refine CW.unroll 6 (Un.go ?_) | (refine CW.cond rfl (fun h => ?_) (fun h => ?_))) | refine OpsW.nil ?_ | refine Un.go ?_)
       refine ret1 rfl ⟨?_, by (first | exact H | exact H.drop | exact H.d2 | exact H.d3 | exact H.d4 | exact H.d5 | exact H.d6 | exact H.d7)⟩
       clear H
       simp at *
       simp only [Ins.fit, inR]
       by_cases ha : a = 0 <;> by_cases hb : b = 0 <;> by_cases hc : c = 0 <;> simp_all <;> first | omega | simp [show m = 0 by omega, Bool.and_assoc] | simp [show m < 4096 by omega, Bool.and_assoc])
set_option maxHeartbeats 4000000 in
theorem cfits11_ (H : Sat z w As) (a b c m : Int) : Spec cf 108 #[Ins.v ⟨11, a, b, c, m⟩] w fun e w' => e = .bool (Ins.fit ⟨11, a, b, c, m⟩) ∧ Sat z w' As := by
  refine enter (l := [Ins.v ⟨11, a, b, c, m⟩]) Tryd.func108 rfl rfl rfl rfl rfl ?_
  repeat' (first | (refine zA ?_; first | refine zB ?_ | refine zC H ?_ | refine zD H ?_ | refine zE H fun _ _ H => ?_ | refine zF H fun _ _ H => ?_ | refine zG H fun _ H => ?_ | refine zH H fun _ H => ?_) | (refine zI ?_; first | refine zJ ?_ | refine zK ?_ | refine zL ?_ | refine zM ?_ | refine zN ?_ | refine zO ?_ | refine zP ?_ | refine zQ ?_ | refine zR ?_) | refine zS ?_)
  refine OpsW.call rfl rfl rfl (regs_ H _) ?_
  rintro _ w ⟨br, rfl, H⟩
  rw [if_pos (show (11 : Int) = 11 from rfl)] at H
  rw [if_pos (show (11 : Int) = 11 from rfl)]
  repeat' (first | (refine zA ?_; first | refine zB ?_ | refine zC H ?_ | refine zD H ?_ | refine zE H fun _ _ H => ?_ | refine zF H fun _ _ H => ?_ | refine zG H fun _ H => ?_ | refine zH H fun _ H => ?_) | (refine zI ?_; first | refine zJ ?_ | refine zK ?_ | refine zL ?_ | refine zM ?_ | refine zN ?_ | refine zO ?_ | refine zP ?_ | refine zQ ?_ | refine zR ?_) | refine zS ?_)
  refine OpsW.call rfl rfl rfl (form_ H _) ?_
  rw [show formL 11 = [104, 107, 107] from rfl]
  rintro _ w ⟨rfl, H⟩
  repeat' (first | (refine zA ?_; first | refine zB ?_ | refine zC H ?_ | refine zD H ?_ | refine zE H fun _ _ H => ?_ | refine zF H fun _ _ H => ?_ | refine zG H fun _ H => ?_ | refine zH H fun _ H => ?_) | (refine zI ?_; first | refine zJ ?_ | refine zK ?_ | refine zL ?_ | refine zM ?_ | refine zN ?_ | refine zO ?_ | refine zP ?_ | refine zQ ?_ | refine zR ?_) | refine zS ?_)
  refine OpsW.rng H rfl rfl rfl rfl fun bi w H => ?_
  dsimp only at H ⊢
  repeat' (first | (refine OpsW.go ?_; first | refine OpsW.st rfl ?_ | refine OpsW.ld H (by (first | exact p0 | exact p1 | exact p2 | exact p3 | exact p4 | exact p5 | exact p6 | exact p7)) rfl rfl rfl rfl (by rfl) rfl ?_ | refine OpsW.nxtL H p0 rfl rfl rfl rfl rfl fun w H => ?_ | refine OpsW.nxtE H p0 rfl rfl rfl rfl ?_ | refine OpsW.ix (n := 0) rfl rfl rfl rfl rfl rfl rfl (by decide) rfl ?_ | refine OpsW.slcFs (k := 1) rfl rfl rfl rfl rfl rfl rfl (by decide) (by decide) (by decide) rfl ?_ | refine OpsW.slcFe (k := 1) rfl rfl rfl rfl rfl rfl rfl rfl rfl ?_ | (refine OpsW.gs rfl rfl rfl (fun h => ?_) (fun h => ?_); fail_if_success (with_reducible have h2 : true = true := h); fail_if_success (with_reducible have h2 : false = true := h))) | (refine CW.go ?_; first | refine CW.condT rfl ?_ | refine CW.condF rfl ?_ | refine CW.seqR ?_ | refine CW.seqD ?_ | refine CW.block ?_ | refine CW.region ?_ | refine CW.ret ?_ | refine CW.exit ?_ | refine CW.skip ?_ | refine CW.unroll 6 (Un.go ?_) | (refine CW.cond rfl (fun h => ?_) (fun h => ?_))) | refine OpsW.nil ?_ | refine Un.go ?_)
  all_goals first
    | (refine ret1 rfl ⟨?_, by (first | exact H | exact H.drop | exact H.d2 | exact H.d3 | exact H.d4 | exact H.d5 | exact H.d6 | exact H.d7)⟩
       clear H
       simp at *
       simp [Ins.fit, inR]
       omega)
    | (refine OpsW.call rfl rfl rfl (anyNz_ (m := []) H (SlR.nil_) (lit9 0) (fun n => n != 0) (fun x _ w H => fits1_ H x)) ?_
       rintro _ w ⟨rfl, H⟩
       rw [nz_any]
       repeat' (first | (refine OpsW.go ?_; first | refine OpsW.st rfl ?_ | refine OpsW.ld H (by (first | exact p0 | exact p1 | exact p2 | exact p3 | exact p4 | exact p5 | exact p6 | exact p7)) rfl rfl rfl rfl (by rfl) rfl ?_ | refine OpsW.nxtL H p0 rfl rfl rfl rfl rfl fun w H => ?_ | refine OpsW.nxtE H p0 rfl rfl rfl rfl ?_ | refine OpsW.ix (n := 0) rfl rfl rfl rfl rfl rfl rfl (by decide) rfl ?_ | refine OpsW.slcFs (k := 1) rfl rfl rfl rfl rfl rfl rfl (by decide) (by decide) (by decide) rfl ?_ | refine OpsW.slcFe (k := 1) rfl rfl rfl rfl rfl rfl rfl rfl rfl ?_ | (refine OpsW.gs rfl rfl rfl (fun h => ?_) (fun h => ?_); fail_if_success (with_reducible have h2 : true = true := h); fail_if_success (with_reducible have h2 : false = true := h))) | (refine CW.go ?_; first | refine CW.condT rfl ?_ | refine CW.condF rfl ?_ | refine CW.seqR ?_ | refine CW.seqD ?_ | refine CW.block ?_ | refine CW.region ?_ | refine CW.ret ?_ | refine CW.exit ?_ | refine CW.skip ?_ | refine CW.unroll 6 (Un.go ?_) | (refine CW.cond rfl (fun h => ?_) (fun h => ?_))) | refine OpsW.nil ?_ | refine Un.go ?_)
       refine ret1 rfl ⟨?_, by (first | exact H | exact H.drop | exact H.d2 | exact H.d3 | exact H.d4 | exact H.d5 | exact H.d6 | exact H.d7)⟩
       clear H
       simp at *
       simp only [Ins.fit, inR]
       by_cases ha : a = 0 <;> by_cases hb : b = 0 <;> by_cases hc : c = 0 <;> simp_all <;> first | omega | simp [show m = 0 by omega, Bool.and_assoc] | simp [show m < 4096 by omega, Bool.and_assoc])
set_option maxHeartbeats 4000000 in
theorem cfits12_ (H : Sat z w As) (a b c m : Int) : Spec cf 108 #[Ins.v ⟨12, a, b, c, m⟩] w fun e w' => e = .bool (Ins.fit ⟨12, a, b, c, m⟩) ∧ Sat z w' As := by
  refine enter (l := [Ins.v ⟨12, a, b, c, m⟩]) Tryd.func108 rfl rfl rfl rfl rfl ?_
  repeat' (first | (refine zA ?_; first | refine zB ?_ | refine zC H ?_ | refine zD H ?_ | refine zE H fun _ _ H => ?_ | refine zF H fun _ _ H => ?_ | refine zG H fun _ H => ?_ | refine zH H fun _ H => ?_) | (refine zI ?_; first | refine zJ ?_ | refine zK ?_ | refine zL ?_ | refine zM ?_ | refine zN ?_ | refine zO ?_ | refine zP ?_ | refine zQ ?_ | refine zR ?_) | refine zS ?_)
  refine OpsW.call rfl rfl rfl (regs_ H _) ?_
  rintro _ w ⟨br, rfl, H⟩
  rw [if_neg (show ¬ (12 : Int) = 11 by decide)] at H
  rw [if_neg (show ¬ (12 : Int) = 11 by decide)]
  repeat' (first | (refine zA ?_; first | refine zB ?_ | refine zC H ?_ | refine zD H ?_ | refine zE H fun _ _ H => ?_ | refine zF H fun _ _ H => ?_ | refine zG H fun _ H => ?_ | refine zH H fun _ H => ?_) | (refine zI ?_; first | refine zJ ?_ | refine zK ?_ | refine zL ?_ | refine zM ?_ | refine zN ?_ | refine zO ?_ | refine zP ?_ | refine zQ ?_ | refine zR ?_) | refine zS ?_)
  refine OpsW.call rfl rfl rfl (form_ H _) ?_
  rw [show formL 12 = [] from rfl]
  rintro _ w ⟨rfl, H⟩
  repeat' (first | (refine zA ?_; first | refine zB ?_ | refine zC H ?_ | refine zD H ?_ | refine zE H fun _ _ H => ?_ | refine zF H fun _ _ H => ?_ | refine zG H fun _ H => ?_ | refine zH H fun _ H => ?_) | (refine zI ?_; first | refine zJ ?_ | refine zK ?_ | refine zL ?_ | refine zM ?_ | refine zN ?_ | refine zO ?_ | refine zP ?_ | refine zQ ?_ | refine zR ?_) | refine zS ?_)
  refine OpsW.rng H rfl rfl rfl rfl fun bi w H => ?_
  dsimp only at H ⊢
  repeat' (first | (refine OpsW.go ?_; first | refine OpsW.st rfl ?_ | refine OpsW.ld H (by (first | exact p0 | exact p1 | exact p2 | exact p3 | exact p4 | exact p5 | exact p6 | exact p7)) rfl rfl rfl rfl (by rfl) rfl ?_ | refine OpsW.nxtL H p0 rfl rfl rfl rfl rfl fun w H => ?_ | refine OpsW.nxtE H p0 rfl rfl rfl rfl ?_ | refine OpsW.ix (n := 0) rfl rfl rfl rfl rfl rfl rfl (by decide) rfl ?_ | refine OpsW.slcFs (k := 1) rfl rfl rfl rfl rfl rfl rfl (by decide) (by decide) (by decide) rfl ?_ | refine OpsW.slcFe (k := 1) rfl rfl rfl rfl rfl rfl rfl rfl rfl ?_ | (refine OpsW.gs rfl rfl rfl (fun h => ?_) (fun h => ?_); fail_if_success (with_reducible have h2 : true = true := h); fail_if_success (with_reducible have h2 : false = true := h))) | (refine CW.go ?_; first | refine CW.condT rfl ?_ | refine CW.condF rfl ?_ | refine CW.seqR ?_ | refine CW.seqD ?_ | refine CW.block ?_ | refine CW.region ?_ | refine CW.ret ?_ | refine CW.exit ?_ | refine CW.skip ?_ | refine CW.unroll 6 (Un.go ?_) | (refine CW.cond rfl (fun h => ?_) (fun h => ?_))) | refine OpsW.nil ?_ | refine Un.go ?_)
  all_goals first
    | (refine ret1 rfl ⟨?_, by (first | exact H | exact H.drop | exact H.d2 | exact H.d3 | exact H.d4 | exact H.d5 | exact H.d6 | exact H.d7)⟩
       clear H
       simp at *
       simp [Ins.fit, inR]
       omega)
    | (refine OpsW.call rfl rfl rfl (anyNz_ (m := [a, b, c]) H ((SlR.of_blkO (p := []) (c := [.int .i64 a, .int .i64 b, .int .i64 c]) rfl rfl (Nat.le_refl _)).tail) (lit9 3) (fun n => n != 0) (fun x _ w H => fits1_ H x)) ?_
       rintro _ w ⟨rfl, H⟩
       rw [nz_any]
       repeat' (first | (refine OpsW.go ?_; first | refine OpsW.st rfl ?_ | refine OpsW.ld H (by (first | exact p0 | exact p1 | exact p2 | exact p3 | exact p4 | exact p5 | exact p6 | exact p7)) rfl rfl rfl rfl (by rfl) rfl ?_ | refine OpsW.nxtL H p0 rfl rfl rfl rfl rfl fun w H => ?_ | refine OpsW.nxtE H p0 rfl rfl rfl rfl ?_ | refine OpsW.ix (n := 0) rfl rfl rfl rfl rfl rfl rfl (by decide) rfl ?_ | refine OpsW.slcFs (k := 1) rfl rfl rfl rfl rfl rfl rfl (by decide) (by decide) (by decide) rfl ?_ | refine OpsW.slcFe (k := 1) rfl rfl rfl rfl rfl rfl rfl rfl rfl ?_ | (refine OpsW.gs rfl rfl rfl (fun h => ?_) (fun h => ?_); fail_if_success (with_reducible have h2 : true = true := h); fail_if_success (with_reducible have h2 : false = true := h))) | (refine CW.go ?_; first | refine CW.condT rfl ?_ | refine CW.condF rfl ?_ | refine CW.seqR ?_ | refine CW.seqD ?_ | refine CW.block ?_ | refine CW.region ?_ | refine CW.ret ?_ | refine CW.exit ?_ | refine CW.skip ?_ | refine CW.unroll 6 (Un.go ?_) | (refine CW.cond rfl (fun h => ?_) (fun h => ?_))) | refine OpsW.nil ?_ | refine Un.go ?_)
       refine ret1 rfl ⟨?_, by (first | exact H | exact H.drop | exact H.d2 | exact H.d3 | exact H.d4 | exact H.d5 | exact H.d6 | exact H.d7)⟩
       clear H
       simp at *
       simp only [Ins.fit, inR]
       by_cases ha : a = 0 <;> by_cases hb : b = 0 <;> by_cases hc : c = 0 <;> simp_all <;> first | omega | simp [show m = 0 by omega, Bool.and_assoc] | simp [show m < 4096 by omega, Bool.and_assoc])
set_option maxHeartbeats 4000000 in
theorem cfits13_ (H : Sat z w As) (a b c m : Int) : Spec cf 108 #[Ins.v ⟨13, a, b, c, m⟩] w fun e w' => e = .bool (Ins.fit ⟨13, a, b, c, m⟩) ∧ Sat z w' As := by
  refine enter (l := [Ins.v ⟨13, a, b, c, m⟩]) Tryd.func108 rfl rfl rfl rfl rfl ?_
  repeat' (first | (refine zA ?_; first | refine zB ?_ | refine zC H ?_ | refine zD H ?_ | refine zE H fun _ _ H => ?_ | refine zF H fun _ _ H => ?_ | refine zG H fun _ H => ?_ | refine zH H fun _ H => ?_) | (refine zI ?_; first | refine zJ ?_ | refine zK ?_ | refine zL ?_ | refine zM ?_ | refine zN ?_ | refine zO ?_ | refine zP ?_ | refine zQ ?_ | refine zR ?_) | refine zS ?_)
  refine OpsW.call rfl rfl rfl (regs_ H _) ?_
  rintro _ w ⟨br, rfl, H⟩
  rw [if_neg (show ¬ (13 : Int) = 11 by decide)] at H
  rw [if_neg (show ¬ (13 : Int) = 11 by decide)]
  repeat' (first | (refine zA ?_; first | refine zB ?_ | refine zC H ?_ | refine zD H ?_ | refine zE H fun _ _ H => ?_ | refine zF H fun _ _ H => ?_ | refine zG H fun _ H => ?_ | refine zH H fun _ H => ?_) | (refine zI ?_; first | refine zJ ?_ | refine zK ?_ | refine zL ?_ | refine zM ?_ | refine zN ?_ | refine zO ?_ | refine zP ?_ | refine zQ ?_ | refine zR ?_) | refine zS ?_)
  refine OpsW.call rfl rfl rfl (form_ H _) ?_
  rw [show formL 13 = [] from rfl]
  rintro _ w ⟨rfl, H⟩
  repeat' (first | (refine zA ?_; first | refine zB ?_ | refine zC H ?_ | refine zD H ?_ | refine zE H fun _ _ H => ?_ | refine zF H fun _ _ H => ?_ | refine zG H fun _ H => ?_ | refine zH H fun _ H => ?_) | (refine zI ?_; first | refine zJ ?_ | refine zK ?_ | refine zL ?_ | refine zM ?_ | refine zN ?_ | refine zO ?_ | refine zP ?_ | refine zQ ?_ | refine zR ?_) | refine zS ?_)
  refine OpsW.rng H rfl rfl rfl rfl fun bi w H => ?_
  dsimp only at H ⊢
  repeat' (first | (refine OpsW.go ?_; first | refine OpsW.st rfl ?_ | refine OpsW.ld H (by (first | exact p0 | exact p1 | exact p2 | exact p3 | exact p4 | exact p5 | exact p6 | exact p7)) rfl rfl rfl rfl (by rfl) rfl ?_ | refine OpsW.nxtL H p0 rfl rfl rfl rfl rfl fun w H => ?_ | refine OpsW.nxtE H p0 rfl rfl rfl rfl ?_ | refine OpsW.ix (n := 0) rfl rfl rfl rfl rfl rfl rfl (by decide) rfl ?_ | refine OpsW.slcFs (k := 1) rfl rfl rfl rfl rfl rfl rfl (by decide) (by decide) (by decide) rfl ?_ | refine OpsW.slcFe (k := 1) rfl rfl rfl rfl rfl rfl rfl rfl rfl ?_ | (refine OpsW.gs rfl rfl rfl (fun h => ?_) (fun h => ?_); fail_if_success (with_reducible have h2 : true = true := h); fail_if_success (with_reducible have h2 : false = true := h))) | (refine CW.go ?_; first | refine CW.condT rfl ?_ | refine CW.condF rfl ?_ | refine CW.seqR ?_ | refine CW.seqD ?_ | refine CW.block ?_ | refine CW.region ?_ | refine CW.ret ?_ | refine CW.exit ?_ | refine CW.skip ?_ | refine CW.unroll 6 (Un.go ?_) | (refine CW.cond rfl (fun h => ?_) (fun h => ?_))) | refine OpsW.nil ?_ | refine Un.go ?_)
  all_goals first
    | (refine ret1 rfl ⟨?_, by (first | exact H | exact H.drop | exact H.d2 | exact H.d3 | exact H.d4 | exact H.d5 | exact H.d6 | exact H.d7)⟩
       clear H
       simp at *
       simp [Ins.fit, inR]
       omega)
    | (refine OpsW.call rfl rfl rfl (anyNz_ (m := [a, b, c]) H ((SlR.of_blkO (p := []) (c := [.int .i64 a, .int .i64 b, .int .i64 c]) rfl rfl (Nat.le_refl _)).tail) (lit9 3) (fun n => n != 0) (fun x _ w H => fits1_ H x)) ?_
       rintro _ w ⟨rfl, H⟩
       rw [nz_any]
       repeat' (first | (refine OpsW.go ?_; first | refine OpsW.st rfl ?_ | refine OpsW.ld H (by (first | exact p0 | exact p1 | exact p2 | exact p3 | exact p4 | exact p5 | exact p6 | exact p7)) rfl rfl rfl rfl (by rfl) rfl ?_ | refine OpsW.nxtL H p0 rfl rfl rfl rfl rfl fun w H => ?_ | refine OpsW.nxtE H p0 rfl rfl rfl rfl ?_ | refine OpsW.ix (n := 0) rfl rfl rfl rfl rfl rfl rfl (by decide) rfl ?_ | refine OpsW.slcFs (k := 1) rfl rfl rfl rfl rfl rfl rfl (by decide) (by decide) (by decide) rfl ?_ | refine OpsW.slcFe (k := 1) rfl rfl rfl rfl rfl rfl rfl rfl rfl ?_ | (refine OpsW.gs rfl rfl rfl (fun h => ?_) (fun h => ?_); fail_if_success (with_reducible have h2 : true = true := h); fail_if_success (with_reducible have h2 : false = true := h))) | (refine CW.go ?_; first | refine CW.condT rfl ?_ | refine CW.condF rfl ?_ | refine CW.seqR ?_ | refine CW.seqD ?_ | refine CW.block ?_ | refine CW.region ?_ | refine CW.ret ?_ | refine CW.exit ?_ | refine CW.skip ?_ | refine CW.unroll 6 (Un.go ?_) | (refine CW.cond rfl (fun h => ?_) (fun h => ?_))) | refine OpsW.nil ?_ | refine Un.go ?_)
       refine ret1 rfl ⟨?_, by (first | exact H | exact H.drop | exact H.d2 | exact H.d3 | exact H.d4 | exact H.d5 | exact H.d6 | exact H.d7)⟩
       clear H
       simp at *
       simp only [Ins.fit, inR]
       by_cases ha : a = 0 <;> by_cases hb : b = 0 <;> by_cases hc : c = 0 <;> simp_all <;> first | omega | simp [show m = 0 by omega, Bool.and_assoc] | simp [show m < 4096 by omega, Bool.and_assoc])
theorem cfits_ (H : Sat z w As) (i : Ins) (h : 1 ≤ i.op ∧ i.op ≤ 13) : Spec cf 108 #[i.v] w fun e w' => e = .bool i.fit ∧ Sat z w' As := by
  obtain ⟨op, a, b, c, m⟩ := i
  dsimp only at h
  rcases (show op = 1 ∨ op = 2 ∨ op = 3 ∨ op = 4 ∨ op = 5 ∨ op = 6 ∨ op = 7 ∨ op = 8 ∨ op = 9 ∨ op = 10 ∨ op = 11 ∨ op = 12 ∨ op = 13 by omega) with rfl | rfl | rfl | rfl | rfl | rfl | rfl | rfl | rfl | rfl | rfl | rfl | rfl
  · exact cfits1_ H a b c m
  · exact cfits2_ H a b c m
  · exact cfits3_ H a b c m
  · exact cfits4_ H a b c m
  · exact cfits5_ H a b c m
  · exact cfits6_ H a b c m
  · exact cfits7_ H a b c m
  · exact cfits8_ H a b c m
  · exact cfits9_ H a b c m
  · exact cfits10_ H a b c m
  · exact cfits11_ H a b c m
  · exact cfits12_ H a b c m
  · exact cfits13_ H a b c m
end
end Go.Proofs.YtnfefbhjdncccaaDoor.X
