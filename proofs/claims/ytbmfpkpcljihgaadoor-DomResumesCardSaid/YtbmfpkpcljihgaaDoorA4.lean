/- Contracts of chapter 4 (arena); conditions: none. -/
import Derived.Test.YtbmfpkpcljihgaaDoorGB
import Derived.Deep.Slices
import Derived.Deep.Fields
import Derived.ChangeSame
import Derived.ProofKit
import Derived.OpenShut
import Derived.ChangeOld
import Derived.Test.YtbmfpkpcljihgaaDoorAN
--AUTODROP
namespace Go.Proofs.YtbmfpkpcljihgaaDoor.X
open Go Go.Proofs
set_option linter.unusedSimpArgs false
set_option linter.unusedVariables false
attribute [local irreducible] CW OpsW RetW Spec blk snap DrawP AnyW AnyM AnyN bits IntKind.wrap vec
structure Pl where
  there : Bool
  ver : Int
  gone : Bool
def Pl.c (p : Pl) : List Value := [.bool p.there, .int .i64 p.ver, .bool p.gone]
theorem Pl.c_len (p : Pl) : p.c.length = 3 := rfl
def Pl.free (p : Pl) : Bool := !p.there && !p.gone
def Pl.take (p : Pl) : Pl := ⟨true, p.ver, p.gone⟩
def Pl.give (p : Pl) : Pl := if p.ver = 1048575 then ⟨false, p.ver, true⟩ else ⟨false, IntKind.wrap .i64 (p.ver + 1), p.gone⟩
abbrev Pl.z : Pl := ⟨false, 0, false⟩
def arena (ba : Nat) (l : List Pl) : HP := fun h => ∃ b : Nat, ∃ cap : Nat, ∃ rest : List Value, l.length ≤ cap ∧ star (blk ba 127 [.slice (some ⟨b, 0, none⟩) l.length cap]) (blk b 129 (l.flatMap Pl.c ++ rest)) h
section
variable {z w : World} {Rs : List HP} {ba : Nat} {l : List Pl}
theorem arena_open (H : Sat z w (arena ba l :: Rs)) : ∃ b cap rest, l.length ≤ cap ∧ Sat z w (blk ba 127 [.slice (some ⟨b, 0, none⟩) l.length cap] :: blk b 129 (l.flatMap Pl.c ++ rest) :: Rs) := by
  obtain ⟨b, H⟩ := H.ex
  obtain ⟨cap, H⟩ := H.ex
  obtain ⟨rest, H⟩ := H.ex
  obtain ⟨h, H⟩ := H.and_
  exact ⟨b, cap, rest, h, H.split⟩
theorem arena_close {b cap n : Nat} {rest : List Value} (H : Sat z w (blk ba 127 [.slice (some ⟨b, 0, none⟩) n cap] :: blk b 129 (l.flatMap Pl.c ++ rest) :: Rs)) (hn : n = l.length) (hc : n ≤ cap) : Sat z w (arena ba l :: Rs) := by
  subst hn
  exact H.join.imp fun h e => ⟨b, cap, rest, hc, e⟩
theorem pl_get (l : List Pl) (rest : List Value) (i o : Nat) (hi : i < l.length) (ho : o < 3) : (l.flatMap Pl.c ++ rest)[0 + i * 3 + o]? = (l[i].c)[o]? := by
  rw [Nat.zero_add]; exact fl_get Pl.c 3 Pl.c_len l rest i o hi ho
theorem pl_set (l : List Pl) (rest : List Value) (i o : Nat) (hi : i < l.length) (ho : o < 3) (v : Value) (x : Pl) (hx : x.c = l[i].c.set o v) : (l.flatMap Pl.c ++ rest).set (0 + i * 3 + o) v = (l.set i x).flatMap Pl.c ++ rest := by
  rw [Nat.zero_add]; exact fl_set Pl.c 3 Pl.c_len l rest i o hi ho v x hx
theorem pl_len (l : List Pl) : (l.flatMap Pl.c).length = l.length * 3 := fl_length Pl.c 3 Pl.c_len l
theorem pl_repl (n : Nat) : repl n [.bool false, .int .i64 0, .bool false] = (List.replicate n (⟨false, 0, false⟩ : Pl)).flatMap Pl.c := by
  induction n with
  | zero => rfl
  | succ n ih => rw [repl, ih, List.replicate_succ, List.flatMap_cons]; rfl
set_option maxRecDepth 20000 in
theorem arena_new (n : Nat) (h1 : 1 ≤ n) (h2 : n ≤ 256) (H : Sat z w Rs) :
    Spec cf 51 #[.int .i64 n] w fun e w' => ∃ ba, e = .tuple #[.pointer (some ⟨ba, 0, none⟩), .nilIface] ∧ Sat z w' (arena ba (List.replicate n ⟨false, 0, false⟩) :: Rs) := by
  refine enter (l := [.int .i64 n]) Tryd.func51 rfl rfl rfl rfl rfl ?_
  repeat' (first | (refine zA ?_; first | refine zB ?_ | refine zC H ?_ | refine zD H ?_ | refine zE H fun _ _ H => ?_ | refine zF H fun _ _ H => ?_ | refine zG H fun _ H => ?_ | refine zH H fun _ H => ?_) | (refine zI ?_; first | refine zJ ?_ | refine zK ?_ | refine zL ?_ | refine zM ?_ | refine zN ?_ | refine zO ?_ | refine zP ?_ | refine zQ ?_ | refine zR ?_) | refine zS ?_)
  refine OpsW.gs rfl rfl rfl (fun h => absurd (of_decide_eq_true h) (by omega)) (fun h0 => ?_)
  repeat' (first | (refine zA ?_; first | refine zB ?_ | refine zC H ?_ | refine zD H ?_ | refine zE H fun _ _ H => ?_ | refine zF H fun _ _ H => ?_ | refine zG H fun _ H => ?_ | refine zH H fun _ H => ?_) | (refine zI ?_; first | refine zJ ?_ | refine zK ?_ | refine zL ?_ | refine zM ?_ | refine zN ?_ | refine zO ?_ | refine zP ?_ | refine zQ ?_ | refine zR ?_) | refine zS ?_)
  refine CW.cond rfl (fun h => absurd (of_decide_eq_true h) (by omega)) (fun h0 => ?_)
  repeat' (first | (refine zA ?_; first | refine zB ?_ | refine zC H ?_ | refine zD H ?_ | refine zE H fun _ _ H => ?_ | refine zF H fun _ _ H => ?_ | refine zG H fun _ H => ?_ | refine zH H fun _ H => ?_) | (refine zI ?_; first | refine zJ ?_ | refine zK ?_ | refine zL ?_ | refine zM ?_ | refine zN ?_ | refine zO ?_ | refine zP ?_ | refine zQ ?_ | refine zR ?_) | refine zS ?_)
  refine OpsW.mks H rfl rfl rfl rfl rfl (by omega) rfl rfl rfl rfl rfl fun b w H => ?_
  repeat' (first | (refine zA ?_; first | refine zB ?_ | refine zC H ?_ | refine zD H ?_ | refine zE H fun _ _ H => ?_ | refine zF H fun _ _ H => ?_ | refine zG H fun _ H => ?_ | refine zH H fun _ H => ?_) | (refine zI ?_; first | refine zJ ?_ | refine zK ?_ | refine zL ?_ | refine zM ?_ | refine zN ?_ | refine zO ?_ | refine zP ?_ | refine zQ ?_ | refine zR ?_) | refine zS ?_)
  refine ret2 rfl rfl ⟨_, rfl, arena_close (b := b) (rest := []) (l := List.replicate n ⟨false, 0, false⟩) ?_ (by simp) (Nat.le_refl n)⟩
  rw [List.append_nil, ← pl_repl]
  exact H
theorem arena_there (H : Sat z w (arena ba l :: Rs)) (hl : l.length ≤ 256) (id : Int) :
    Spec cf 53 #[.pointer (some ⟨ba, 0, none⟩), .int .i64 id] w fun r w' => r = .bool (decide (0 ≤ id) && (l.getD id.toNat Pl.z).there) ∧ Sat z w' (arena ba l :: Rs) := by
  refine enter (l := [.pointer (some ⟨ba, 0, none⟩), .int .i64 id]) Tryd.func53 rfl rfl rfl rfl rfl ?_
  obtain ⟨b, cap, rest, hc, H⟩ := arena_open H
  repeat' (first | (refine zA ?_; first | refine zB ?_ | refine zC H ?_ | refine zD H ?_ | refine zE H fun _ _ H => ?_ | refine zF H fun _ _ H => ?_ | refine zG H fun _ H => ?_ | refine zH H fun _ H => ?_) | (refine zI ?_; first | refine zJ ?_ | refine zK ?_ | refine zL ?_ | refine zM ?_ | refine zN ?_ | refine zO ?_ | refine zP ?_ | refine zQ ?_ | refine zR ?_) | refine zS ?_)
  refine OpsW.gs rfl rfl rfl (fun h => ?_) (fun h0 => ?_)
  · repeat' (first | (refine zA ?_; first | refine zB ?_ | refine zC H ?_ | refine zD H ?_ | refine zE H fun _ _ H => ?_ | refine zF H fun _ _ H => ?_ | refine zG H fun _ H => ?_ | refine zH H fun _ H => ?_) | (refine zI ?_; first | refine zJ ?_ | refine zK ?_ | refine zL ?_ | refine zM ?_ | refine zN ?_ | refine zO ?_ | refine zP ?_ | refine zQ ?_ | refine zR ?_) | refine zS ?_)
    refine OpsW.gs rfl rfl rfl (fun h2 => ?_) (fun h2 => ?_)
    · obtain ⟨i, rfl⟩ := Int.eq_ofNat_of_zero_le (of_decide_eq_true h)
      have hi : i < l.length := by have := of_decide_eq_true h2; omega
      have hg := pl_get l rest i 0 hi (by decide)
      repeat' (first | (refine zA ?_; first | refine zB ?_ | refine zC H ?_ | refine zD H ?_ | refine zE H fun _ _ H => ?_ | refine zF H fun _ _ H => ?_ | refine zG H fun _ H => ?_ | refine zH H fun _ H => ?_) | (refine zI ?_; first | refine zJ ?_ | refine zK ?_ | refine zL ?_ | refine zM ?_ | refine zN ?_ | refine zO ?_ | refine zP ?_ | refine zQ ?_ | refine zR ?_) | refine zS ?_)
      refine OpsW.ix (n := i) rfl rfl rfl rfl rfl rfl rfl hi rfl ?_
      repeat' (first | (refine zA ?_; first | refine zB ?_ | refine zC H ?_ | refine zD H ?_ | refine zE H fun _ _ H => ?_ | refine zF H fun _ _ H => ?_ | refine zG H fun _ H => ?_ | refine zH H fun _ H => ?_) | (refine zI ?_; first | refine zJ ?_ | refine zK ?_ | refine zL ?_ | refine zM ?_ | refine zN ?_ | refine zO ?_ | refine zP ?_ | refine zQ ?_ | refine zR ?_) | refine zS ?_)
      refine OpsW.ld H (pS p0) rfl rfl rfl rfl hg rfl ?_
      repeat' (first | (refine zA ?_; first | refine zB ?_ | refine zC H ?_ | refine zD H ?_ | refine zE H fun _ _ H => ?_ | refine zF H fun _ _ H => ?_ | refine zG H fun _ H => ?_ | refine zH H fun _ H => ?_) | (refine zI ?_; first | refine zJ ?_ | refine zK ?_ | refine zL ?_ | refine zM ?_ | refine zN ?_ | refine zO ?_ | refine zP ?_ | refine zQ ?_ | refine zR ?_) | refine zS ?_)
      refine ret1 rfl ⟨?_, arena_close H rfl hc⟩
      simp [hi]
    · repeat' (first | (refine zA ?_; first | refine zB ?_ | refine zC H ?_ | refine zD H ?_ | refine zE H fun _ _ H => ?_ | refine zF H fun _ _ H => ?_ | refine zG H fun _ H => ?_ | refine zH H fun _ H => ?_) | (refine zI ?_; first | refine zJ ?_ | refine zK ?_ | refine zL ?_ | refine zM ?_ | refine zN ?_ | refine zO ?_ | refine zP ?_ | refine zQ ?_ | refine zR ?_) | refine zS ?_)
      refine ret1 rfl ⟨?_, arena_close H rfl hc⟩
      have := of_decide_eq_false h2
      have h3 : l.length ≤ id.toNat := by have := of_decide_eq_true h; omega
      simp [h3]
  · repeat' (first | (refine zA ?_; first | refine zB ?_ | refine zC H ?_ | refine zD H ?_ | refine zE H fun _ _ H => ?_ | refine zF H fun _ _ H => ?_ | refine zG H fun _ H => ?_ | refine zH H fun _ H => ?_) | (refine zI ?_; first | refine zJ ?_ | refine zK ?_ | refine zL ?_ | refine zM ?_ | refine zN ?_ | refine zO ?_ | refine zP ?_ | refine zQ ?_ | refine zR ?_) | refine zS ?_)
    refine ret1 rfl ⟨?_, arena_close H rfl hc⟩
    have := of_decide_eq_false h0
    simp; omega
theorem arena_take (H : Sat z w (arena ba l :: Rs)) (hl : l.length ≤ 256) {te : TypeId} {ve : Value} (hE : GlobV Rs 3 (.iface te ve)) :
    Spec cf 52 #[.pointer (some ⟨ba, 0, none⟩)] w fun r w' => match l.findIdx? Pl.free with
      | some i => r = .tuple #[.int .i64 i, .int .i64 (l.getD i Pl.z).ver, .nilIface] ∧ Sat z w' (arena ba (l.set i (l.getD i Pl.z).take) :: Rs)
      | none => r = .tuple #[.int .i64 0, .int .i64 0, .iface te ve] ∧ Sat z w' (arena ba l :: Rs) := by
  refine enter (l := [.pointer (some ⟨ba, 0, none⟩)]) Tryd.func52 rfl rfl rfl rfl rfl ?_
  obtain ⟨b, cap, rest, hc, H⟩ := arena_open H
  repeat' (first | (refine zA ?_; first | refine zB ?_ | refine zC H ?_ | refine zD H ?_ | refine zE H fun _ _ H => ?_ | refine zF H fun _ _ H => ?_ | refine zG H fun _ H => ?_ | refine zH H fun _ H => ?_) | (refine zI ?_; first | refine zJ ?_ | refine zK ?_ | refine zL ?_ | refine zM ?_ | refine zN ?_ | refine zO ?_ | refine zP ?_ | refine zQ ?_ | refine zR ?_) | refine zS ?_)
  refine CW.loopF (X := Nat) (fun j => Nat.beq j 5 || Nat.beq j 6 || Nat.ble 12 j) (fun i => [(12, .int .i64 (i : Int))]) (fun i w => (i ≤ l.length ∧ ∀ j (hj : j < l.length), j < i → l[j].free = false) ∧ Sat z w (blk ba 127 [.slice (some ⟨b, 0, none⟩) l.length cap] :: blk b 129 (l.flatMap Pl.c ++ rest) :: Rs)) (fun i => l.length - i) 0 ⟨rfl, trivial⟩ ⟨⟨Nat.zero_le _, fun j _ hj => absurd hj (Nat.not_lt_zero j)⟩, H⟩ ?_
  rintro i τ w ⟨⟨hi, hne⟩, H⟩
  repeat' (first | (refine zA ?_; first | refine zB ?_ | refine zC H ?_ | refine zD H ?_ | refine zE H fun _ _ H => ?_ | refine zF H fun _ _ H => ?_ | refine zG H fun _ H => ?_ | refine zH H fun _ H => ?_) | (refine zI ?_; first | refine zJ ?_ | refine zK ?_ | refine zL ?_ | refine zM ?_ | refine zN ?_ | refine zO ?_ | refine zP ?_ | refine zQ ?_ | refine zR ?_) | refine zS ?_)
  refine CW.cond rfl (fun h => ?_) (fun h => ?_)
  · have hi' : i < l.length := by simpa using h
    have hg0 := pl_get l rest i 0 hi' (by decide)
    have hg1 := pl_get l rest i 1 hi' (by decide)
    have hg2 := pl_get l rest i 2 hi' (by decide)
    have hd : l.getD i Pl.z = l[i] := by simp [hi']
    obtain ⟨p, hp⟩ : ∃ p, p = l[i] := ⟨_, rfl⟩
    rw [← hp] at hg0 hg1 hg2
    have hfree : l[i].free = p.free := by rw [hp]
    obtain ⟨t0, v0, g0⟩ := p
    repeat' (first | (refine zA ?_; first | refine zB ?_ | refine zC H ?_ | refine zD H ?_ | refine zE H fun _ _ H => ?_ | refine zF H fun _ _ H => ?_ | refine zG H fun _ H => ?_ | refine zH H fun _ H => ?_) | (refine zI ?_; first | refine zJ ?_ | refine zK ?_ | refine zL ?_ | refine zM ?_ | refine zN ?_ | refine zO ?_ | refine zP ?_ | refine zQ ?_ | refine zR ?_) | refine zS ?_)
    refine OpsW.ix (n := i) rfl rfl rfl rfl rfl rfl rfl hi' rfl ?_
    repeat' (first | (refine zA ?_; first | refine zB ?_ | refine zC H ?_ | refine zD H ?_ | refine zE H fun _ _ H => ?_ | refine zF H fun _ _ H => ?_ | refine zG H fun _ H => ?_ | refine zH H fun _ H => ?_) | (refine zI ?_; first | refine zJ ?_ | refine zK ?_ | refine zL ?_ | refine zM ?_ | refine zN ?_ | refine zO ?_ | refine zP ?_ | refine zQ ?_ | refine zR ?_) | refine zS ?_)
    refine OpsW.ld H (pS p0) rfl rfl rfl rfl hg0 rfl ?_
    cases t0
    · repeat' (first | (refine zA ?_; first | refine zB ?_ | refine zC H ?_ | refine zD H ?_ | refine zE H fun _ _ H => ?_ | refine zF H fun _ _ H => ?_ | refine zG H fun _ H => ?_ | refine zH H fun _ H => ?_) | (refine zI ?_; first | refine zJ ?_ | refine zK ?_ | refine zL ?_ | refine zM ?_ | refine zN ?_ | refine zO ?_ | refine zP ?_ | refine zQ ?_ | refine zR ?_) | refine zS ?_)
      refine OpsW.ld H (pS p0) rfl rfl rfl rfl hg2 rfl ?_
      cases g0
      · repeat' (first | (refine zA ?_; first | refine zB ?_ | refine zC H ?_ | refine zD H ?_ | refine zE H fun _ _ H => ?_ | refine zF H fun _ _ H => ?_ | refine zG H fun _ H => ?_ | refine zH H fun _ H => ?_) | (refine zI ?_; first | refine zJ ?_ | refine zK ?_ | refine zL ?_ | refine zM ?_ | refine zN ?_ | refine zO ?_ | refine zP ?_ | refine zQ ?_ | refine zR ?_) | refine zS ?_)
        refine OpsW.str H (pS p0) rfl rfl rfl rfl rfl rfl (by rw [List.length_append, pl_len]; omega) fun w H => ?_
        rw [pl_set l rest i 0 hi' (by decide) (.bool true) l[i].take (by rw [← hp]; rfl)] at H
        have hi2 : i < (l.set i l[i].take).length := by simpa using hi'
        have hg1' := pl_get (l.set i l[i].take) rest i 1 hi2 (by decide)
        rw [List.getElem_set_self, ← hp] at hg1'
        rw [← hp] at H
        repeat' (first | (refine zA ?_; first | refine zB ?_ | refine zC H ?_ | refine zD H ?_ | refine zE H fun _ _ H => ?_ | refine zF H fun _ _ H => ?_ | refine zG H fun _ H => ?_ | refine zH H fun _ H => ?_) | (refine zI ?_; first | refine zJ ?_ | refine zK ?_ | refine zL ?_ | refine zM ?_ | refine zN ?_ | refine zO ?_ | refine zP ?_ | refine zQ ?_ | refine zR ?_) | refine zS ?_)
        (first | refine CW.drawN mo H fun w H => ?_ | refine CW.seqDrawN mo H fun w H => ?_)
        repeat' (first | refine AnyN.take (i := 0) rfl rfl rfl (by decide +kernel) ?_ | refine AnyN.take (i := 1) rfl rfl rfl (by decide +kernel) ?_ | refine AnyN.take (i := 2) rfl rfl rfl (by decide +kernel) ?_ | refine AnyN.take (i := 3) rfl rfl rfl (by decide +kernel) ?_ | refine AnyN.take (i := 4) rfl rfl rfl (by decide +kernel) ?_ | refine AnyN.take (i := 5) rfl rfl rfl (by decide +kernel) ?_ | refine AnyN.take (i := 6) rfl rfl rfl (by decide +kernel) ?_ | refine AnyN.take (i := 7) rfl rfl rfl (by decide +kernel) ?_ | refine AnyN.take (i := 8) rfl rfl rfl (by decide +kernel) ?_ | refine AnyN.take (i := 9) rfl rfl rfl (by decide +kernel) ?_ | refine AnyN.take (i := 10) rfl rfl rfl (by decide +kernel) ?_ | refine AnyN.take (i := 11) rfl rfl rfl (by decide +kernel) ?_ | refine AnyN.take (i := 12) rfl rfl rfl (by decide +kernel) ?_ | refine AnyN.take (i := 13) rfl rfl rfl (by decide +kernel) ?_ | refine AnyN.take (i := 14) rfl rfl rfl (by decide +kernel) ?_ | refine AnyN.take (i := 15) rfl rfl rfl (by decide +kernel) ?_ | refine AnyN.take (i := 16) rfl rfl rfl (by decide +kernel) ?_ | refine AnyN.take (i := 17) rfl rfl rfl (by decide +kernel) ?_ | refine AnyN.take (i := 18) rfl rfl rfl (by decide +kernel) ?_ | refine AnyN.take (i := 19) rfl rfl rfl (by decide +kernel) ?_ | refine AnyN.take (i := 20) rfl rfl rfl (by decide +kernel) ?_ | refine AnyN.take (i := 21) rfl rfl rfl (by decide +kernel) ?_ | refine AnyN.take (i := 22) rfl rfl rfl (by decide +kernel) ?_ | refine AnyN.take (i := 23) rfl rfl rfl (by decide +kernel) ?_ | refine AnyN.take (i := 24) rfl rfl rfl (by decide +kernel) ?_ | refine AnyN.take (i := 25) rfl rfl rfl (by decide +kernel) ?_ | refine AnyN.take (i := 26) rfl rfl rfl (by decide +kernel) ?_ | refine AnyN.take (i := 27) rfl rfl rfl (by decide +kernel) ?_)
        repeat' (first | exact AllI.nil' rfl | refine AllI.cons' rfl rfl ?_ ?_ | refine AnyN.step rfl rfl ?_ | refine OpsW.ld H p0 rfl rfl rfl rfl hg1' rfl ?_ | (first | (refine zA ?_; first | refine zB ?_ | refine zC H ?_ | refine zD H ?_ | refine zE H fun _ _ H => ?_ | refine zF H fun _ _ H => ?_ | refine zG H fun _ H => ?_ | refine zH H fun _ H => ?_) | (refine zI ?_; first | refine zJ ?_ | refine zK ?_ | refine zL ?_ | refine zM ?_ | refine zN ?_ | refine zO ?_ | refine zP ?_ | refine zQ ?_ | refine zR ?_) | refine zS ?_))
        all_goals
          refine AnyN.done rfl ?_
          repeat' (first | (refine zA ?_; first | refine zB ?_ | refine zC H ?_ | refine zD H ?_ | refine zE H fun _ _ H => ?_ | refine zF H fun _ _ H => ?_ | refine zG H fun _ H => ?_ | refine zH H fun _ H => ?_) | (refine zI ?_; first | refine zJ ?_ | refine zK ?_ | refine zL ?_ | refine zM ?_ | refine zN ?_ | refine zO ?_ | refine zP ?_ | refine zQ ?_ | refine zR ?_) | refine zS ?_)
          refine ret3 rfl rfl rfl ?_
          have e : l.findIdx? Pl.free = some i := by
            rw [List.findIdx?_eq_some_iff_getElem]
            exact ⟨hi', by rw [hfree]; rfl, fun j hj => by rw [hne j (by omega) hj]; simp⟩
          rw [e]
          dsimp only
          rw [hd, ← hp]
          exact ⟨rfl, arena_close (H.perm (.swap _ _ _)) (by simp) hc⟩
      · repeat' (first | (refine zA ?_; first | refine zB ?_ | refine zC H ?_ | refine zD H ?_ | refine zE H fun _ _ H => ?_ | refine zF H fun _ _ H => ?_ | refine zG H fun _ H => ?_ | refine zH H fun _ H => ?_) | (refine zI ?_; first | refine zJ ?_ | refine zK ?_ | refine zL ?_ | refine zM ?_ | refine zN ?_ | refine zO ?_ | refine zP ?_ | refine zQ ?_ | refine zR ?_) | refine zS ?_)
        exact ⟨i + 1, (by (repeat (first | (with_reducible exact Agree.refl _ _) | (with_reducible refine Agree.trim (by assumption) ?_) | refine Agree.upd ?_ rfl | exact Agree.mix' | refine Agree.mixL ?_ (fun j h => by simp only [Bool.or_eq_true, Bool.and_eq_true, Nat.beq_eq, Nat.ble_eq] at h ⊢; omega) rfl))), ⟨nat_succ hi' (by omega), trivial⟩, ⟨⟨hi', fun j hj hji => by
          by_cases e : j = i
          · subst e; rw [hfree]; rfl
          · exact hne j hj (by omega)⟩, H⟩, by omega⟩
    · repeat' (first | (refine zA ?_; first | refine zB ?_ | refine zC H ?_ | refine zD H ?_ | refine zE H fun _ _ H => ?_ | refine zF H fun _ _ H => ?_ | refine zG H fun _ H => ?_ | refine zH H fun _ H => ?_) | (refine zI ?_; first | refine zJ ?_ | refine zK ?_ | refine zL ?_ | refine zM ?_ | refine zN ?_ | refine zO ?_ | refine zP ?_ | refine zQ ?_ | refine zR ?_) | refine zS ?_)
      exact ⟨i + 1, (by (repeat (first | (with_reducible exact Agree.refl _ _) | (with_reducible refine Agree.trim (by assumption) ?_) | refine Agree.upd ?_ rfl | exact Agree.mix' | refine Agree.mixL ?_ (fun j h => by simp only [Bool.or_eq_true, Bool.and_eq_true, Nat.beq_eq, Nat.ble_eq] at h ⊢; omega) rfl))), ⟨nat_succ hi' (by omega), trivial⟩, ⟨⟨hi', fun j hj hji => by
          by_cases e : j = i
          · subst e; rw [hfree]; rfl
          · exact hne j hj (by omega)⟩, H⟩, by omega⟩
  · have : i = l.length := by simp at h; omega
    subst this
    repeat' (first | (refine zA ?_; first | refine zB ?_ | refine zC H ?_ | refine zD H ?_ | refine zE H fun _ _ H => ?_ | refine zF H fun _ _ H => ?_ | refine zG H fun _ H => ?_ | refine zH H fun _ H => ?_) | (refine zI ?_; first | refine zJ ?_ | refine zK ?_ | refine zL ?_ | refine zM ?_ | refine zN ?_ | refine zO ?_ | refine zP ?_ | refine zQ ?_ | refine zR ?_) | refine zS ?_)
    (first | refine CW.drawN mo H fun w H => ?_ | refine CW.seqDrawN mo H fun w H => ?_)
    repeat' (first | refine AnyN.take (i := 0) rfl rfl rfl (by decide +kernel) ?_ | refine AnyN.take (i := 1) rfl rfl rfl (by decide +kernel) ?_ | refine AnyN.take (i := 2) rfl rfl rfl (by decide +kernel) ?_ | refine AnyN.take (i := 3) rfl rfl rfl (by decide +kernel) ?_ | refine AnyN.take (i := 4) rfl rfl rfl (by decide +kernel) ?_ | refine AnyN.take (i := 5) rfl rfl rfl (by decide +kernel) ?_ | refine AnyN.take (i := 6) rfl rfl rfl (by decide +kernel) ?_ | refine AnyN.take (i := 7) rfl rfl rfl (by decide +kernel) ?_ | refine AnyN.take (i := 8) rfl rfl rfl (by decide +kernel) ?_ | refine AnyN.take (i := 9) rfl rfl rfl (by decide +kernel) ?_ | refine AnyN.take (i := 10) rfl rfl rfl (by decide +kernel) ?_ | refine AnyN.take (i := 11) rfl rfl rfl (by decide +kernel) ?_ | refine AnyN.take (i := 12) rfl rfl rfl (by decide +kernel) ?_ | refine AnyN.take (i := 13) rfl rfl rfl (by decide +kernel) ?_ | refine AnyN.take (i := 14) rfl rfl rfl (by decide +kernel) ?_ | refine AnyN.take (i := 15) rfl rfl rfl (by decide +kernel) ?_ | refine AnyN.take (i := 16) rfl rfl rfl (by decide +kernel) ?_ | refine AnyN.take (i := 17) rfl rfl rfl (by decide +kernel) ?_ | refine AnyN.take (i := 18) rfl rfl rfl (by decide +kernel) ?_ | refine AnyN.take (i := 19) rfl rfl rfl (by decide +kernel) ?_ | refine AnyN.take (i := 20) rfl rfl rfl (by decide +kernel) ?_ | refine AnyN.take (i := 21) rfl rfl rfl (by decide +kernel) ?_ | refine AnyN.take (i := 22) rfl rfl rfl (by decide +kernel) ?_ | refine AnyN.take (i := 23) rfl rfl rfl (by decide +kernel) ?_ | refine AnyN.take (i := 24) rfl rfl rfl (by decide +kernel) ?_ | refine AnyN.take (i := 25) rfl rfl rfl (by decide +kernel) ?_ | refine AnyN.take (i := 26) rfl rfl rfl (by decide +kernel) ?_ | refine AnyN.take (i := 27) rfl rfl rfl (by decide +kernel) ?_)
    repeat' (first | exact AllI.nil' rfl | refine AllI.cons' rfl rfl ?_ ?_ | refine AnyN.step rfl rfl ?_ | (first | (refine zA ?_; first | refine zB ?_ | refine zC H ?_ | refine zD H ?_ | refine zE H fun _ _ H => ?_ | refine zF H fun _ _ H => ?_ | refine zG H fun _ H => ?_ | refine zH H fun _ H => ?_) | (refine zI ?_; first | refine zJ ?_ | refine zK ?_ | refine zL ?_ | refine zM ?_ | refine zN ?_ | refine zO ?_ | refine zP ?_ | refine zQ ?_ | refine zR ?_) | refine zS ?_) | refine OpsW.ldg H hE.tail.tail rfl rfl rfl rfl rfl ?_)
    all_goals
      refine AnyN.done rfl ?_
      repeat' (first | (refine zA ?_; first | refine zB ?_ | refine zC H ?_ | refine zD H ?_ | refine zE H fun _ _ H => ?_ | refine zF H fun _ _ H => ?_ | refine zG H fun _ H => ?_ | refine zH H fun _ H => ?_) | (refine zI ?_; first | refine zJ ?_ | refine zK ?_ | refine zL ?_ | refine zM ?_ | refine zN ?_ | refine zO ?_ | refine zP ?_ | refine zQ ?_ | refine zR ?_) | refine zS ?_)
      refine ret3 rfl rfl rfl ?_
      have e : l.findIdx? Pl.free = none := by
        rw [List.findIdx?_eq_none_iff]
        intro y hy
        obtain ⟨j, hj, rfl⟩ := List.mem_iff_getElem.1 hy
        exact hne j hj hj
      rw [e]
      exact ⟨rfl, arena_close H rfl hc⟩
theorem arena_give (H : Sat z w (arena ba l :: Rs)) (hl : l.length ≤ 256) (i : Nat) (hi : i < l.length) (ht : l[i].there = true) :
    Spec cf 61 #[.pointer (some ⟨ba, 0, none⟩), .int .i64 i] w fun r w' => r = .nilIface ∧ Sat z w' (arena ba (l.set i l[i].give) :: Rs) := by
  refine enter (l := [.pointer (some ⟨ba, 0, none⟩), .int .i64 i]) Tryd.func61 rfl rfl rfl rfl rfl ?_
  have hn : (decide (0 ≤ (i : Int)) && (l.getD (i : Int).toNat Pl.z).there) = true := by simp [hi, ht]
  repeat' (first | (refine zA ?_; first | refine zB ?_ | (refine OpsW.goCall ?_; first | (refine OpsW.call rfl rfl rfl (arena_there H hl i) ?_; rintro _ w ⟨rfl, H⟩)) | refine zC H ?_ | refine zD H ?_ | refine zE H fun _ _ H => ?_ | refine zF H fun _ _ H => ?_ | refine zG H fun _ H => ?_ | refine zH H fun _ H => ?_) | (refine zI ?_; first | refine zJ ?_ | refine zK ?_ | refine zL ?_ | refine zM ?_ | refine zN ?_ | refine zO ?_ | refine zP ?_ | refine zQ ?_ | refine zR ?_) | refine zS ?_)
  rw [hn]
  obtain ⟨b, cap, rest, hc, H⟩ := arena_open H
  repeat' (first | (refine zA ?_; first | refine zB ?_ | refine zC H ?_ | refine zD H ?_ | refine zE H fun _ _ H => ?_ | refine zF H fun _ _ H => ?_ | refine zG H fun _ H => ?_ | refine zH H fun _ H => ?_) | (refine zI ?_; first | refine zJ ?_ | refine zK ?_ | refine zL ?_ | refine zM ?_ | refine zN ?_ | refine zO ?_ | refine zP ?_ | refine zQ ?_ | refine zR ?_) | refine zS ?_)
  refine OpsW.ix (n := i) rfl rfl rfl rfl rfl rfl rfl hi rfl ?_
  obtain ⟨p, hp⟩ : ∃ p, p = l[i] := ⟨_, rfl⟩
  repeat' (first | (refine zA ?_; first | refine zB ?_ | refine zC H ?_ | refine zD H ?_ | refine zE H fun _ _ H => ?_ | refine zF H fun _ _ H => ?_ | refine zG H fun _ H => ?_ | refine zH H fun _ H => ?_) | (refine zI ?_; first | refine zJ ?_ | refine zK ?_ | refine zL ?_ | refine zM ?_ | refine zN ?_ | refine zO ?_ | refine zP ?_ | refine zQ ?_ | refine zR ?_) | refine zS ?_)
  refine OpsW.str H (pS p0) rfl rfl rfl rfl rfl rfl (by rw [List.length_append, pl_len]; omega) fun w H => ?_
  rw [pl_set l rest i 0 hi (by decide) (.bool false) ⟨false, l[i].ver, l[i].gone⟩ rfl, ← hp] at H
  obtain ⟨t0, v0, g0⟩ := p
  have hi2 : i < (l.set i ⟨false, v0, g0⟩).length := by simpa using hi
  have hg1' := pl_get (l.set i ⟨false, v0, g0⟩) rest i 1 hi2 (by decide)
  rw [List.getElem_set_self] at hg1'
  repeat' (first | (refine zA ?_; first | refine zB ?_ | refine zC H ?_ | refine zD H ?_ | refine zE H fun _ _ H => ?_ | refine zF H fun _ _ H => ?_ | refine zG H fun _ H => ?_ | refine zH H fun _ H => ?_) | (refine zI ?_; first | refine zJ ?_ | refine zK ?_ | refine zL ?_ | refine zM ?_ | refine zN ?_ | refine zO ?_ | refine zP ?_ | refine zQ ?_ | refine zR ?_) | refine zS ?_)
  refine OpsW.ld H p0 rfl rfl rfl rfl hg1' rfl ?_
  repeat' (first | (refine zA ?_; first | refine zB ?_ | refine zC H ?_ | refine zD H ?_ | refine zE H fun _ _ H => ?_ | refine zF H fun _ _ H => ?_ | refine zG H fun _ H => ?_ | refine zH H fun _ H => ?_) | (refine zI ?_; first | refine zJ ?_ | refine zK ?_ | refine zL ?_ | refine zM ?_ | refine zN ?_ | refine zO ?_ | refine zP ?_ | refine zQ ?_ | refine zR ?_) | refine zS ?_)
  refine CW.cond rfl (fun h5 => ?_) (fun h5 => ?_)
  · repeat' (first | (refine zA ?_; first | refine zB ?_ | refine zC H ?_ | refine zD H ?_ | refine zE H fun _ _ H => ?_ | refine zF H fun _ _ H => ?_ | refine zG H fun _ H => ?_ | refine zH H fun _ H => ?_) | (refine zI ?_; first | refine zJ ?_ | refine zK ?_ | refine zL ?_ | refine zM ?_ | refine zN ?_ | refine zO ?_ | refine zP ?_ | refine zQ ?_ | refine zR ?_) | refine zS ?_)
    refine OpsW.str H p0 rfl rfl rfl rfl rfl rfl (by rw [List.length_append, pl_len, List.length_set]; omega) fun w H => ?_
    rw [pl_set _ rest i 2 hi2 (by decide) (.bool true) ⟨false, v0, true⟩ (by rw [List.getElem_set_self]; rfl), List.set_set] at H
    repeat' (first | (refine zA ?_; first | refine zB ?_ | refine zC H ?_ | refine zD H ?_ | refine zE H fun _ _ H => ?_ | refine zF H fun _ _ H => ?_ | refine zG H fun _ H => ?_ | refine zH H fun _ H => ?_) | (refine zI ?_; first | refine zJ ?_ | refine zK ?_ | refine zL ?_ | refine zM ?_ | refine zN ?_ | refine zO ?_ | refine zP ?_ | refine zQ ?_ | refine zR ?_) | refine zS ?_)
    refine ret1 rfl ⟨rfl, ?_⟩
    rw [← hp, Pl.give, if_pos (by simpa using h5)]
    exact arena_close (H.perm (.swap _ _ _)) (by simp) hc
  · repeat' (first | (refine zA ?_; first | refine zB ?_ | refine zC H ?_ | refine zD H ?_ | refine zE H fun _ _ H => ?_ | refine zF H fun _ _ H => ?_ | refine zG H fun _ H => ?_ | refine zH H fun _ H => ?_) | (refine zI ?_; first | refine zJ ?_ | refine zK ?_ | refine zL ?_ | refine zM ?_ | refine zN ?_ | refine zO ?_ | refine zP ?_ | refine zQ ?_ | refine zR ?_) | refine zS ?_)
    refine OpsW.ld H p0 rfl rfl rfl rfl hg1' rfl ?_
    repeat' (first | (refine zA ?_; first | refine zB ?_ | refine zC H ?_ | refine zD H ?_ | refine zE H fun _ _ H => ?_ | refine zF H fun _ _ H => ?_ | refine zG H fun _ H => ?_ | refine zH H fun _ H => ?_) | (refine zI ?_; first | refine zJ ?_ | refine zK ?_ | refine zL ?_ | refine zM ?_ | refine zN ?_ | refine zO ?_ | refine zP ?_ | refine zQ ?_ | refine zR ?_) | refine zS ?_)
    refine OpsW.str H p0 rfl rfl rfl rfl rfl rfl (by rw [List.length_append, pl_len, List.length_set]; omega) fun w H => ?_
    rw [pl_set _ rest i 1 hi2 (by decide) (.int .i64 (IntKind.wrap .i64 (v0 + 1))) ⟨false, IntKind.wrap .i64 (v0 + 1), g0⟩ (by rw [List.getElem_set_self]; rfl), List.set_set] at H
    repeat' (first | (refine zA ?_; first | refine zB ?_ | refine zC H ?_ | refine zD H ?_ | refine zE H fun _ _ H => ?_ | refine zF H fun _ _ H => ?_ | refine zG H fun _ H => ?_ | refine zH H fun _ H => ?_) | (refine zI ?_; first | refine zJ ?_ | refine zK ?_ | refine zL ?_ | refine zM ?_ | refine zN ?_ | refine zO ?_ | refine zP ?_ | refine zQ ?_ | refine zR ?_) | refine zS ?_)
    refine ret1 rfl ⟨rfl, ?_⟩
    rw [← hp, Pl.give, if_neg (by simpa using h5)]
    exact arena_close (H.perm (.swap _ _ _)) (by simp) hc
end
end Go.Proofs.YtbmfpkpcljihgaaDoor.X
