/- Contracts of chapter 13 (queue), the queue as memory of its own; conditions: none. -/
import Derived.Test.YtbmfpkpcljihgaaDoorA13
import Derived.Test.YtbmfpkpcljihgaaDoorGB
--AUTODROP
namespace Go.Proofs.YtbmfpkpcljihgaaDoor.X
open Go Go.Proofs
set_option linter.unusedSimpArgs false
set_option linter.unusedVariables false
attribute [local irreducible] CW OpsW RetW Spec blk snap DrawP AnyW AnyM AnyN bits IntKind.wrap vec
def ivec (a : Option Addr) (cap : Nat) (l : List Int) : HP := vec 3 a l.length cap 1 (l.map (.int .i64))
def queue (b : Nat) (l : List Int) : HP := fun h => ∃ a : Option Addr, ∃ cap : Nat, star (blk b 120 [.slice a l.length cap]) (ivec a cap l) h
section
variable {z w : World} {Rs : List HP} {b : Nat} {l : List Int}
theorem queue_open (H : Sat z w (queue b l :: Rs)) : ∃ a cap, Sat z w (blk b 120 [.slice a l.length cap] :: ivec a cap l :: Rs) := by
  obtain ⟨a, H⟩ := H.ex
  obtain ⟨cap, H⟩ := H.ex
  exact ⟨a, cap, H.split⟩
theorem queue_close {a : Option Addr} {cap : Nat} (H : Sat z w (blk b 120 [.slice a l.length cap] :: ivec a cap l :: Rs)) : Sat z w (queue b l :: Rs) :=
  H.join.imp fun h e => ⟨a, cap, e⟩
theorem queue_make {a : Option Addr} {cap n : Nat} {c : List Value} {E : TypeId} {v : Value} (H : Sat z w (blk b 120 [v] :: vec E a n cap 1 c :: Rs)) (hE : E = 3) (hv : v = .slice a n cap) (hn : n = l.length) (hc : c = l.map (.int .i64)) : Sat z w (queue b l :: Rs) := by
  subst hE hv hn hc; exact queue_close H
theorem queue_new {cap : Nat} {a : Option Addr} (H : Sat z w (blk b 120 [.slice none 0 0] :: Rs)) : Sat z w (queue b [] :: Rs) :=
  queue_close (l := []) (a := none) (cap := 0) ((Sat.vnil (E := 3) (sz := 1) H).perm (.swap _ _ _))
end
section
theorem del_splice {l : List Value} {rest zs : List Value} {k : Nat} (hk : k < l.length) (hz : zs.length = 1) :
    ∃ rest' : List Value, splice (splice (l ++ rest) k (l.drop (k + 1))) (l.length - 1) zs = (l.take k ++ l.drop (k + 1)) ++ rest' ∧ rest'.length = rest.length + 1 := by
  have h1 : splice (l ++ rest) k (l.drop (k + 1)) = l.take k ++ l.drop (k + 1) ++ (l.drop k ++ rest).drop (l.drop (k + 1)).length := by
    have e : l ++ rest = l.take k ++ (l.drop k ++ rest) := by rw [← List.append_assoc, List.take_append_drop]
    have ek : k = (l.take k).length := by simp; omega
    have := splice_app (l.drop (k + 1)) (l.take k) (l.drop k ++ rest) (by simp; omega)
    rw [← ek] at this
    rw [e]; exact this
  have h2 : l.length - 1 = (l.take k ++ l.drop (k + 1)).length := by simp; omega
  have hl : ((l.drop k ++ rest).drop (l.drop (k + 1)).length).length = rest.length + 1 := by simp; omega
  rw [h1, h2]
  generalize (l.drop k ++ rest).drop (l.drop (k + 1)).length = r at *
  rw [splice_app zs _ r (by omega)]
  refine ⟨zs ++ r.drop zs.length, by simp, ?_⟩
  simp; omega
set_option maxRecDepth 20000 in
theorem del_ {z w : World} {Rs : List HP} {a : Option Addr} {cap : Nat} {l : List Int} (H : Sat z w (ivec a cap l :: Rs)) (k : Nat) (hk : k < l.length) (hl : l.length ≤ 1000000) :
    Spec cf 87 #[.slice a l.length cap, .int .i64 k, .int .i64 (k + 1 : Nat)] w fun e w' => e = .slice a (l.length - 1) cap ∧ Sat z w' (ivec a cap (l.eraseIdx k) :: Rs) := by
  refine enter (l := [.slice a l.length cap, .int .i64 k, .int .i64 (k + 1 : Nat)]) Tryd.func87 rfl rfl rfl rfl rfl ?_
  have hcap := H.vlen.2
  rcases H.vcases with ⟨b, rest, ⟨rfl, hc, hr, -⟩, H2⟩ | ⟨⟨rfl, h0, -, -⟩, -⟩
  case inr => omega
  replace H := H2
  clear H2
  repeat' (first | (refine zA ?_; first | refine zB ?_ | refine zC H ?_ | refine zD H ?_ | refine zE H fun _ _ H => ?_ | refine zF H fun _ _ H => ?_ | refine zG H fun _ H => ?_ | refine zH H fun _ H => ?_) | (refine zI ?_; first | refine zJ ?_ | refine zK ?_ | refine zL ?_ | refine zM ?_ | refine zN ?_ | refine zO ?_ | refine zP ?_ | refine zQ ?_ | refine zR ?_) | refine zS ?_)
  refine OpsW.slc3 (k := k) (j := k + 1) (m := l.length) rfl rfl rfl rfl rfl rfl rfl rfl rfl rfl rfl (by omega) (by omega) hcap rfl ?_
  repeat' (first | (refine zA ?_; first | refine zB ?_ | refine zC H ?_ | refine zD H ?_ | refine zE H fun _ _ H => ?_ | refine zF H fun _ _ H => ?_ | refine zG H fun _ H => ?_ | refine zH H fun _ H => ?_) | (refine zI ?_; first | refine zJ ?_ | refine zK ?_ | refine zL ?_ | refine zM ?_ | refine zN ?_ | refine zO ?_ | refine zP ?_ | refine zQ ?_ | refine zR ?_) | refine zS ?_)
  refine CW.cond rfl (fun h => absurd h (by simp; omega)) (fun _ => ?_)
  repeat' (first | (refine zA ?_; first | refine zB ?_ | refine zC H ?_ | refine zD H ?_ | refine zE H fun _ _ H => ?_ | refine zF H fun _ _ H => ?_ | refine zG H fun _ H => ?_ | refine zH H fun _ H => ?_) | (refine zI ?_; first | refine zJ ?_ | refine zK ?_ | refine zL ?_ | refine zM ?_ | refine zN ?_ | refine zO ?_ | refine zP ?_ | refine zQ ?_ | refine zR ?_) | refine zS ?_)
  have hS : SlR (blk b 3 (l.map (.int .i64) ++ rest) :: Rs) (.slice (some ⟨b, 0, none⟩) l.length cap) 1 l.length (l.map (.int .i64)) := SlR.of_blk hc hcap
  have hS2 := hS.from_ (k := k + 1) (by omega)
  (first | refine CW.drawN mo H fun w H => ?_ | refine CW.seqDrawN mo H fun w H => ?_)
  repeat' (first | refine AnyN.take (i := 0) rfl rfl rfl (by decide +kernel) ?_ | refine AnyN.take (i := 1) rfl rfl rfl (by decide +kernel) ?_ | refine AnyN.take (i := 2) rfl rfl rfl (by decide +kernel) ?_ | refine AnyN.take (i := 3) rfl rfl rfl (by decide +kernel) ?_ | refine AnyN.take (i := 4) rfl rfl rfl (by decide +kernel) ?_ | refine AnyN.take (i := 5) rfl rfl rfl (by decide +kernel) ?_ | refine AnyN.take (i := 6) rfl rfl rfl (by decide +kernel) ?_ | refine AnyN.take (i := 7) rfl rfl rfl (by decide +kernel) ?_ | refine AnyN.take (i := 8) rfl rfl rfl (by decide +kernel) ?_ | refine AnyN.take (i := 9) rfl rfl rfl (by decide +kernel) ?_ | refine AnyN.take (i := 10) rfl rfl rfl (by decide +kernel) ?_ | refine AnyN.take (i := 11) rfl rfl rfl (by decide +kernel) ?_ | refine AnyN.take (i := 12) rfl rfl rfl (by decide +kernel) ?_ | refine AnyN.take (i := 13) rfl rfl rfl (by decide +kernel) ?_ | refine AnyN.take (i := 14) rfl rfl rfl (by decide +kernel) ?_ | refine AnyN.take (i := 15) rfl rfl rfl (by decide +kernel) ?_ | refine AnyN.take (i := 16) rfl rfl rfl (by decide +kernel) ?_ | refine AnyN.take (i := 17) rfl rfl rfl (by decide +kernel) ?_ | refine AnyN.take (i := 18) rfl rfl rfl (by decide +kernel) ?_ | refine AnyN.take (i := 19) rfl rfl rfl (by decide +kernel) ?_ | refine AnyN.take (i := 20) rfl rfl rfl (by decide +kernel) ?_ | refine AnyN.take (i := 21) rfl rfl rfl (by decide +kernel) ?_ | refine AnyN.take (i := 22) rfl rfl rfl (by decide +kernel) ?_ | refine AnyN.take (i := 23) rfl rfl rfl (by decide +kernel) ?_ | refine AnyN.take (i := 24) rfl rfl rfl (by decide +kernel) ?_ | refine AnyN.take (i := 25) rfl rfl rfl (by decide +kernel) ?_ | refine AnyN.take (i := 26) rfl rfl rfl (by decide +kernel) ?_ | refine AnyN.take (i := 27) rfl rfl rfl (by decide +kernel) ?_)
  repeat' (first | exact AllI.nil' rfl | refine AllI.cons' rfl rfl ?_ ?_ | refine AnyN.step rfl rfl ?_ | (first | (refine zA ?_; first | refine zB ?_ | refine zC H ?_ | refine zD H ?_ | refine zE H fun _ _ H => ?_ | refine zF H fun _ _ H => ?_ | refine zG H fun _ H => ?_ | refine zH H fun _ H => ?_) | (refine zI ?_; first | refine zJ ?_ | refine zK ?_ | refine zL ?_ | refine zM ?_ | refine zN ?_ | refine zO ?_ | refine zP ?_ | refine zQ ?_ | refine zR ?_) | refine zS ?_) | refine OpsW.slcT (k := k) rfl rfl rfl rfl rfl rfl (by omega) rfl ?_ | refine OpsW.slcF (k := k + 1) rfl rfl rfl rfl rfl rfl rfl (by omega) hcap rfl ?_ | refine OpsW.appIn H p0 hS2 (by rw [List.all_eq_true]; intro x hx; obtain ⟨y, _, rfl⟩ := List.mem_map.1 (List.mem_of_mem_drop hx); rfl) (by omega) (by simp; omega) rfl rfl rfl rfl rfl rfl rfl fun w H => ?_)
  all_goals
    refine AnyN.done rfl ?_
    repeat' (first | (refine zA ?_; first | refine zB ?_ | refine zC H ?_ | refine zD H ?_ | refine zE H fun _ _ H => ?_ | refine zF H fun _ _ H => ?_ | refine zG H fun _ H => ?_ | refine zH H fun _ H => ?_) | (refine zI ?_; first | refine zJ ?_ | refine zK ?_ | refine zL ?_ | refine zM ?_ | refine zN ?_ | refine zO ?_ | refine zP ?_ | refine zQ ?_ | refine zR ?_) | refine zS ?_)
    refine OpsW.slcFT (k := k + (l.length - (k + 1))) (j := l.length) rfl rfl rfl rfl rfl rfl rfl rfl rfl (by omega) hcap rfl ?_
    have hd : (if cap = k + (l.length - (k + 1)) then (some ⟨b, 0, none⟩ : Option Addr) else (some (⟨b, 0, none⟩ : Addr)).map (·.add ((k + (l.length - (k + 1))) * 1))) = some ⟨b, l.length - 1, none⟩ := by
      rw [if_neg (by omega)]
      simp only [Option.map_some, add_off]
      congr 2; omega
    have hkk : k + (l.length - (k + 1)) = l.length - 1 := by omega
    refine OpsW.clr (sz := 1) (off := l.length - 1) (n := l.length - (k + (l.length - (k + 1)))) H p0 (fun _ => ?_) rfl (congrArg (fun a => Value.slice a _ _) hd) rfl rfl rfl rfl rfl fun w zs hz1 hz2 H => ?_
    · rw [splice_length, List.length_append, List.length_map]; omega
    repeat' (first | (refine zA ?_; first | refine zB ?_ | refine zC H ?_ | refine zD H ?_ | refine zE H fun _ _ H => ?_ | refine zF H fun _ _ H => ?_ | refine zG H fun _ H => ?_ | refine zH H fun _ H => ?_) | (refine zI ?_; first | refine zJ ?_ | refine zK ?_ | refine zL ?_ | refine zM ?_ | refine zN ?_ | refine zO ?_ | refine zP ?_ | refine zQ ?_ | refine zR ?_) | refine zS ?_)
    obtain ⟨rest', e1, e2⟩ := del_splice (l := l.map (.int .i64)) (rest := rest) (zs := zs) (k := k) (by simpa using hk) (by rw [hz1]; omega)
    refine ret1 (v := .slice (some ⟨b, 0, none⟩) (k + (l.length - (k + 1))) cap) rfl ⟨by rw [hkk], ?_⟩
    refine Sat.imp H fun h e => ?_
    have el : (l.eraseIdx k).length = l.length - 1 := List.length_eraseIdx_of_lt hk
    unfold ivec
    rw [el, List.eraseIdx_eq_take_drop_succ, List.map_append, List.map_take, List.map_drop]
    refine vec_blk (rest := rest') ?_ ?_ ?_ ?_
    · rw [← e1]
      rw [List.length_map] 
      have e0 : 0 + k * 1 = k := by omega
      have e00 : (k + 1) * 1 = k + 1 := by omega
      rw [e0, e00] at e
      exact e
    · rw [← List.map_take, ← List.map_drop, ← List.map_append, ← List.eraseIdx_eq_take_drop_succ, List.length_map, el]; omega
    · rw [e2, hr]; omega
    · omega
end
end Go.Proofs.YtbmfpkpcljihgaaDoor.X
