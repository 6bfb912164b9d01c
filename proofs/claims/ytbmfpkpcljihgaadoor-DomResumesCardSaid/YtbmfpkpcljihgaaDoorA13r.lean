/- Contracts of chapter 13 (queue): Pick, Drop, All; conditions: none. -/
import Derived.Test.YtbmfpkpcljihgaaDoorA13p
--AUTODROP
namespace Go.Proofs.YtbmfpkpcljihgaaDoor.X
open Go Go.Proofs
set_option linter.unusedSimpArgs false
set_option linter.unusedVariables false
attribute [local irreducible] CW OpsW RetW Spec blk snap DrawP AnyW AnyM AnyN bits IntKind.wrap vec
section
variable {z w : World} {Rs : List HP} {b : Nat} {l : List Int}
set_option maxRecDepth 20000 in
theorem clone_ {w : World} {As : List HP} {v : Value} (H : Sat z w As) (hv : SlR As v 1 l.length (l.map (.int .i64))) (hl : l.length ≤ 1000000) :
    Spec cf 85 #[v] w fun e w' => ∃ a cap, e = .slice a l.length cap ∧ Sat z w' (ivec a cap l :: As) := by
  obtain ⟨a, cap, rfl⟩ := lenW hv
  refine enter (l := [.slice a l.length cap]) Tryd.func85 rfl rfl rfl rfl rfl ?_
  cases a with
  | none =>
    have h0 : l.length = 0 := by
      obtain ⟨_, a2, cap2, e, _, h3⟩ := hv
      simp only [Value.slice.injEq] at e
      rcases h3 with h3 | ⟨b, off, m, E, fr, rfl, _⟩
      · exact h3
      · cases e.1
    have : l = [] := List.length_eq_zero_iff.1 h0
    subst this
    repeat' (first | (refine zA ?_; first | refine zB ?_ | refine zC H ?_ | refine zD H ?_ | refine zE H fun _ _ H => ?_ | refine zF H fun _ _ H => ?_ | refine zG H fun _ H => ?_ | refine zH H fun _ H => ?_) | (refine zI ?_; first | refine zJ ?_ | refine zK ?_ | refine zL ?_ | refine zM ?_ | refine zN ?_ | refine zO ?_ | refine zP ?_ | refine zQ ?_ | refine zR ?_) | refine zS ?_)
    exact ret1 rfl ⟨none, 0, rfl, Sat.vnil H⟩
  | some a =>
    repeat' (first | (refine zA ?_; first | refine zB ?_ | refine zC H ?_ | refine zD H ?_ | refine zE H fun _ _ H => ?_ | refine zF H fun _ _ H => ?_ | refine zG H fun _ H => ?_ | refine zH H fun _ H => ?_) | (refine zI ?_; first | refine zJ ?_ | refine zK ?_ | refine zL ?_ | refine zM ?_ | refine zN ?_ | refine zO ?_ | refine zP ?_ | refine zQ ?_ | refine zR ?_) | refine zS ?_)
    refine OpsW.bsl H rfl rfl rfl rfl rfl rfl rfl rfl fun bb w H => ?_
    repeat' (first | (refine zA ?_; first | refine zB ?_ | refine zC H ?_ | refine zD H ?_ | refine zE H fun _ _ H => ?_ | refine zF H fun _ _ H => ?_ | refine zG H fun _ H => ?_ | refine zH H fun _ H => ?_) | (refine zI ?_; first | refine zJ ?_ | refine zK ?_ | refine zL ?_ | refine zM ?_ | refine zN ?_ | refine zO ?_ | refine zP ?_ | refine zQ ?_ | refine zR ?_) | refine zS ?_)
    by_cases h0 : l.length = 0
    · have : l = [] := List.length_eq_zero_iff.1 h0
      subst this
      refine OpsW.appIn (c2 := []) (n2 := 0) (sz := 1) H p0 SlR.nil_ rfl (by decide) (by decide) rfl rfl rfl rfl rfl rfl rfl fun w H => ?_
      repeat' (first | (refine zA ?_; first | refine zB ?_ | refine zC H ?_ | refine zD H ?_ | refine zE H fun _ _ H => ?_ | refine zF H fun _ _ H => ?_ | refine zG H fun _ H => ?_ | refine zH H fun _ H => ?_) | (refine zI ?_; first | refine zJ ?_ | refine zK ?_ | refine zL ?_ | refine zM ?_ | refine zN ?_ | refine zO ?_ | refine zP ?_ | refine zQ ?_ | refine zR ?_) | refine zS ?_)
      exact ret1 rfl ⟨_, 0, rfl, H.imp fun h e => vec_blk (rest := []) e rfl rfl (Nat.le_refl _)⟩
    · have H2 := H.imp fun h e => vec_blk (E := 3) (n := 0) (cap := 0) (sz := 1) (c := []) (rest := []) e rfl rfl (Nat.le_refl _)
      refine OpsW.vapp (n2 := l.length) H2 p0 hv (by rw [List.all_eq_true]; intro x hx; obtain ⟨y, _, rfl⟩ := List.mem_map.1 hx; rfl) (by omega) (by omega) rfl rfl rfl rfl rfl rfl rfl rfl rfl fun a2 cap2 w H => ?_
      rw [Nat.zero_add, List.nil_append] at H
      repeat' (first | (refine zA ?_; first | refine zB ?_ | refine zC H ?_ | refine zD H ?_ | refine zE H fun _ _ H => ?_ | refine zF H fun _ _ H => ?_ | refine zG H fun _ H => ?_ | refine zH H fun _ H => ?_) | (refine zI ?_; first | refine zJ ?_ | refine zK ?_ | refine zL ?_ | refine zM ?_ | refine zN ?_ | refine zO ?_ | refine zP ?_ | refine zQ ?_ | refine zR ?_) | refine zS ?_)
      exact ret1 rfl ⟨a2, cap2, by rw [Nat.zero_add], H⟩
set_option maxRecDepth 20000 in
theorem queue_all (H : Sat z w (queue b l :: Rs)) (hl : l.length ≤ 1000000) :
    Spec cf 57 #[.pointer (some ⟨b, 0, none⟩)] w fun e w' => ∃ a cap, e = .slice a l.length cap ∧ Sat z w' (ivec a cap l :: queue b l :: Rs) := by
  refine enter (l := [.pointer (some ⟨b, 0, none⟩)]) Tryd.func57 rfl rfl rfl rfl rfl ?_
  obtain ⟨a, cap, H⟩ := queue_open H
  obtain ⟨T, hT, hS, H⟩ := (H.perm (.swap _ _ _)).vopen
  repeat' (first | (refine zA ?_; first | refine zB ?_ | refine zC H ?_ | refine zD H ?_ | refine zE H fun _ _ H => ?_ | refine zF H fun _ _ H => ?_ | refine zG H fun _ H => ?_ | refine zH H fun _ H => ?_) | (refine zI ?_; first | refine zJ ?_ | refine zK ?_ | refine zL ?_ | refine zM ?_ | refine zN ?_ | refine zO ?_ | refine zP ?_ | refine zQ ?_ | refine zR ?_) | refine zS ?_)
  refine OpsW.call rfl rfl rfl (clone_ H (hS _) hl) ?_
  rintro _ w ⟨a2, cap2, rfl, H⟩
  repeat' (first | (refine zA ?_; first | refine zB ?_ | refine zC H ?_ | refine zD H ?_ | refine zE H fun _ _ H => ?_ | refine zF H fun _ _ H => ?_ | refine zG H fun _ H => ?_ | refine zH H fun _ H => ?_) | (refine zI ?_; first | refine zJ ?_ | refine zK ?_ | refine zL ?_ | refine zM ?_ | refine zN ?_ | refine zO ?_ | refine zP ?_ | refine zQ ?_ | refine zR ?_) | refine zS ?_)
  exact ret1 rfl ⟨_, _, rfl, (queue_close (l := l) (a := a) (cap := cap) (((H.perm (.swap _ _ _)).imp hT).perm (pS (pS p0)))).perm (.swap _ _ _)⟩
set_option maxRecDepth 20000 in
theorem queue_drop (H : Sat z w (queue b l :: Rs)) (x : Int) (hl : l.length ≤ 1000000) :
    Spec cf 58 #[.pointer (some ⟨b, 0, none⟩), .int .i64 x] w fun e w' => e = .bool (l.contains x) ∧ Sat z w' (queue b (l.erase x) :: Rs) := by
  refine enter (l := [.pointer (some ⟨b, 0, none⟩), .int .i64 x]) Tryd.func58 rfl rfl rfl rfl rfl ?_
  obtain ⟨a, cap, H⟩ := queue_open H
  obtain ⟨T, hT, hS, H⟩ := (H.perm (.swap _ _ _)).vopen
  repeat' (first | (refine zA ?_; first | refine zB ?_ | refine zC H ?_ | refine zD H ?_ | refine zE H fun _ _ H => ?_ | refine zF H fun _ _ H => ?_ | refine zG H fun _ H => ?_ | refine zH H fun _ H => ?_) | (refine zI ?_; first | refine zJ ?_ | refine zK ?_ | refine zL ?_ | refine zM ?_ | refine zN ?_ | refine zO ?_ | refine zP ?_ | refine zQ ?_ | refine zR ?_) | refine zS ?_)
  refine OpsW.call rfl rfl rfl (index_ _ _ _ H l _ x (by omega) (hS _)) ?_
  rintro _ w ⟨rfl, H⟩
  replace H := (H.imp hT).perm (.swap _ _ _)
  repeat' (first | (refine zA ?_; first | refine zB ?_ | refine zC H ?_ | refine zD H ?_ | refine zE H fun _ _ H => ?_ | refine zF H fun _ _ H => ?_ | refine zG H fun _ H => ?_ | refine zH H fun _ H => ?_) | (refine zI ?_; first | refine zJ ?_ | refine zK ?_ | refine zL ?_ | refine zM ?_ | refine zN ?_ | refine zO ?_ | refine zP ?_ | refine zQ ?_ | refine zR ?_) | refine zS ?_)
  cases e : l.findIdx? (· == x) with
  | none =>
    have hx : ¬ x ∈ l := fun hx => by
      have := List.findIdx?_eq_none_iff.1 e x hx
      simp at this
    repeat' (first | (refine zA ?_; first | refine zB ?_ | refine zC H ?_ | refine zD H ?_ | refine zE H fun _ _ H => ?_ | refine zF H fun _ _ H => ?_ | refine zG H fun _ H => ?_ | refine zH H fun _ H => ?_) | (refine zI ?_; first | refine zJ ?_ | refine zK ?_ | refine zL ?_ | refine zM ?_ | refine zN ?_ | refine zO ?_ | refine zP ?_ | refine zQ ?_ | refine zR ?_) | refine zS ?_)
    refine ret1 rfl ⟨by simp [hx], ?_⟩
    rw [List.erase_of_not_mem hx]
    exact queue_close H
  | some k =>
    obtain ⟨hk, h1, h2⟩ := List.findIdx?_eq_some_iff_getElem.1 e
    have hx : x ∈ l := by
      have h3 : l[k] = x := by simpa using h1
      rw [← h3]; exact List.getElem_mem hk
    refine CW.cond rfl (fun h => absurd (of_decide_eq_true h) (by show ¬ ((k : Int) < 0); omega)) (fun _ => ?_)
    repeat' (first | (refine zA ?_; first | refine zB ?_ | refine zC H ?_ | refine zD H ?_ | refine zE H fun _ _ H => ?_ | refine zF H fun _ _ H => ?_ | refine zG H fun _ H => ?_ | refine zH H fun _ H => ?_) | (refine zI ?_; first | refine zJ ?_ | refine zK ?_ | refine zL ?_ | refine zM ?_ | refine zN ?_ | refine zO ?_ | refine zP ?_ | refine zQ ?_ | refine zR ?_) | refine zS ?_)
    have hk1 : IntKind.wrap .i64 ((k : Int) + 1) = ((k + 1 : Nat) : Int) := wrap64_id (by omega) (by omega)
    rw [hk1]
    refine OpsW.call rfl rfl rfl (del_ (H.perm (.swap _ _ _)) k hk hl) ?_
    rintro _ w ⟨rfl, H⟩
    repeat' (first | (refine zA ?_; first | refine zB ?_ | refine zC H ?_ | refine zD H ?_ | refine zE H fun _ _ H => ?_ | refine zF H fun _ _ H => ?_ | refine zG H fun _ H => ?_ | refine zH H fun _ H => ?_) | (refine zI ?_; first | refine zJ ?_ | refine zK ?_ | refine zL ?_ | refine zM ?_ | refine zN ?_ | refine zO ?_ | refine zP ?_ | refine zQ ?_ | refine zR ?_) | refine zS ?_)
    refine ret1 rfl ⟨by simp [hx], ?_⟩
    have he : l.erase x = l.eraseIdx k := by
      rw [List.erase_eq_eraseIdx, List.idxOf?]
      rw [e]
    rw [he]
    exact queue_make (n := (l.eraseIdx k).length) H rfl (by rw [List.length_eraseIdx_of_lt hk]) rfl rfl
end
end Go.Proofs.YtbmfpkpcljihgaaDoor.X
