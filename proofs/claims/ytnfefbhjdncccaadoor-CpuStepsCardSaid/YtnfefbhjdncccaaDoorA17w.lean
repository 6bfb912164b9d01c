/- The document's system, as a store, part 3: what is there, and words; conditions: none. -/
import Derived.Test.YtnfefbhjdncccaaDoorA8z
import Derived.Test.YtnfefbhjdncccaaDoorA11
namespace Go.Proofs.YtnfefbhjdncccaaDoor.X
open Go Go.Proofs
set_option linter.unusedSimpArgs false
set_option linter.unusedVariables false
attribute [local irreducible] CW OpsW RetW Spec blk snap DrawP AnyW AnyM AnyN bits IntKind.wrap vec arena kds nds wds pgs eA nodesP pagesP
section
variable {z w : World} {As : List HP} {bx : Nat} {s : St} {p : SyV}
theorem in8_ {b n cap : Nat} {f : Nat → Pl} {r : List Value} (H : Sat z w (slo8 b n r f :: As)) (id ver : Int) : Spec cf 128 #[.slice (some ⟨b, 0, none⟩) n cap, .int .i64 id, .int .i64 ver] w fun e w' => e = .bool (liveAt n f id ver) ∧ Sat z w' (slo8 b n r f :: As) := by
  refine enter (l := [.slice (some ⟨b, 0, none⟩) n cap, .int .i64 id, .int .i64 ver]) Tryd.func128 rfl rfl rfl rfl rfl ?_
  repeat' (first | (refine zA ?_; first | refine zB ?_ | refine zC H ?_ | refine zD H ?_ | refine zE H fun _ _ H => ?_ | refine zF H fun _ _ H => ?_ | refine zG H fun _ H => ?_ | refine zH H fun _ H => ?_) | (refine zI ?_; first | refine zJ ?_ | refine zK ?_ | refine zL ?_ | refine zM ?_ | refine zN ?_ | refine zO ?_ | refine zP ?_ | refine zQ ?_ | refine zR ?_) | refine zS ?_)
  refine OpsW.gs rfl rfl rfl (fun h0 => ?_) (fun h0 => ?_)
  · repeat' (first | (refine zA ?_; first | refine zB ?_ | refine zC H ?_ | refine zD H ?_ | refine zE H fun _ _ H => ?_ | refine zF H fun _ _ H => ?_ | refine zG H fun _ H => ?_ | refine zH H fun _ H => ?_) | (refine zI ?_; first | refine zJ ?_ | refine zK ?_ | refine zL ?_ | refine zM ?_ | refine zN ?_ | refine zO ?_ | refine zP ?_ | refine zQ ?_ | refine zR ?_) | refine zS ?_)
    have h0' : 0 ≤ id := of_decide_eq_true h0
    refine OpsW.gs rfl rfl rfl (fun h1 => ?_) (fun h1 => ?_)
    · have hin : id < n := of_decide_eq_true h1
      obtain ⟨i, rfl⟩ := Int.eq_ofNat_of_zero_le h0'
      have hi : i < n := by omega
      have hg0 : ((mk n f).flatMap sl8 ++ r)[0 + i * 4 + 0]? = some (.bool (f i).there) := sl8_get (f := f) (r := r) 0 hi (by decide)
      have hg2 : ((mk n f).flatMap sl8 ++ r)[0 + i * 4 + 2]? = some (.int .i64 (f i).ver) := sl8_get (f := f) (r := r) 2 hi (by decide)
      unfold slo8 at H
      have e : liveAt n f (i : Int) ver = ((f i).there && (f i).ver == ver) := by
        unfold liveAt onN
        simp [hi]
      rw [e]
      repeat' (first | (refine zA ?_; first | refine zB ?_ | refine zC H ?_ | refine zD H ?_ | refine zE H fun _ _ H => ?_ | refine zF H fun _ _ H => ?_ | refine zG H fun _ H => ?_ | refine zH H fun _ H => ?_) | (refine zI ?_; first | refine zJ ?_ | refine zK ?_ | refine zL ?_ | refine zM ?_ | refine zN ?_ | refine zO ?_ | refine zP ?_ | refine zQ ?_ | refine zR ?_) | refine zS ?_)
      refine OpsW.ix (n := i) rfl rfl rfl rfl rfl rfl rfl hi rfl ?_
      repeat' (first | (refine zA ?_; first | refine zB ?_ | refine zC H ?_ | refine zD H ?_ | refine zE H fun _ _ H => ?_ | refine zF H fun _ _ H => ?_ | refine zG H fun _ H => ?_ | refine zH H fun _ H => ?_) | (refine zI ?_; first | refine zJ ?_ | refine zK ?_ | refine zL ?_ | refine zM ?_ | refine zN ?_ | refine zO ?_ | refine zP ?_ | refine zQ ?_ | refine zR ?_) | refine zS ?_)
      refine OpsW.ld H p0 rfl rfl rfl rfl hg0 rfl ?_
      cases ht : (f i).there
      · repeat' (first | (refine zA ?_; first | refine zB ?_ | refine zC H ?_ | refine zD H ?_ | refine zE H fun _ _ H => ?_ | refine zF H fun _ _ H => ?_ | refine zG H fun _ H => ?_ | refine zH H fun _ H => ?_) | (refine zI ?_; first | refine zJ ?_ | refine zK ?_ | refine zL ?_ | refine zM ?_ | refine zN ?_ | refine zO ?_ | refine zP ?_ | refine zQ ?_ | refine zR ?_) | refine zS ?_)
        exact ret1 rfl ⟨rfl, by unfold slo8; exact H⟩
      · repeat' (first | (refine zA ?_; first | refine zB ?_ | refine zC H ?_ | refine zD H ?_ | refine zE H fun _ _ H => ?_ | refine zF H fun _ _ H => ?_ | refine zG H fun _ H => ?_ | refine zH H fun _ H => ?_) | (refine zI ?_; first | refine zJ ?_ | refine zK ?_ | refine zL ?_ | refine zM ?_ | refine zN ?_ | refine zO ?_ | refine zP ?_ | refine zQ ?_ | refine zR ?_) | refine zS ?_)
        refine OpsW.ix (n := i) rfl rfl rfl rfl rfl rfl rfl hi rfl ?_
        repeat' (first | (refine zA ?_; first | refine zB ?_ | refine zC H ?_ | refine zD H ?_ | refine zE H fun _ _ H => ?_ | refine zF H fun _ _ H => ?_ | refine zG H fun _ H => ?_ | refine zH H fun _ H => ?_) | (refine zI ?_; first | refine zJ ?_ | refine zK ?_ | refine zL ?_ | refine zM ?_ | refine zN ?_ | refine zO ?_ | refine zP ?_ | refine zQ ?_ | refine zR ?_) | refine zS ?_)
        refine OpsW.ld H p0 rfl rfl rfl rfl hg2 rfl ?_
        repeat' (first | (refine zA ?_; first | refine zB ?_ | refine zC H ?_ | refine zD H ?_ | refine zE H fun _ _ H => ?_ | refine zF H fun _ _ H => ?_ | refine zG H fun _ H => ?_ | refine zH H fun _ H => ?_) | (refine zI ?_; first | refine zJ ?_ | refine zK ?_ | refine zL ?_ | refine zM ?_ | refine zN ?_ | refine zO ?_ | refine zP ?_ | refine zQ ?_ | refine zR ?_) | refine zS ?_)
        exact ret1 rfl ⟨rfl, by unfold slo8; exact H⟩
    · have hin : ¬ id < n := of_decide_eq_false h1
      repeat' (first | (refine zA ?_; first | refine zB ?_ | refine zC H ?_ | refine zD H ?_ | refine zE H fun _ _ H => ?_ | refine zF H fun _ _ H => ?_ | refine zG H fun _ H => ?_ | refine zH H fun _ H => ?_) | (refine zI ?_; first | refine zJ ?_ | refine zK ?_ | refine zL ?_ | refine zM ?_ | refine zN ?_ | refine zO ?_ | refine zP ?_ | refine zQ ?_ | refine zR ?_) | refine zS ?_)
      refine ret1 rfl ⟨?_, H⟩
      unfold liveAt onN
      simp [hin]
  · repeat' (first | (refine zA ?_; first | refine zB ?_ | refine zC H ?_ | refine zD H ?_ | refine zE H fun _ _ H => ?_ | refine zF H fun _ _ H => ?_ | refine zG H fun _ H => ?_ | refine zH H fun _ H => ?_) | (refine zI ?_; first | refine zJ ?_ | refine zK ?_ | refine zL ?_ | refine zM ?_ | refine zN ?_ | refine zO ?_ | refine zP ?_ | refine zQ ?_ | refine zR ?_) | refine zS ?_)
    refine ret1 rfl ⟨?_, H⟩
    have h0' : ¬ 0 ≤ id := of_decide_eq_false h0
    unfold liveAt onN
    simp [h0']
theorem sy_live (H : Sat z w (syP bx s :: As)) (k : K) (hk : k.kind = 2 ∨ k.kind = 3) : Spec cf 104 #[.pointer (some ⟨bx, 0, none⟩), k.v] w fun e w' => e = .bool (s.live k) ∧ Sat z w' (syP bx s :: As) := by
  obtain ⟨p, H2⟩ := sy_open H
  replace H := H2
  clear H2
  obtain ⟨kd, id, ver, rt, dt⟩ := k
  refine enter (l := [.pointer (some ⟨bx, 0, none⟩), K.v ⟨kd, id, ver, rt, dt⟩]) Tryd.func104 rfl rfl rfl rfl rfl ?_
  replace hk : kd = 2 ∨ kd = 3 := hk
  rcases hk with rfl | rfl
  · have e : s.live ⟨2, id, ver, rt, dt⟩ = liveAt s.N s.f id ver := rfl
    rw [e]
    repeat' (first | (refine zA ?_; first | refine zB ?_ | refine zC H ?_ | refine zD H ?_ | refine zE H fun _ _ H => ?_ | refine zF H fun _ _ H => ?_ | refine zG H fun _ H => ?_ | refine zH H fun _ H => ?_) | (refine zI ?_; first | refine zJ ?_ | refine zK ?_ | refine zL ?_ | refine zM ?_ | refine zN ?_ | refine zO ?_ | refine zP ?_ | refine zQ ?_ | refine zR ?_) | refine zS ?_)
    (first | refine CW.seqDraw mo H [0, 1, 3, 7, 0, 16, 0, 64, 255, 511] fun w H => ?_ | refine CW.draw mo H [0, 1, 3, 7, 0, 16, 0, 64, 255, 511] fun w H => ?_); refine AnyW.seg (m := 10) (by kernel_rfl) (by kernel_rfl) H rfl ?_
    refine .cons rfl (fun τ w H => .st rfl (.nil ⟨rfl, H⟩)) ?_
    refine .cons rfl (fun τ w H => .st rfl (.nil ⟨rfl, H⟩)) ?_
    refine .cons rfl (fun τ w H => .st rfl (.nil ⟨rfl, H⟩)) ?_
    refine .cons rfl (fun τ w H => .ld H p1 rfl rfl rfl rfl (by rfl) rfl (.nil ⟨rfl, H⟩)) ?_
    refine .cons rfl (fun τ w H => .st rfl (.nil ⟨rfl, H⟩)) ?_
    refine .cons rfl (fun τ w H => .ld H p0 rfl rfl rfl rfl (by rfl) rfl (.nil ⟨rfl, H⟩)) ?_
    refine .cons rfl (fun τ w H => .st rfl (.nil ⟨rfl, H⟩)) ?_
    refine .cons rfl (fun τ w H => .ld H p0 rfl rfl rfl rfl (by rfl) rfl (.nil ⟨rfl, H⟩)) ?_
    refine .cons rfl (fun τ w H => .call rfl rfl rfl (via H (by exact p3) fun H => in8_ H id ver) fun _ w h => by obtain ⟨rfl, H⟩ := h; exact .nil ⟨rfl, H⟩) ?_
    refine .cons rfl (fun τ w H => .st rfl (.nil ⟨rfl, H⟩)) ?_
    refine DrawP.nil fun w H => ?_
    refine AnyW.done ?_
    repeat' (first | (refine zA ?_; first | refine zB ?_ | refine zC H ?_ | refine zD H ?_ | refine zE H fun _ _ H => ?_ | refine zF H fun _ _ H => ?_ | refine zG H fun _ H => ?_ | refine zH H fun _ H => ?_) | (refine zI ?_; first | refine zJ ?_ | refine zK ?_ | refine zL ?_ | refine zM ?_ | refine zN ?_ | refine zO ?_ | refine zP ?_ | refine zQ ?_ | refine zR ?_) | refine zS ?_)
    exact ret1 rfl ⟨rfl, sy_close (p := p) H.drop⟩
  · have e : s.live ⟨3, id, ver, rt, dt⟩ = liveAt s.M s.g id ver := rfl
    rw [e]
    repeat' (first | (refine zA ?_; first | refine zB ?_ | refine zC H ?_ | refine zD H ?_ | refine zE H fun _ _ H => ?_ | refine zF H fun _ _ H => ?_ | refine zG H fun _ H => ?_ | refine zH H fun _ H => ?_) | (refine zI ?_; first | refine zJ ?_ | refine zK ?_ | refine zL ?_ | refine zM ?_ | refine zN ?_ | refine zO ?_ | refine zP ?_ | refine zQ ?_ | refine zR ?_) | refine zS ?_)
    (first | refine CW.seqDraw mo H [0, 1, 3, 7, 0, 16, 0, 64, 255, 511] fun w H => ?_ | refine CW.draw mo H [0, 1, 3, 7, 0, 16, 0, 64, 255, 511] fun w H => ?_); refine AnyW.seg (m := 10) (by kernel_rfl) (by kernel_rfl) H rfl ?_
    refine .cons rfl (fun τ w H => .st rfl (.nil ⟨rfl, H⟩)) ?_
    refine .cons rfl (fun τ w H => .st rfl (.nil ⟨rfl, H⟩)) ?_
    refine .cons rfl (fun τ w H => .st rfl (.nil ⟨rfl, H⟩)) ?_
    refine .cons rfl (fun τ w H => .ld H p1 rfl rfl rfl rfl (by rfl) rfl (.nil ⟨rfl, H⟩)) ?_
    refine .cons rfl (fun τ w H => .st rfl (.nil ⟨rfl, H⟩)) ?_
    refine .cons rfl (fun τ w H => .ld H p0 rfl rfl rfl rfl (by rfl) rfl (.nil ⟨rfl, H⟩)) ?_
    refine .cons rfl (fun τ w H => .st rfl (.nil ⟨rfl, H⟩)) ?_
    refine .cons rfl (fun τ w H => .ld H p0 rfl rfl rfl rfl (by rfl) rfl (.nil ⟨rfl, H⟩)) ?_
    refine .cons rfl (fun τ w H => .call rfl rfl rfl (via H (by exact p2) fun H => in8_ H id ver) fun _ w h => by obtain ⟨rfl, H⟩ := h; exact .nil ⟨rfl, H⟩) ?_
    refine .cons rfl (fun τ w H => .st rfl (.nil ⟨rfl, H⟩)) ?_
    refine DrawP.nil fun w H => ?_
    refine AnyW.done ?_
    repeat' (first | (refine zA ?_; first | refine zB ?_ | refine zC H ?_ | refine zD H ?_ | refine zE H fun _ _ H => ?_ | refine zF H fun _ _ H => ?_ | refine zG H fun _ H => ?_ | refine zH H fun _ H => ?_) | (refine zI ?_; first | refine zJ ?_ | refine zK ?_ | refine zL ?_ | refine zM ?_ | refine zN ?_ | refine zO ?_ | refine zP ?_ | refine zQ ?_ | refine zR ?_) | refine zS ?_)
    exact ret1 rfl ⟨rfl, sy_close (p := p) H.drop⟩
theorem size8_ (H : Sat z w As) (k : K) (hd : 0 ≤ k.data) : Spec cf 134 #[k.v] w fun e w' => e = .tuple #[.int .u32 (if k.mem = true then psz k.hgt else 0), .bool k.mem] ∧ Sat z w' As := by
  obtain ⟨kd, id, ver, rt, dt⟩ := k
  refine enter (l := [K.v ⟨kd, id, ver, rt, dt⟩]) Tryd.func134 rfl rfl rfl rfl rfl ?_
  repeat' (first | (refine zA ?_; first | refine zB ?_ | refine zC H ?_ | refine zD H ?_ | refine zE H fun _ _ H => ?_ | refine zF H fun _ _ H => ?_ | refine zG H fun _ H => ?_ | refine zH H fun _ H => ?_) | (refine zI ?_; first | refine zJ ?_ | refine zK ?_ | refine zL ?_ | refine zM ?_ | refine zN ?_ | refine zO ?_ | refine zP ?_ | refine zQ ?_ | refine zR ?_) | refine zS ?_)
  by_cases h3 : kd = 3
  · subst h3
    repeat' (first | (refine zA ?_; first | refine zB ?_ | refine zC H ?_ | refine zD H ?_ | refine zE H fun _ _ H => ?_ | refine zF H fun _ _ H => ?_ | refine zG H fun _ H => ?_ | refine zH H fun _ H => ?_) | (refine zI ?_; first | refine zJ ?_ | refine zK ?_ | refine zL ?_ | refine zM ?_ | refine zN ?_ | refine zO ?_ | refine zP ?_ | refine zQ ?_ | refine zR ?_) | refine zS ?_)
    exact ret2 rfl rfl ⟨rfl, H.drop⟩
  refine CW.cond rfl (fun h => absurd h (by simp [h3])) (fun _ => ?_)
  repeat' (first | (refine zA ?_; first | refine zB ?_ | refine zC H ?_ | refine zD H ?_ | refine zE H fun _ _ H => ?_ | refine zF H fun _ _ H => ?_ | refine zG H fun _ H => ?_ | refine zH H fun _ H => ?_) | (refine zI ?_; first | refine zJ ?_ | refine zK ?_ | refine zL ?_ | refine zM ?_ | refine zN ?_ | refine zO ?_ | refine zP ?_ | refine zQ ?_ | refine zR ?_) | refine zS ?_)
  by_cases h2 : kd = 2
  case neg =>
    have e : K.mem ⟨kd, id, ver, rt, dt⟩ = false := by simp [K.mem, h2, h3]
    rw [e]
    refine OpsW.gs rfl rfl rfl (fun h => ?_) (fun h => absurd h (by simp [h2]))
    repeat' (first | (refine zA ?_; first | refine zB ?_ | refine zC H ?_ | refine zD H ?_ | refine zE H fun _ _ H => ?_ | refine zF H fun _ _ H => ?_ | refine zG H fun _ H => ?_ | refine zH H fun _ H => ?_) | (refine zI ?_; first | refine zJ ?_ | refine zK ?_ | refine zL ?_ | refine zM ?_ | refine zN ?_ | refine zO ?_ | refine zP ?_ | refine zQ ?_ | refine zR ?_) | refine zS ?_)
    exact ret2 rfl rfl ⟨rfl, H.drop⟩
  subst h2
  have e : K.mem ⟨2, id, ver, rt, dt⟩ = (decide (dt ≥ 1) && decide (dt ≤ 4)) := rfl
  rw [e]
  have hc : dt < 1 ∨ dt = 1 ∨ dt = 2 ∨ dt = 3 ∨ dt = 4 ∨ 4 < dt := by omega
  rcases hc with h | rfl | rfl | rfl | rfl | h
  · repeat' (first | (refine zA ?_; first | refine zB ?_ | refine zC H ?_ | refine zD H ?_ | refine zE H fun _ _ H => ?_ | refine zF H fun _ _ H => ?_ | refine zG H fun _ H => ?_ | refine zH H fun _ H => ?_) | (refine zI ?_; first | refine zJ ?_ | refine zK ?_ | refine zL ?_ | refine zM ?_ | refine zN ?_ | refine zO ?_ | refine zP ?_ | refine zQ ?_ | refine zR ?_) | refine zS ?_)
    refine OpsW.gs rfl rfl rfl (fun _ => ?_) (fun h' => absurd h' (by simp [h]))
    rw [decide_eq_false (show ¬ dt ≥ 1 by omega)]
    repeat' (first | (refine zA ?_; first | refine zB ?_ | refine zC H ?_ | refine zD H ?_ | refine zE H fun _ _ H => ?_ | refine zF H fun _ _ H => ?_ | refine zG H fun _ H => ?_ | refine zH H fun _ H => ?_) | (refine zI ?_; first | refine zJ ?_ | refine zK ?_ | refine zL ?_ | refine zM ?_ | refine zN ?_ | refine zO ?_ | refine zP ?_ | refine zQ ?_ | refine zR ?_) | refine zS ?_)
    exact ret2 rfl rfl ⟨rfl, H.drop⟩
  · repeat' (first | (refine zA ?_; first | refine zB ?_ | refine zC H ?_ | refine zD H ?_ | refine zE H fun _ _ H => ?_ | refine zF H fun _ _ H => ?_ | refine zG H fun _ H => ?_ | refine zH H fun _ H => ?_) | (refine zI ?_; first | refine zJ ?_ | refine zK ?_ | refine zL ?_ | refine zM ?_ | refine zN ?_ | refine zO ?_ | refine zP ?_ | refine zQ ?_ | refine zR ?_) | refine zS ?_)
    refine CW.unroll 6 (Un.go ?_)
    repeat' (first | (refine zA ?_; first | refine zB ?_ | refine zC H ?_ | refine zD H ?_ | refine zE H fun _ _ H => ?_ | refine zF H fun _ _ H => ?_ | refine zG H fun _ H => ?_ | refine zH H fun _ H => ?_) | (refine zI ?_; first | refine zJ ?_ | refine zK ?_ | refine zL ?_ | refine zM ?_ | refine zN ?_ | refine zO ?_ | refine zP ?_ | refine zQ ?_ | refine zR ?_) | refine zS ?_)
    rw [show IntKind.wrap .u32 (16 * 32) = 512 by decide +kernel, show IntKind.wrap .u32 (0 + 1) = 1 by decide +kernel]
    repeat' (first | (refine zA ?_; first | refine zB ?_ | refine zC H ?_ | refine zD H ?_ | refine zE H fun _ _ H => ?_ | refine zF H fun _ _ H => ?_ | refine zG H fun _ H => ?_ | refine zH H fun _ H => ?_) | (refine zI ?_; first | refine zJ ?_ | refine zK ?_ | refine zL ?_ | refine zM ?_ | refine zN ?_ | refine zO ?_ | refine zP ?_ | refine zQ ?_ | refine zR ?_) | refine zS ?_)
    exact ret2 rfl rfl ⟨rfl, H.drop⟩
  · repeat' (first | (refine zA ?_; first | refine zB ?_ | refine zC H ?_ | refine zD H ?_ | refine zE H fun _ _ H => ?_ | refine zF H fun _ _ H => ?_ | refine zG H fun _ H => ?_ | refine zH H fun _ H => ?_) | (refine zI ?_; first | refine zJ ?_ | refine zK ?_ | refine zL ?_ | refine zM ?_ | refine zN ?_ | refine zO ?_ | refine zP ?_ | refine zQ ?_ | refine zR ?_) | refine zS ?_)
    refine CW.unroll 6 (Un.go ?_)
    repeat' (first | (refine zA ?_; first | refine zB ?_ | refine zC H ?_ | refine zD H ?_ | refine zE H fun _ _ H => ?_ | refine zF H fun _ _ H => ?_ | refine zG H fun _ H => ?_ | refine zH H fun _ H => ?_) | (refine zI ?_; first | refine zJ ?_ | refine zK ?_ | refine zL ?_ | refine zM ?_ | refine zN ?_ | refine zO ?_ | refine zP ?_ | refine zQ ?_ | refine zR ?_) | refine zS ?_)
    rw [show IntKind.wrap .u32 (16 * 32) = 512 by decide +kernel, show IntKind.wrap .u32 (0 + 1) = 1 by decide +kernel]
    repeat' (first | (refine zA ?_; first | refine zB ?_ | refine zC H ?_ | refine zD H ?_ | refine zE H fun _ _ H => ?_ | refine zF H fun _ _ H => ?_ | refine zG H fun _ H => ?_ | refine zH H fun _ H => ?_) | (refine zI ?_; first | refine zJ ?_ | refine zK ?_ | refine zL ?_ | refine zM ?_ | refine zN ?_ | refine zO ?_ | refine zP ?_ | refine zQ ?_ | refine zR ?_) | refine zS ?_)
    rw [show IntKind.wrap .u32 (16 * 512) = 8192 by decide +kernel, show IntKind.wrap .u32 (1 + 1) = 2 by decide +kernel]
    repeat' (first | (refine zA ?_; first | refine zB ?_ | refine zC H ?_ | refine zD H ?_ | refine zE H fun _ _ H => ?_ | refine zF H fun _ _ H => ?_ | refine zG H fun _ H => ?_ | refine zH H fun _ H => ?_) | (refine zI ?_; first | refine zJ ?_ | refine zK ?_ | refine zL ?_ | refine zM ?_ | refine zN ?_ | refine zO ?_ | refine zP ?_ | refine zQ ?_ | refine zR ?_) | refine zS ?_)
    exact ret2 rfl rfl ⟨rfl, H.drop⟩
  · repeat' (first | (refine zA ?_; first | refine zB ?_ | refine zC H ?_ | refine zD H ?_ | refine zE H fun _ _ H => ?_ | refine zF H fun _ _ H => ?_ | refine zG H fun _ H => ?_ | refine zH H fun _ H => ?_) | (refine zI ?_; first | refine zJ ?_ | refine zK ?_ | refine zL ?_ | refine zM ?_ | refine zN ?_ | refine zO ?_ | refine zP ?_ | refine zQ ?_ | refine zR ?_) | refine zS ?_)
    refine CW.unroll 6 (Un.go ?_)
    repeat' (first | (refine zA ?_; first | refine zB ?_ | refine zC H ?_ | refine zD H ?_ | refine zE H fun _ _ H => ?_ | refine zF H fun _ _ H => ?_ | refine zG H fun _ H => ?_ | refine zH H fun _ H => ?_) | (refine zI ?_; first | refine zJ ?_ | refine zK ?_ | refine zL ?_ | refine zM ?_ | refine zN ?_ | refine zO ?_ | refine zP ?_ | refine zQ ?_ | refine zR ?_) | refine zS ?_)
    rw [show IntKind.wrap .u32 (16 * 32) = 512 by decide +kernel, show IntKind.wrap .u32 (0 + 1) = 1 by decide +kernel]
    repeat' (first | (refine zA ?_; first | refine zB ?_ | refine zC H ?_ | refine zD H ?_ | refine zE H fun _ _ H => ?_ | refine zF H fun _ _ H => ?_ | refine zG H fun _ H => ?_ | refine zH H fun _ H => ?_) | (refine zI ?_; first | refine zJ ?_ | refine zK ?_ | refine zL ?_ | refine zM ?_ | refine zN ?_ | refine zO ?_ | refine zP ?_ | refine zQ ?_ | refine zR ?_) | refine zS ?_)
    rw [show IntKind.wrap .u32 (16 * 512) = 8192 by decide +kernel, show IntKind.wrap .u32 (1 + 1) = 2 by decide +kernel]
    repeat' (first | (refine zA ?_; first | refine zB ?_ | refine zC H ?_ | refine zD H ?_ | refine zE H fun _ _ H => ?_ | refine zF H fun _ _ H => ?_ | refine zG H fun _ H => ?_ | refine zH H fun _ H => ?_) | (refine zI ?_; first | refine zJ ?_ | refine zK ?_ | refine zL ?_ | refine zM ?_ | refine zN ?_ | refine zO ?_ | refine zP ?_ | refine zQ ?_ | refine zR ?_) | refine zS ?_)
    rw [show IntKind.wrap .u32 (16 * 8192) = 131072 by decide +kernel, show IntKind.wrap .u32 (2 + 1) = 3 by decide +kernel]
    repeat' (first | (refine zA ?_; first | refine zB ?_ | refine zC H ?_ | refine zD H ?_ | refine zE H fun _ _ H => ?_ | refine zF H fun _ _ H => ?_ | refine zG H fun _ H => ?_ | refine zH H fun _ H => ?_) | (refine zI ?_; first | refine zJ ?_ | refine zK ?_ | refine zL ?_ | refine zM ?_ | refine zN ?_ | refine zO ?_ | refine zP ?_ | refine zQ ?_ | refine zR ?_) | refine zS ?_)
    exact ret2 rfl rfl ⟨rfl, H.drop⟩
  · repeat' (first | (refine zA ?_; first | refine zB ?_ | refine zC H ?_ | refine zD H ?_ | refine zE H fun _ _ H => ?_ | refine zF H fun _ _ H => ?_ | refine zG H fun _ H => ?_ | refine zH H fun _ H => ?_) | (refine zI ?_; first | refine zJ ?_ | refine zK ?_ | refine zL ?_ | refine zM ?_ | refine zN ?_ | refine zO ?_ | refine zP ?_ | refine zQ ?_ | refine zR ?_) | refine zS ?_)
    refine CW.unroll 6 (Un.go ?_)
    repeat' (first | (refine zA ?_; first | refine zB ?_ | refine zC H ?_ | refine zD H ?_ | refine zE H fun _ _ H => ?_ | refine zF H fun _ _ H => ?_ | refine zG H fun _ H => ?_ | refine zH H fun _ H => ?_) | (refine zI ?_; first | refine zJ ?_ | refine zK ?_ | refine zL ?_ | refine zM ?_ | refine zN ?_ | refine zO ?_ | refine zP ?_ | refine zQ ?_ | refine zR ?_) | refine zS ?_)
    rw [show IntKind.wrap .u32 (16 * 32) = 512 by decide +kernel, show IntKind.wrap .u32 (0 + 1) = 1 by decide +kernel]
    repeat' (first | (refine zA ?_; first | refine zB ?_ | refine zC H ?_ | refine zD H ?_ | refine zE H fun _ _ H => ?_ | refine zF H fun _ _ H => ?_ | refine zG H fun _ H => ?_ | refine zH H fun _ H => ?_) | (refine zI ?_; first | refine zJ ?_ | refine zK ?_ | refine zL ?_ | refine zM ?_ | refine zN ?_ | refine zO ?_ | refine zP ?_ | refine zQ ?_ | refine zR ?_) | refine zS ?_)
    rw [show IntKind.wrap .u32 (16 * 512) = 8192 by decide +kernel, show IntKind.wrap .u32 (1 + 1) = 2 by decide +kernel]
    repeat' (first | (refine zA ?_; first | refine zB ?_ | refine zC H ?_ | refine zD H ?_ | refine zE H fun _ _ H => ?_ | refine zF H fun _ _ H => ?_ | refine zG H fun _ H => ?_ | refine zH H fun _ H => ?_) | (refine zI ?_; first | refine zJ ?_ | refine zK ?_ | refine zL ?_ | refine zM ?_ | refine zN ?_ | refine zO ?_ | refine zP ?_ | refine zQ ?_ | refine zR ?_) | refine zS ?_)
    rw [show IntKind.wrap .u32 (16 * 8192) = 131072 by decide +kernel, show IntKind.wrap .u32 (2 + 1) = 3 by decide +kernel]
    repeat' (first | (refine zA ?_; first | refine zB ?_ | refine zC H ?_ | refine zD H ?_ | refine zE H fun _ _ H => ?_ | refine zF H fun _ _ H => ?_ | refine zG H fun _ H => ?_ | refine zH H fun _ H => ?_) | (refine zI ?_; first | refine zJ ?_ | refine zK ?_ | refine zL ?_ | refine zM ?_ | refine zN ?_ | refine zO ?_ | refine zP ?_ | refine zQ ?_ | refine zR ?_) | refine zS ?_)
    rw [show IntKind.wrap .u32 (16 * 131072) = 2097152 by decide +kernel, show IntKind.wrap .u32 (3 + 1) = 4 by decide +kernel]
    repeat' (first | (refine zA ?_; first | refine zB ?_ | refine zC H ?_ | refine zD H ?_ | refine zE H fun _ _ H => ?_ | refine zF H fun _ _ H => ?_ | refine zG H fun _ H => ?_ | refine zH H fun _ H => ?_) | (refine zI ?_; first | refine zJ ?_ | refine zK ?_ | refine zL ?_ | refine zM ?_ | refine zN ?_ | refine zO ?_ | refine zP ?_ | refine zQ ?_ | refine zR ?_) | refine zS ?_)
    exact ret2 rfl rfl ⟨rfl, H.drop⟩
  · repeat' (first | (refine zA ?_; first | refine zB ?_ | refine zC H ?_ | refine zD H ?_ | refine zE H fun _ _ H => ?_ | refine zF H fun _ _ H => ?_ | refine zG H fun _ H => ?_ | refine zH H fun _ H => ?_) | (refine zI ?_; first | refine zJ ?_ | refine zK ?_ | refine zL ?_ | refine zM ?_ | refine zN ?_ | refine zO ?_ | refine zP ?_ | refine zQ ?_ | refine zR ?_) | refine zS ?_)
    refine OpsW.gs rfl rfl rfl (fun h' => absurd h' (by simp; omega)) (fun _ => ?_)
    repeat' (first | (refine zA ?_; first | refine zB ?_ | refine zC H ?_ | refine zD H ?_ | refine zE H fun _ _ H => ?_ | refine zF H fun _ _ H => ?_ | refine zG H fun _ H => ?_ | refine zH H fun _ H => ?_) | (refine zI ?_; first | refine zJ ?_ | refine zK ?_ | refine zL ?_ | refine zM ?_ | refine zN ?_ | refine zO ?_ | refine zP ?_ | refine zQ ?_ | refine zR ?_) | refine zS ?_)
    refine CW.cond rfl (fun _ => ?_) (fun h' => absurd h' (by simp; omega))
    rw [decide_eq_false (show ¬ dt ≤ 4 by omega), Bool.and_false]
    repeat' (first | (refine zA ?_; first | refine zB ?_ | refine zC H ?_ | refine zD H ?_ | refine zE H fun _ _ H => ?_ | refine zF H fun _ _ H => ?_ | refine zG H fun _ H => ?_ | refine zH H fun _ H => ?_) | (refine zI ?_; first | refine zJ ?_ | refine zK ?_ | refine zL ?_ | refine zM ?_ | refine zN ?_ | refine zO ?_ | refine zP ?_ | refine zQ ?_ | refine zR ?_) | refine zS ?_)
    exact ret2 rfl rfl ⟨rfl, H.drop⟩
end
end Go.Proofs.YtnfefbhjdncccaaDoor.X
