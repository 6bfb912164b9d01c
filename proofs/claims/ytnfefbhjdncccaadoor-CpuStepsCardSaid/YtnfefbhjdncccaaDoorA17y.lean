/- The document's Load and Save over a store as plain data; conditions: none. -/
import Derived.Test.YtnfefbhjdncccaaDoorA17x
import Derived.Test.YtnfefbhjdncccaaDoorL11r
namespace Go.Proofs.YtnfefbhjdncccaaDoor.X
open Go Go.Proofs
set_option linter.unusedSimpArgs false
set_option linter.unusedVariables false
theorem way_f (p : Plc) (f : Nat) (v : Value) : (wayL p f v)[3]? = some (.int .i64 f) := rfl
theorem way_0 (p : Plc) (f : Nat) (v : Value) : (wayL p f v)[0]? = some (.int .i64 p.page) := rfl
theorem way_1 (p : Plc) (f : Nat) (v : Value) : (wayL p f v)[1]? = some (.int .i64 p.at_) := rfl
theorem way_2 (p : Plc) (f : Nat) (v : Value) : (wayL p f v)[2]? = some (.bool p.ro) := rfl
theorem way_len (p : Plc) (f : Nat) (v : Value) : (wayL p f v).length = 5 := rfl
theorem load_bad {s : St} {k : K} {addr : Int} (h : (s.walk k addr).2.1 ≠ 0) : s.load k addr = (0, (s.walk k addr).2.1) := by unfold St.load; rw [if_pos h]
theorem load_ok8 {s : St} {k : K} {addr : Int} (h : (s.walk k addr).2.1 = 0) : s.load k addr = (s.word (s.walk k addr).1.page (s.walk k addr).1.at_, 0) := by unfold St.load; rw [if_neg (fun x => x h)]
theorem has_open {s : St} {a b : Int} (h : s.hasP a b = true) : ∃ i j : Nat, a = i ∧ b = j ∧ i < s.M ∧ j < 32 ∧ s.word a b = s.pg i j := by
  have hh := h
  unfold St.hasP onN at h
  simp at h
  refine ⟨a.toNat, b.toNat, by omega, by omega, by omega, by omega, ?_⟩
  unfold St.word
  rw [if_pos hh]
theorem save_bad8 {s : St} {k : K} {addr x : Int} (h : (s.walk k addr).2.1 ≠ 0) : s.save k addr = (s.walk k addr).2.1 ∧ s.saveS k addr x = s := by
  have e : s.save k addr = (s.walk k addr).2.1 := by unfold St.save; rw [if_pos h]
  exact ⟨e, by unfold St.saveS; rw [e, if_neg h]⟩
theorem save_ro8 {s : St} {k : K} {addr x : Int} (h : (s.walk k addr).2.1 = 0) (h2 : (s.walk k addr).1.ro = true) : s.save k addr = 4 ∧ s.saveS k addr x = s := by
  have e : s.save k addr = 4 := by unfold St.save; rw [if_neg (fun x => x h), if_pos h2]
  exact ⟨e, by unfold St.saveS; rw [e, if_neg (by decide)]⟩
theorem save_ok8 {s : St} {k : K} {addr x : Int} (h : (s.walk k addr).2.1 = 0) (h2 : (s.walk k addr).1.ro = false) : s.save k addr = 0 ∧ s.saveS k addr x = s.setW (s.walk k addr).1.page (s.walk k addr).1.at_ x := by
  have e : s.save k addr = 0 := by unfold St.save; rw [if_neg (fun x => x h), if_neg (by rw [h2]; decide)]
  exact ⟨e, by unfold St.saveS; rw [if_pos e]⟩
theorem set_open {s : St} {a b x : Int} (h : s.hasP a b = true) : s.setW a b x = s.putW a.toNat b.toNat x := by unfold St.setW; rw [if_pos h]
attribute [local irreducible] CW OpsW RetW Spec blk snap DrawP AnyW AnyM AnyN bits IntKind.wrap vec arena kds nds wds pgs eA nodesP pagesP slo8 St.wk St.walk wayL St.word
section
variable {z w : World} {As : List HP} {bx : Nat} {s : St} {p : SyV}
theorem sy_load (H : Sat z w (syP bx s :: As)) (k : K) (addr : Int) (hd : 0 ≤ k.data) (hk : ∀ a c, 0 ≤ (s.nd a c).data) (ha : 0 ≤ addr) (ha2 : addr < 4294967296) :
    Spec cf 75 #[.pointer (some ⟨bx, 0, none⟩), k.v, .int .u32 addr] w fun e w' => e = .tuple #[.int .u32 (s.load k addr).1, .int .i64 (s.load k addr).2] ∧ Sat z w' (syP bx s :: As) := by
  refine enter (l := [.pointer (some ⟨bx, 0, none⟩), k.v, .int .u32 addr]) Tryd.func75 rfl rfl rfl rfl rfl ?_
  repeat' (first | (refine zA ?_; first | refine zB ?_ | refine zC H ?_ | refine zD H ?_ | refine zE H fun _ _ H => ?_ | refine zF H fun _ _ H => ?_ | refine zG H fun _ H => ?_ | refine zH H fun _ H => ?_) | (refine zI ?_; first | refine zJ ?_ | refine zK ?_ | refine zL ?_ | refine zM ?_ | refine zN ?_ | refine zO ?_ | refine zP ?_ | refine zQ ?_ | refine zR ?_) | refine zS ?_)
  refine OpsW.call rfl rfl rfl (sy_walk (H.perm p1) k addr hd hk ha ha2) ?_
  rintro _ w ⟨va, vn, vc, rfl, H⟩
  refine OpsW.alloc H rfl rfl rfl rfl fun b8 w H => ?_
  refine OpsW.strF H p0 rfl rfl rfl (way_scl _ _ _ _ _) rfl (way_len _ _ _) (by rw [way_len]; decide) fun w H => ?_
  rw [splice_full (by rw [way_len]; rfl)] at H
  have hb := @load_bad s k addr
  have ho := @load_ok8 s k addr
  have hp := @walk_has s k addr ha
  generalize s.walk k addr = y at *
  obtain ⟨pl, f, ns⟩ := y
  dsimp only at hb ho hp H ⊢
  repeat' (first | (refine zA ?_; first | refine zB ?_ | refine zC H ?_ | refine zD H ?_ | refine zE H fun _ _ H => ?_ | refine zF H fun _ _ H => ?_ | refine zG H fun _ H => ?_ | refine zH H fun _ H => ?_) | (refine zI ?_; first | refine zJ ?_ | refine zK ?_ | refine zL ?_ | refine zM ?_ | refine zN ?_ | refine zO ?_ | refine zP ?_ | refine zQ ?_ | refine zR ?_) | refine zS ?_)
  refine OpsW.ld H p0 rfl rfl rfl rfl (way_f pl f _) rfl ?_
  by_cases hf : f = 0
  case neg =>
    rw [hb hf]
    repeat' (first | (refine zA ?_; first | refine zB ?_ | refine zC H ?_ | refine zD H ?_ | refine zE H fun _ _ H => ?_ | refine zF H fun _ _ H => ?_ | refine zG H fun _ H => ?_ | refine zH H fun _ H => ?_) | (refine zI ?_; first | refine zJ ?_ | refine zK ?_ | refine zL ?_ | refine zM ?_ | refine zN ?_ | refine zO ?_ | refine zP ?_ | refine zQ ?_ | refine zR ?_) | refine zS ?_)
    refine CW.cond rfl (fun h => ?_) (fun h => absurd h (by simp [hf]))
    repeat' (first | (refine zA ?_; first | refine zB ?_ | refine zC H ?_ | refine zD H ?_ | refine zE H fun _ _ H => ?_ | refine zF H fun _ _ H => ?_ | refine zG H fun _ H => ?_ | refine zH H fun _ H => ?_) | (refine zI ?_; first | refine zJ ?_ | refine zK ?_ | refine zL ?_ | refine zM ?_ | refine zN ?_ | refine zO ?_ | refine zP ?_ | refine zQ ?_ | refine zR ?_) | refine zS ?_)
    (first | refine CW.seqDraw mo H [0, 1, 0, 7] fun w H => ?_ | refine CW.draw mo H [0, 1, 0, 7] fun w H => ?_); refine AnyW.seg (m := 4) (by kernel_rfl) (by kernel_rfl) H rfl ?_
    refine .cons rfl (fun τ w H => .st rfl (.nil ⟨rfl, H⟩)) ?_
    refine .cons rfl (fun τ w H => .ld H p0 rfl rfl rfl rfl (way_f pl f _) rfl (.nil ⟨rfl, H⟩)) ?_
    refine .cons rfl (fun τ w H => .st rfl (.nil ⟨rfl, H⟩)) ?_
    refine .cons rfl (fun τ w H => .st rfl (.nil ⟨rfl, H⟩)) ?_
    refine DrawP.nil fun w H => ?_
    refine AnyW.done ?_
    repeat' (first | (refine zA ?_; first | refine zB ?_ | refine zC H ?_ | refine zD H ?_ | refine zE H fun _ _ H => ?_ | refine zF H fun _ _ H => ?_ | refine zG H fun _ H => ?_ | refine zH H fun _ H => ?_) | (refine zI ?_; first | refine zJ ?_ | refine zK ?_ | refine zL ?_ | refine zM ?_ | refine zN ?_ | refine zO ?_ | refine zP ?_ | refine zQ ?_ | refine zR ?_) | refine zS ?_)
    exact ret2 rfl rfl ⟨rfl, (H.drop.perm p1).drop⟩
  subst hf
  rw [ho rfl]
  obtain ⟨i, j, hi, hj, hiM, hj32, hw⟩ := has_open (hp rfl)
  repeat' (first | (refine zA ?_; first | refine zB ?_ | refine zC H ?_ | refine zD H ?_ | refine zE H fun _ _ H => ?_ | refine zF H fun _ _ H => ?_ | refine zG H fun _ H => ?_ | refine zH H fun _ H => ?_) | (refine zI ?_; first | refine zJ ?_ | refine zK ?_ | refine zL ?_ | refine zM ?_ | refine zN ?_ | refine zO ?_ | refine zP ?_ | refine zQ ?_ | refine zR ?_) | refine zS ?_)
  obtain ⟨p, H2⟩ := sy_open (H.perm p1)
  replace H := H2
  clear H2
  (first | refine CW.seqDraw mo H [0, 1, 3, 7, 0, 16, 0, 64, 63, 511, 1023, 2047, 4095] fun w H => ?_ | refine CW.draw mo H [0, 1, 3, 7, 0, 16, 0, 64, 63, 511, 1023, 2047, 4095] fun w H => ?_); refine AnyW.seg (m := 13) (by kernel_rfl) (by kernel_rfl) H rfl ?_
  refine .cons rfl (fun τ w H => .st rfl (.nil ⟨rfl, H⟩)) ?_
  refine .cons rfl (fun τ w H => .st rfl (.nil ⟨rfl, H⟩)) ?_
  refine .cons rfl (fun τ w H => .st rfl (.nil ⟨rfl, H⟩)) ?_
  refine .cons rfl (fun τ w H => .ld H p0 rfl rfl rfl rfl (by rfl) rfl (.nil ⟨rfl, H⟩)) ?_
  refine .cons rfl (fun τ w H => .st rfl (.nil ⟨rfl, H⟩)) ?_
  refine .cons rfl (fun τ w H => .ld H p5 rfl rfl rfl rfl (way_0 pl 0 _) rfl (.nil ⟨rfl, H⟩)) ?_
  refine .cons rfl (fun τ w H => .st rfl (.nil ⟨rfl, H⟩)) ?_
  refine .cons rfl (fun τ w H => .ld H p5 rfl rfl rfl rfl (way_1 pl 0 _) rfl (.nil ⟨rfl, H⟩)) ?_
  refine .cons rfl (fun τ w H => OpsW.ix (n := i) rfl rfl rfl rfl rfl rfl hi hiM rfl (.nil ⟨rfl, H⟩)) ?_
  refine .cons rfl (fun τ w H => OpsW.ixA (n := j) rfl rfl rfl rfl rfl rfl hj hj32 rfl (.nil ⟨rfl, H⟩)) ?_
  refine .cons rfl (fun τ w H => .ld H p3 rfl rfl rfl rfl (pgs_get hiM hj32) rfl (.nil ⟨rfl, H⟩)) ?_
  refine .cons rfl (fun τ w H => .st rfl (.nil ⟨rfl, H⟩)) ?_
  refine .cons rfl (fun τ w H => .st rfl (.nil ⟨rfl, H⟩)) ?_
  refine DrawP.nil fun w H => ?_
  refine AnyW.done ?_
  repeat' (first | (refine zA ?_; first | refine zB ?_ | refine zC H ?_ | refine zD H ?_ | refine zE H fun _ _ H => ?_ | refine zF H fun _ _ H => ?_ | refine zG H fun _ H => ?_ | refine zH H fun _ H => ?_) | (refine zI ?_; first | refine zJ ?_ | refine zK ?_ | refine zL ?_ | refine zM ?_ | refine zN ?_ | refine zO ?_ | refine zP ?_ | refine zQ ?_ | refine zR ?_) | refine zS ?_)
  exact ret2 rfl rfl ⟨by show _ = Value.tuple #[.int .u32 (s.word pl.page pl.at_), .int .i64 0]; rw [hw], (((sy_close (p := p) H).perm p1).drop.perm p1).drop⟩
theorem sy_save (H : Sat z w (syP bx s :: As)) (k : K) (addr x : Int) (hd : 0 ≤ k.data) (hk : ∀ a c, 0 ≤ (s.nd a c).data) (ha : 0 ≤ addr) (ha2 : addr < 4294967296) :
    Spec cf 78 #[.pointer (some ⟨bx, 0, none⟩), k.v, .int .u32 addr, .int .u32 x] w fun e w' => e = .int .i64 (s.save k addr) ∧ Sat z w' (syP bx (s.saveS k addr x) :: As) := by
  refine enter (l := [.pointer (some ⟨bx, 0, none⟩), k.v, .int .u32 addr, .int .u32 x]) Tryd.func78 rfl rfl rfl rfl rfl ?_
  repeat' (first | (refine zA ?_; first | refine zB ?_ | refine zC H ?_ | refine zD H ?_ | refine zE H fun _ _ H => ?_ | refine zF H fun _ _ H => ?_ | refine zG H fun _ H => ?_ | refine zH H fun _ H => ?_) | (refine zI ?_; first | refine zJ ?_ | refine zK ?_ | refine zL ?_ | refine zM ?_ | refine zN ?_ | refine zO ?_ | refine zP ?_ | refine zQ ?_ | refine zR ?_) | refine zS ?_)
  refine OpsW.call rfl rfl rfl (sy_walk (H.perm p1) k addr hd hk ha ha2) ?_
  rintro _ w ⟨va, vn, vc, rfl, H⟩
  refine OpsW.alloc H rfl rfl rfl rfl fun b8 w H => ?_
  refine OpsW.strF H p0 rfl rfl rfl (way_scl _ _ _ _ _) rfl (way_len _ _ _) (by rw [way_len]; decide) fun w H => ?_
  rw [splice_full (by rw [way_len]; rfl)] at H
  have hb := @save_bad8 s k addr x
  have hr := @save_ro8 s k addr x
  have ho := @save_ok8 s k addr x
  have hp := @walk_has s k addr ha
  generalize s.walk k addr = y at *
  obtain ⟨pl, f, ns⟩ := y
  dsimp only at hb hr ho hp H ⊢
  repeat' (first | (refine zA ?_; first | refine zB ?_ | refine zC H ?_ | refine zD H ?_ | refine zE H fun _ _ H => ?_ | refine zF H fun _ _ H => ?_ | refine zG H fun _ H => ?_ | refine zH H fun _ H => ?_) | (refine zI ?_; first | refine zJ ?_ | refine zK ?_ | refine zL ?_ | refine zM ?_ | refine zN ?_ | refine zO ?_ | refine zP ?_ | refine zQ ?_ | refine zR ?_) | refine zS ?_)
  refine OpsW.ld H p0 rfl rfl rfl rfl (way_f pl f _) rfl ?_
  by_cases hf : f = 0
  case neg =>
    rw [(hb hf).1, (hb hf).2]
    repeat' (first | (refine zA ?_; first | refine zB ?_ | refine zC H ?_ | refine zD H ?_ | refine zE H fun _ _ H => ?_ | refine zF H fun _ _ H => ?_ | refine zG H fun _ H => ?_ | refine zH H fun _ H => ?_) | (refine zI ?_; first | refine zJ ?_ | refine zK ?_ | refine zL ?_ | refine zM ?_ | refine zN ?_ | refine zO ?_ | refine zP ?_ | refine zQ ?_ | refine zR ?_) | refine zS ?_)
    refine CW.cond rfl (fun h => ?_) (fun h => absurd h (by simp [hf]))
    repeat' (first | (refine zA ?_; first | refine zB ?_ | refine zC H ?_ | refine zD H ?_ | refine zE H fun _ _ H => ?_ | refine zF H fun _ _ H => ?_ | refine zG H fun _ H => ?_ | refine zH H fun _ H => ?_) | (refine zI ?_; first | refine zJ ?_ | refine zK ?_ | refine zL ?_ | refine zM ?_ | refine zN ?_ | refine zO ?_ | refine zP ?_ | refine zQ ?_ | refine zR ?_) | refine zS ?_)
    refine OpsW.ld H p0 rfl rfl rfl rfl (way_f pl f _) rfl ?_
    repeat' (first | (refine zA ?_; first | refine zB ?_ | refine zC H ?_ | refine zD H ?_ | refine zE H fun _ _ H => ?_ | refine zF H fun _ _ H => ?_ | refine zG H fun _ H => ?_ | refine zH H fun _ H => ?_) | (refine zI ?_; first | refine zJ ?_ | refine zK ?_ | refine zL ?_ | refine zM ?_ | refine zN ?_ | refine zO ?_ | refine zP ?_ | refine zQ ?_ | refine zR ?_) | refine zS ?_)
    exact ret1 rfl ⟨rfl, (H.drop.perm p1).drop⟩
  subst hf
  repeat' (first | (refine zA ?_; first | refine zB ?_ | refine zC H ?_ | refine zD H ?_ | refine zE H fun _ _ H => ?_ | refine zF H fun _ _ H => ?_ | refine zG H fun _ H => ?_ | refine zH H fun _ H => ?_) | (refine zI ?_; first | refine zJ ?_ | refine zK ?_ | refine zL ?_ | refine zM ?_ | refine zN ?_ | refine zO ?_ | refine zP ?_ | refine zQ ?_ | refine zR ?_) | refine zS ?_)
  refine OpsW.ld H p0 rfl rfl rfl rfl (way_2 pl 0 _) rfl ?_
  cases hro : pl.ro
  case true =>
    rw [(hr rfl hro).1, (hr rfl hro).2]
    repeat' (first | (refine zA ?_; first | refine zB ?_ | refine zC H ?_ | refine zD H ?_ | refine zE H fun _ _ H => ?_ | refine zF H fun _ _ H => ?_ | refine zG H fun _ H => ?_ | refine zH H fun _ H => ?_) | (refine zI ?_; first | refine zJ ?_ | refine zK ?_ | refine zL ?_ | refine zM ?_ | refine zN ?_ | refine zO ?_ | refine zP ?_ | refine zQ ?_ | refine zR ?_) | refine zS ?_)
    exact ret1 rfl ⟨rfl, (H.drop.perm p1).drop⟩
  rw [(ho rfl hro).1, (ho rfl hro).2, set_open (hp rfl)]
  obtain ⟨i, j, hi, hj, hiM, hj32, hw⟩ := has_open (hp rfl)
  rw [show pl.page.toNat = i by omega, show pl.at_.toNat = j by omega]
  repeat' (first | (refine zA ?_; first | refine zB ?_ | refine zC H ?_ | refine zD H ?_ | refine zE H fun _ _ H => ?_ | refine zF H fun _ _ H => ?_ | refine zG H fun _ H => ?_ | refine zH H fun _ H => ?_) | (refine zI ?_; first | refine zJ ?_ | refine zK ?_ | refine zL ?_ | refine zM ?_ | refine zN ?_ | refine zO ?_ | refine zP ?_ | refine zQ ?_ | refine zR ?_) | refine zS ?_)
  obtain ⟨p, H2⟩ := sy_open (H.perm p1)
  replace H := H2
  clear H2
  (first | refine CW.seqDraw mo H [0, 1, 3, 7, 0, 16, 0, 64, 0, 63, 1023, 2047] fun w H => ?_ | refine CW.draw mo H [0, 1, 3, 7, 0, 16, 0, 64, 0, 63, 1023, 2047] fun w H => ?_); refine AnyW.seg (m := 11) (by kernel_rfl) (by kernel_rfl) H rfl ?_
  refine .cons rfl (fun τ w H => .st rfl (.nil ⟨rfl, H⟩)) ?_
  refine .cons rfl (fun τ w H => .st rfl (.nil ⟨rfl, H⟩)) ?_
  refine .cons rfl (fun τ w H => .st rfl (.nil ⟨rfl, H⟩)) ?_
  refine .cons rfl (fun τ w H => .ld H p0 rfl rfl rfl rfl (by rfl) rfl (.nil ⟨rfl, H⟩)) ?_
  refine .cons rfl (fun τ w H => .st rfl (.nil ⟨rfl, H⟩)) ?_
  refine .cons rfl (fun τ w H => .ld H p5 rfl rfl rfl rfl (way_0 pl 0 _) rfl (.nil ⟨rfl, H⟩)) ?_
  refine .cons rfl (fun τ w H => .st rfl (.nil ⟨rfl, H⟩)) ?_
  refine .cons rfl (fun τ w H => .ld H p5 rfl rfl rfl rfl (way_1 pl 0 _) rfl (.nil ⟨rfl, H⟩)) ?_
  refine .cons rfl (fun τ w H => .st rfl (.nil ⟨rfl, H⟩)) ?_
  refine .cons rfl (fun τ w H => OpsW.ix (n := i) rfl rfl rfl rfl rfl rfl hi hiM rfl (.nil ⟨rfl, H⟩)) ?_
  refine .cons rfl (fun τ w H => OpsW.ixA (n := j) rfl rfl rfl rfl rfl rfl hj hj32 rfl (.nil ⟨rfl, H⟩)) ?_
  refine DrawP.nil fun w H => ?_
  refine AnyW.one (by kernel_rfl) (by kernel_rfl) rfl ?_
  refine OpsW.str H p3 rfl rfl rfl rfl rfl rfl (by rw [pgs_len]; omega) fun w H => ?_
  rw [pgs_set hiM hj32] at H
  refine OpsW.nil ?_
  refine AnyW.done ?_
  repeat' (first | (refine zA ?_; first | refine zB ?_ | refine zC H ?_ | refine zD H ?_ | refine zE H fun _ _ H => ?_ | refine zF H fun _ _ H => ?_ | refine zG H fun _ H => ?_ | refine zH H fun _ H => ?_) | (refine zI ?_; first | refine zJ ?_ | refine zK ?_ | refine zL ?_ | refine zM ?_ | refine zN ?_ | refine zO ?_ | refine zP ?_ | refine zQ ?_ | refine zR ?_) | refine zS ?_)
  have H2 : Sat z w (syP bx (s.putW i j x) :: _ :: _ :: As) := sy_close (s := s.putW i j x) (p := p) (H.perm (p1.trans ((p1.trans ((p1.trans (.refl _)).cons _)).cons _)))
  exact ret1 rfl ⟨rfl, ((H2.perm p1).drop.perm p1).drop⟩
end
end Go.Proofs.YtnfefbhjdncccaaDoor.X
