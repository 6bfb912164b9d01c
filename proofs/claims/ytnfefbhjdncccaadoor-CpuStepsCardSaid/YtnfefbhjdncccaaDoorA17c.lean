/- The document's machine: an instruction carried out; conditions: none. -/
import Derived.Test.YtnfefbhjdncccaaDoorA17z
namespace Go.Proofs.YtnfefbhjdncccaaDoor.X
open Go Go.Proofs
set_option linter.unusedSimpArgs false
set_option linter.unusedVariables false
attribute [local irreducible] CW OpsW RetW Spec blk snap DrawP AnyW AnyM AnyN bits IntKind.wrap vec itr asc eA Dm.c eD frL ksL noteL syP Ev.l St.load St.save St.saveS wdo sentK rgL readP
section
variable {z w : World} {As Rs : List HP} {d : Dm} {bx be hb : Nat} {s : St}
theorem back5 {A B C D E : HP} {l : List HP} : (E :: A :: B :: C :: D :: l).Perm (A :: B :: C :: D :: E :: l) := p4.symm
theorem back4 {A B C D : HP} {l : List HP} : (D :: A :: B :: C :: l).Perm (A :: B :: C :: D :: l) := p3.symm
set_option maxHeartbeats 16000000 in
set_option maxRecDepth 20000 in
theorem cpu8_ (H : Sat z w (syP bx s :: blk be 93 (eD d) :: Rs)) (hm : MOk s hb) (hd : DOk d) :
    Spec cf 43 #[.pointer (some ⟨bx, 0, none⟩), .pointer (some ⟨be, 0, none⟩)] w fun e w' => e = .agg (stepP s d).1.l.toArray ∧ Sat z w' (syP bx (stepP s d).2.2 :: blk be 93 (eD (stepP s d).2.1) :: Rs) := by
  refine enter (l := [.pointer (some ⟨bx, 0, none⟩), .pointer (some ⟨be, 0, none⟩)]) Tryd.func43 rfl rfl rfl rfl rfl ?_
  repeat' (first | (refine zA ?_; first | refine zB ?_ | refine zC H ?_ | refine zD H ?_ | refine zE H fun _ _ H => ?_ | refine zF H fun _ _ H => ?_ | refine zG H fun _ H => ?_ | refine zH H fun _ H => ?_) | (refine zI ?_; first | refine zJ ?_ | refine zK ?_ | refine zL ?_ | refine CW.seqDc ?_ | refine CW.seqDb ?_ | refine CW.seqDl ?_ | refine CW.seqDs ?_ | refine CW.seqDk ?_ | refine zN ?_ | refine zO ?_ | refine zP ?_ | refine zQ ?_ | refine zR ?_) | refine zS ?_)
  rename_i b4 _
  replace H := evF (Ev.of 0) H (by with_unfolding_all rfl)
  have hlr := load_rng hm d.mem d.pc
  have hec := @readP_ec (s.load d.mem d.pc).1
  have hL := fun {w : World} (H : Sat z w (blk b4 102 (Ev.of 0).l :: syP bx s :: blk be 93 (eD d) :: Rs)) => via H (by exact p1) fun H => sy_load H d.mem d.pc hd.m0 hm.d0 hd.p0 hd.p1
  unfold stepP
  (first | refine CW.seqDraw mo H [0, 0, 2, 6, 14, 0, 32, 96, 224, 480, 1023, 2047, 4095, 4095, 8191, 32767] fun w H => ?_ | refine CW.draw mo H [0, 0, 2, 6, 14, 0, 32, 96, 224, 480, 1023, 2047, 4095, 4095, 8191, 32767] fun w H => ?_); refine AnyW.seg (m := 10) (by kernel_rfl) (by kernel_rfl) H rfl ?_
  repeat' (first | (refine DrawP.nil ?_; intro w H) | (refine DrawP.go ?_; first | refine DrawP.cons rfl (fun τ w H => OpsW.st rfl (OpsW.nil ⟨rfl, H⟩)) ?_ | refine DrawP.cons rfl (fun τ w H => OpsW.ld H (by (first | exact p0 | exact p1 | exact p2 | exact p3 | exact p4 | exact p5 | exact p6 | exact p7)) rfl rfl rfl rfl (by rfl) rfl (OpsW.nil ⟨rfl, H⟩)) ?_ | refine DrawP.cons rfl (fun τ w H => OpsW.ldA H (by (first | exact p0 | exact p1 | exact p2 | exact p3 | exact p4 | exact p5 | exact p6 | exact p7)) rfl rfl rfl (by rfl) rfl (OpsW.nil ⟨rfl, H⟩)) ?_ | refine DrawP.cons rfl (fun τ w H => OpsW.ldA H p2 rfl rfl rfl (eD_ld91 d) rfl (OpsW.nil ⟨rfl, H⟩)) ?_ | refine DrawP.cons rfl (fun τ w H => OpsW.ld H p2 rfl rfl rfl rfl (eD_ldPC d) rfl (OpsW.nil ⟨rfl, H⟩)) ?_) | refine DrawP.split (fun h => ?_) (fun h => ?_))
  refine AnyW.one (by kernel_rfl) (by kernel_rfl) rfl ?_
  replace hL := hL H
  generalize s.load d.mem d.pc = y at *
  obtain ⟨x, f⟩ := y
  dsimp only at hL hlr hec ⊢
  refine OpsW.call rfl rfl rfl hL ?_
  rintro _ w ⟨rfl, H⟩
  refine OpsW.nil ?_
  refine AnyW.one (by kernel_rfl) (by kernel_rfl) rfl ?_
  (first | (refine zA ?_; first | refine zB ?_ | refine zC H ?_ | refine zD H ?_ | refine zE H fun _ _ H => ?_ | refine zF H fun _ _ H => ?_ | refine zG H fun _ H => ?_ | refine zH H fun _ H => ?_) | (refine zI ?_; first | refine zJ ?_ | refine zK ?_ | refine zL ?_ | refine zM ?_ | refine zN ?_ | refine zO ?_ | refine zP ?_ | refine zQ ?_ | refine zR ?_) | refine zS ?_)
  refine OpsW.nil ?_
  refine AnyW.seg (m := 15) (by kernel_rfl) (by kernel_rfl) H rfl ?_
  repeat' (first | (refine DrawP.nil ?_; intro w H) | (refine DrawP.go ?_; first | refine DrawP.cons rfl (fun τ w H => OpsW.st rfl (OpsW.nil ⟨rfl, H⟩)) ?_ | refine DrawP.cons rfl (fun τ w H => OpsW.ld H (by (first | exact p0 | exact p1 | exact p2 | exact p3 | exact p4 | exact p5 | exact p6 | exact p7)) rfl rfl rfl rfl (by rfl) rfl (OpsW.nil ⟨rfl, H⟩)) ?_ | refine DrawP.cons rfl (fun τ w H => OpsW.ldA H (by (first | exact p0 | exact p1 | exact p2 | exact p3 | exact p4 | exact p5 | exact p6 | exact p7)) rfl rfl rfl (by rfl) rfl (OpsW.nil ⟨rfl, H⟩)) ?_) | refine DrawP.split (fun h => ?_) (fun h => ?_))
  refine AnyW.one (by kernel_rfl) (by kernel_rfl) rfl ?_
  (first | (refine zA ?_; first | refine zB ?_ | refine zC H ?_ | refine zD H ?_ | refine zE H fun _ _ H => ?_ | refine zF H fun _ _ H => ?_ | refine zG H fun _ H => ?_ | refine zH H fun _ H => ?_) | (refine zI ?_; first | refine zJ ?_ | refine zK ?_ | refine zL ?_ | refine zM ?_ | refine zN ?_ | refine zO ?_ | refine zP ?_ | refine zQ ?_ | refine zR ?_) | refine zS ?_)
  refine OpsW.nil ?_
  refine AnyW.done ?_
  repeat' (first | (refine zA ?_; first | refine zB ?_ | refine zC H ?_ | refine zD H ?_ | refine zE H fun _ _ H => ?_ | refine zF H fun _ _ H => ?_ | refine zG H fun _ H => ?_ | refine zH H fun _ H => ?_) | (refine zI ?_; first | refine zJ ?_ | refine zK ?_ | refine zL ?_ | refine CW.seqDc ?_ | refine CW.seqDb ?_ | refine CW.seqDl ?_ | refine CW.seqDs ?_ | refine CW.seqDk ?_ | refine zN ?_ | refine zO ?_ | refine zP ?_ | refine zQ ?_ | refine zR ?_) | refine zS ?_)
  by_cases hf : f = 0
  case neg =>
    rw [if_pos hf]
    refine CW.cond rfl (fun h => ?_) (fun h => absurd h (by simp [hf]))
    repeat' (first | (refine zA ?_; first | refine zB ?_ | refine zC H ?_ | refine zD H ?_ | refine zE H fun _ _ H => ?_ | refine zF H fun _ _ H => ?_ | refine zG H fun _ H => ?_ | refine zH H fun _ H => ?_) | (refine zI ?_; first | refine zJ ?_ | refine zK ?_ | refine zL ?_ | refine CW.seqDc ?_ | refine CW.seqDb ?_ | refine CW.seqDl ?_ | refine CW.seqDs ?_ | refine CW.seqDk ?_ | refine zN ?_ | refine zO ?_ | refine zP ?_ | refine zQ ?_ | refine zR ?_) | refine zS ?_)
    refine OpsW.ld H p2 rfl rfl rfl rfl (eD_ldPC d) rfl ?_
    refine OpsW.bld rfl rfl (bad8_bld f d.pc) rfl ?_
    refine OpsW.strF H p0 rfl rfl rfl (Ev.scl _) rfl (Ev.len _) (by rw [Ev.len, Ev.len]; decide) fun w H => ?_
    rw [splice_full (by rw [Ev.len, Ev.len])] at H
    repeat' (first | (refine zA ?_; first | refine zB ?_ | refine zC H ?_ | refine zD H ?_ | refine zE H fun _ _ H => ?_ | refine zF H fun _ _ H => ?_ | refine zG H fun _ H => ?_ | refine zH H fun _ H => ?_) | (refine zI ?_; first | refine zJ ?_ | refine zK ?_ | refine zL ?_ | refine CW.seqDc ?_ | refine CW.seqDb ?_ | refine CW.seqDl ?_ | refine CW.seqDs ?_ | refine CW.seqDk ?_ | refine zN ?_ | refine zO ?_ | refine zP ?_ | refine zQ ?_ | refine zR ?_) | refine zS ?_)
    exact ret1c (resA H p0 rfl rfl (Ev.all _)) ⟨rfl, H.drop⟩
  subst hf
  rw [if_neg (fun h => h rfl)]
  repeat' (first | (refine zA ?_; first | refine zB ?_ | refine zC H ?_ | refine zD H ?_ | refine zE H fun _ _ H => ?_ | refine zF H fun _ _ H => ?_ | refine zG H fun _ H => ?_ | refine zH H fun _ H => ?_) | (refine zI ?_; first | refine zJ ?_ | refine zK ?_ | refine zL ?_ | refine CW.seqDc ?_ | refine CW.seqDb ?_ | refine CW.seqDl ?_ | refine CW.seqDs ?_ | refine CW.seqDk ?_ | refine zN ?_ | refine zO ?_ | refine zP ?_ | refine zQ ?_ | refine zR ?_) | refine zS ?_)
  refine OpsW.call rfl rfl rfl (readR_ H x hlr.1 hlr.2) ?_
  generalize readP x = y at *
  obtain ⟨i, ok⟩ := y
  dsimp only at hec ⊢
  rintro _ w ⟨rfl, H⟩
  cases ok
  case false =>
    rw [if_pos rfl]
    repeat' (first | (refine zA ?_; first | refine zB ?_ | refine zC H ?_ | refine zD H ?_ | refine zE H fun _ _ H => ?_ | refine zF H fun _ _ H => ?_ | refine zG H fun _ H => ?_ | refine zH H fun _ H => ?_) | (refine zI ?_; first | refine zJ ?_ | refine zK ?_ | refine zL ?_ | refine CW.seqDc ?_ | refine CW.seqDb ?_ | refine CW.seqDl ?_ | refine CW.seqDs ?_ | refine CW.seqDk ?_ | refine zN ?_ | refine zO ?_ | refine zP ?_ | refine zQ ?_ | refine zR ?_) | refine zS ?_)
    refine OpsW.ld H p3 rfl rfl rfl rfl (eD_ldPC d) rfl ?_
    refine OpsW.bld rfl rfl (bad8_bld 1 d.pc) rfl ?_
    refine OpsW.strF H p1 rfl rfl rfl (Ev.scl _) rfl (Ev.len _) (by rw [Ev.len, Ev.len]; decide) fun w H => ?_
    rw [splice_full (by rw [Ev.len, Ev.len])] at H
    repeat' (first | (refine zA ?_; first | refine zB ?_ | refine zC H ?_ | refine zD H ?_ | refine zE H fun _ _ H => ?_ | refine zF H fun _ _ H => ?_ | refine zG H fun _ H => ?_ | refine zH H fun _ H => ?_) | (refine zI ?_; first | refine zJ ?_ | refine zK ?_ | refine zL ?_ | refine CW.seqDc ?_ | refine CW.seqDb ?_ | refine CW.seqDl ?_ | refine CW.seqDs ?_ | refine CW.seqDk ?_ | refine zN ?_ | refine zO ?_ | refine zP ?_ | refine zQ ?_ | refine zR ?_) | refine zS ?_)
    exact ret1c (resA H p0 rfl rfl (Ev.all _)) ⟨rfl, H.drop.drop⟩
  rw [if_neg (by decide)]
  have hi := hec (by decide)
  clear hec hL
  have hR := ec_rng hi
  obtain ⟨op, a, b, c, imm⟩ := i
  obtain ⟨o1, o2, a1, a2, b1, b2, c1, c2, m1, m2⟩ := hR
  dsimp only at o1 o2 a1 a2 b1 b2 c1 c2 m1 m2
  obtain ⟨a, rfl⟩ := Int.eq_ofNat_of_zero_le a1
  obtain ⟨b, rfl⟩ := Int.eq_ofNat_of_zero_le b1
  obtain ⟨c, rfl⟩ := Int.eq_ofNat_of_zero_le c1
  have ta : ((a : Nat) : Int).toNat = a := rfl
  have tb : ((b : Nat) : Int).toNat = b := rfl
  have tc : ((c : Nat) : Int).toNat = c := rfl
  repeat' (first | (refine zA ?_; first | refine zB ?_ | refine zC H ?_ | refine zD H ?_ | refine zE H fun _ _ H => ?_ | refine zF H fun _ _ H => ?_ | refine zG H fun _ H => ?_ | refine zH H fun _ H => ?_) | (refine zI ?_; first | refine zJ ?_ | refine zK ?_ | refine zL ?_ | refine CW.seqDc ?_ | refine CW.seqDb ?_ | refine CW.seqDl ?_ | refine CW.seqDs ?_ | refine CW.seqDk ?_ | refine zN ?_ | refine zO ?_ | refine zP ?_ | refine zQ ?_ | refine zR ?_) | refine zS ?_)
  rename_i b7 _ _ _
  refine OpsW.ld H p3 rfl rfl rfl rfl (eD_ldPC d) rfl ?_
  repeat' (first | (refine zA ?_; first | refine zB ?_ | refine zC H ?_ | refine zD H ?_ | refine zE H fun _ _ H => ?_ | refine zF H fun _ _ H => ?_ | refine zG H fun _ H => ?_ | refine zH H fun _ H => ?_) | (refine zI ?_; first | refine zJ ?_ | refine zK ?_ | refine zL ?_ | refine CW.seqDc ?_ | refine CW.seqDb ?_ | refine CW.seqDl ?_ | refine CW.seqDk ?_ | refine zN ?_ | refine zO ?_ | refine zP ?_ | refine zQ ?_ | refine zR ?_) | refine zS ?_)
  rename_i b11 _ _ _
  replace H := evF (Ev.of 0) H (by with_unfolding_all rfl)
  replace H : Sat z _ (blk b11 102 (Ev.of 0).l :: blk b7 153 (Ins.l ⟨op, a, b, c, imm⟩) :: blk b4 102 (Ev.of 0).l :: syP bx s :: blk be 93 (eD d) :: Rs) := H
  rw [show IntKind.wrap .u32 (⟨op, a, b, c, imm⟩ : Ins).imm = imm by rw [wrapu32]; show imm % _ = imm; omega]
  generalize hq : doP s (d.setPC ((d.pc + 1) % 4294967296)) ⟨op, a, b, c, imm⟩ = q
  have hpc : IntKind.wrap .u32 (d.pc + 1) = (d.pc + 1) % 4294967296 := wrapu32 _
  rw [hpc]
  obtain ⟨p, hp⟩ : ∃ p, p = (d.pc + 1) % 4294967296 := ⟨_, rfl⟩
  rw [← hp] at hq ⊢
  clear hpc
  refine CW.join (X := Int × Dm × Ev × St) (fun j => Nat.beq j 9 || Nat.ble 12 j) (fun x => [(9, .int .u32 x.1)]) (fun x w => (x.2.2.1 = q.1 ∧ x.2.2.2 = q.2.2 ∧ x.2.1.setPC x.1 = (if q.1.kind = 4 then q.2.1.setPC d.pc else q.2.1)) ∧ Sat z w (blk b11 102 x.2.2.1.l :: blk b7 153 (Ins.l ⟨op, a, b, c, imm⟩) :: blk b4 102 (Ev.of 0).l :: syP bx x.2.2.2 :: blk be 93 (eD x.2.1) :: Rs)) ?_ ?_
  case refine_2 =>
    rintro ⟨pc', d', e, s'⟩ τ w ⟨⟨h1, h2, h3⟩, H⟩
    dsimp only at h1 h2 h3 H
    repeat' (first | (refine zA ?_; first | refine zB ?_ | refine zC H ?_ | refine zD H ?_ | refine zE H fun _ _ H => ?_ | refine zF H fun _ _ H => ?_ | refine zG H fun _ H => ?_ | refine zH H fun _ H => ?_) | (refine zI ?_; first | refine zJ ?_ | refine zK ?_ | refine zL ?_ | refine CW.seqDc ?_ | refine CW.seqDb ?_ | refine CW.seqDl ?_ | refine CW.seqDs ?_ | refine CW.seqDk ?_ | refine zN ?_ | refine zO ?_ | refine zP ?_ | refine zQ ?_ | refine zR ?_) | refine zS ?_)
    refine OpsW.str H p4 rfl rfl rfl rfl rfl rfl (by rw [eD_len]; decide) fun w H => ?_
    replace H : Sat z w (blk be 93 ((eD d').set 8 (.int .u32 pc')) :: _) := H
    rw [eD_stPC] at H
    repeat' (first | (refine zA ?_; first | refine zB ?_ | refine zC H ?_ | refine zD H ?_ | refine zE H fun _ _ H => ?_ | refine zF H fun _ _ H => ?_ | refine zG H fun _ H => ?_ | refine zH H fun _ H => ?_) | (refine zI ?_; first | refine zJ ?_ | refine zK ?_ | refine zL ?_ | refine CW.seqDc ?_ | refine CW.seqDb ?_ | refine CW.seqDl ?_ | refine CW.seqDs ?_ | refine CW.seqDk ?_ | refine zN ?_ | refine zO ?_ | refine zP ?_ | refine zQ ?_ | refine zR ?_) | refine zS ?_)
    refine OpsW.ldA H p1 rfl rfl rfl (Ev.all e) rfl ?_
    refine OpsW.strF H p3 rfl rfl rfl (Ev.scl _) rfl (Ev.len _) (by rw [Ev.len, Ev.len]; decide) fun w H => ?_
    rw [splice_full (by rw [Ev.len, Ev.len])] at H
    repeat' (first | (refine zA ?_; first | refine zB ?_ | refine zC H ?_ | refine zD H ?_ | refine zE H fun _ _ H => ?_ | refine zF H fun _ _ H => ?_ | refine zG H fun _ H => ?_ | refine zH H fun _ H => ?_) | (refine zI ?_; first | refine zJ ?_ | refine zK ?_ | refine zL ?_ | refine CW.seqDc ?_ | refine CW.seqDb ?_ | refine CW.seqDl ?_ | refine CW.seqDs ?_ | refine CW.seqDk ?_ | refine zN ?_ | refine zO ?_ | refine zP ?_ | refine zQ ?_ | refine zR ?_) | refine zS ?_)
    refine ret1c (resA H p0 rfl rfl (Ev.all _)) ⟨by rw [h1], ?_⟩
    rw [← h2, ← h3]
    exact ((((H.drop.perm p1).drop).perm p1).drop).perm p1
  have hi2 := hi
  clear hi hlr
  rcases (show op = 1 ∨ op = 2 ∨ op = 3 ∨ op = 4 ∨ op = 5 ∨ op = 6 ∨ op = 7 ∨ op = 8 ∨ op = 9 ∨ op = 10 ∨ op = 11 ∨ op = 12 ∨ op = 13 by omega) with rfl | rfl | rfl | rfl | rfl | rfl | rfl | rfl | rfl | rfl | rfl | rfl | rfl
  all_goals simp [Ins.ec, Ins.fit, inR] at hi2
  · skip
    have ha8 : a < 8 := by omega
    repeat' (first | (refine zA ?_; first | refine zB ?_ | refine zC H ?_ | refine zD H ?_ | refine zE H fun _ _ H => ?_ | refine zF H fun _ _ H => ?_ | refine zG H fun _ H => ?_ | refine zH H fun _ H => ?_) | (refine zI ?_; first | refine zJ ?_ | refine zK ?_ | refine zL ?_ | refine CW.seqDc ?_ | refine CW.seqDb ?_ | refine CW.seqDl ?_ | refine CW.seqDs ?_ | refine CW.seqDk ?_ | refine zN ?_ | refine zO ?_ | refine zP ?_ | refine zQ ?_ | refine zR ?_) | refine zS ?_)
    (first | refine CW.seqDraw mo H [0, 0, 2, 0, 1, 17, 49, 127, 255] fun w H => ?_ | refine CW.draw mo H [0, 0, 2, 0, 1, 17, 49, 127, 255] fun w H => ?_); refine AnyW.seg (m := 8) (by kernel_rfl) (by kernel_rfl) H rfl ?_
    repeat' (first | (refine DrawP.nil ?_; intro w H) | (refine DrawP.go ?_; first | refine DrawP.cons rfl (fun τ w H => OpsW.st rfl (OpsW.nil ⟨rfl, H⟩)) ?_ | refine DrawP.cons rfl (fun τ w H => OpsW.ld H (by (first | exact p0 | exact p1 | exact p2 | exact p3 | exact p4 | exact p5 | exact p6 | exact p7)) rfl rfl rfl rfl (by rfl) rfl (OpsW.nil ⟨rfl, H⟩)) ?_ | refine DrawP.cons rfl (fun τ w H => OpsW.ldA H (by (first | exact p0 | exact p1 | exact p2 | exact p3 | exact p4 | exact p5 | exact p6 | exact p7)) rfl rfl rfl (by rfl) rfl (OpsW.nil ⟨rfl, H⟩)) ?_ | refine DrawP.cons rfl (fun τ w H => OpsW.ixA (n := a) rfl rfl rfl rfl rfl rfl rfl ha8 rfl (OpsW.nil ⟨rfl, H⟩)) ?_) | refine DrawP.split (fun h => ?_) (fun h => ?_))
    refine AnyW.one (by kernel_rfl) (by kernel_rfl) rfl ?_
    refine OpsW.str H p4 rfl rfl rfl rfl rfl rfl (by rw [eD_len]; omega) fun w H => ?_
    rw [eD_stR ha8 (by omega)] at H
    refine OpsW.nil ?_
    refine AnyW.done ?_
    replace H := H.perm back5
    repeat' (first | (refine zA ?_; first | refine zB ?_ | refine zC H ?_ | refine zD H ?_ | refine zE H fun _ _ H => ?_ | refine zF H fun _ _ H => ?_ | refine zG H fun _ H => ?_ | refine zH H fun _ H => ?_) | (refine zI ?_; first | refine zJ ?_ | refine zK ?_ | refine zL ?_ | refine CW.seqDc ?_ | refine CW.seqDb ?_ | refine CW.seqDl ?_ | refine CW.seqDs ?_ | refine CW.seqDk ?_ | refine zN ?_ | refine zO ?_ | refine zP ?_ | refine zQ ?_ | refine zR ?_) | refine zS ?_)
    exact ⟨(p, d.setR a imm, Ev.of 0, s), (by (repeat (first | (with_reducible exact Agree.refl _ _) | (with_reducible refine Agree.trim (by assumption) ?_) | refine Agree.upd ?_ rfl | exact Agree.mix' | refine Agree.mixL ?_ (fun j h => by simp only [Bool.or_eq_true, Bool.and_eq_true, Nat.beq_eq, Nat.ble_eq] at h ⊢; omega) rfl))), ⟨rfl, trivial⟩, ⟨⟨by rw [← hq]; rfl, by rw [← hq]; rfl, by rw [← hq]; rfl⟩, H⟩⟩
  · skip
    have ha8 : a < 8 := by omega
    repeat' (first | (refine zA ?_; first | refine zB ?_ | refine zC H ?_ | refine zD H ?_ | refine zE H fun _ _ H => ?_ | refine zF H fun _ _ H => ?_ | refine zG H fun _ H => ?_ | refine zH H fun _ H => ?_) | (refine zI ?_; first | refine zJ ?_ | refine zK ?_ | refine zL ?_ | refine CW.seqDc ?_ | refine CW.seqDb ?_ | refine CW.seqDl ?_ | refine CW.seqDs ?_ | refine CW.seqDk ?_ | refine zN ?_ | refine zO ?_ | refine zP ?_ | refine zQ ?_ | refine zR ?_) | refine zS ?_)
    (first | refine CW.seqDraw mo H [0, 0, 2, 0, 0, 16, 8, 72, 200, 504, 1016, 2040, 0, 8184, 1, 16385, 49153, 131071, 262143] fun w H => ?_ | refine CW.draw mo H [0, 0, 2, 0, 0, 16, 8, 72, 200, 504, 1016, 2040, 0, 8184, 1, 16385, 49153, 131071, 262143] fun w H => ?_); refine AnyW.seg (m := 18) (by kernel_rfl) (by kernel_rfl) H rfl ?_
    repeat' (first | (refine DrawP.nil ?_; intro w H) | (refine DrawP.go ?_; first | refine DrawP.cons rfl (fun τ w H => OpsW.st rfl (OpsW.nil ⟨rfl, H⟩)) ?_ | refine DrawP.cons rfl (fun τ w H => OpsW.ld H (by (first | exact p0 | exact p1 | exact p2 | exact p3 | exact p4 | exact p5 | exact p6 | exact p7)) rfl rfl rfl rfl (by rfl) rfl (OpsW.nil ⟨rfl, H⟩)) ?_ | refine DrawP.cons rfl (fun τ w H => OpsW.ldA H (by (first | exact p0 | exact p1 | exact p2 | exact p3 | exact p4 | exact p5 | exact p6 | exact p7)) rfl rfl rfl (by rfl) rfl (OpsW.nil ⟨rfl, H⟩)) ?_ | refine DrawP.cons rfl (fun τ w H => OpsW.ixA (n := a) rfl rfl rfl rfl rfl rfl rfl ha8 rfl (OpsW.nil ⟨rfl, H⟩)) ?_ | refine DrawP.cons rfl (fun τ w H => OpsW.ld H p4 rfl rfl rfl rfl (eD_ldR ha8 (by omega)) rfl (OpsW.nil ⟨rfl, H⟩)) ?_) | refine DrawP.split (fun h => ?_) (fun h => ?_))
    rw [show IntKind.wrap .u32 (IntKind.wrap .u32 (4096 * d.r a) + imm) = (4096 * d.r a + imm) % 4294967296 by rw [wrapu32, wrapu32]; omega]
    refine AnyW.one (by kernel_rfl) (by kernel_rfl) rfl ?_
    refine OpsW.str H p4 rfl rfl rfl rfl rfl rfl (by rw [eD_len]; omega) fun w H => ?_
    rw [eD_stR ha8 (by omega)] at H
    refine OpsW.nil ?_
    refine AnyW.done ?_
    replace H := H.perm back5
    repeat' (first | (refine zA ?_; first | refine zB ?_ | refine zC H ?_ | refine zD H ?_ | refine zE H fun _ _ H => ?_ | refine zF H fun _ _ H => ?_ | refine zG H fun _ H => ?_ | refine zH H fun _ H => ?_) | (refine zI ?_; first | refine zJ ?_ | refine zK ?_ | refine zL ?_ | refine CW.seqDc ?_ | refine CW.seqDb ?_ | refine CW.seqDl ?_ | refine CW.seqDs ?_ | refine CW.seqDk ?_ | refine zN ?_ | refine zO ?_ | refine zP ?_ | refine zQ ?_ | refine zR ?_) | refine zS ?_)
    exact ⟨(p, d.setR a ((4096 * d.r a + imm) % 4294967296), Ev.of 0, s), (by (repeat (first | (with_reducible exact Agree.refl _ _) | (with_reducible refine Agree.trim (by assumption) ?_) | refine Agree.upd ?_ rfl | exact Agree.mix' | refine Agree.mixL ?_ (fun j h => by simp only [Bool.or_eq_true, Bool.and_eq_true, Nat.beq_eq, Nat.ble_eq] at h ⊢; omega) rfl))), ⟨rfl, trivial⟩, ⟨⟨by rw [← hq]; rfl, by rw [← hq]; rfl, by rw [← hq]; rfl⟩, H⟩⟩
  · skip
    have ha8 : a < 8 := by omega
    have hb8 : b < 8 := by omega
    have hc8 : c < 8 := by omega
    repeat' (first | (refine zA ?_; first | refine zB ?_ | refine zC H ?_ | refine zD H ?_ | refine zE H fun _ _ H => ?_ | refine zF H fun _ _ H => ?_ | refine zG H fun _ H => ?_ | refine zH H fun _ H => ?_) | (refine zI ?_; first | refine zJ ?_ | refine zK ?_ | refine zL ?_ | refine CW.seqDc ?_ | refine CW.seqDb ?_ | refine CW.seqDl ?_ | refine CW.seqDs ?_ | refine CW.seqDk ?_ | refine zN ?_ | refine zO ?_ | refine zP ?_ | refine zQ ?_ | refine zR ?_) | refine zS ?_)
    refine CW.draw mo H [0, 0, 2, 0, 8, 0, 0, 64, 32, 288, 800, 2016, 4064, 0, 0, 16384, 8192, 73728, 204800, 516096, 1040384, 2097144, 4194296, 8388600, 8388600, 1, 33554433, 100663297, 251658239, 520093695] fun w H => ?_
    refine AnyW.segD (m := 29) (q := 24) (by kernel_rfl) (by kernel_rfl) rfl rfl (by kernel_rfl) H rfl ?_
    refine .cons rfl (fun τ w H => .st rfl (.nil ⟨rfl, H⟩)) ?_
    refine .cons rfl (fun τ w H => .st rfl (.nil ⟨rfl, H⟩)) ?_
    refine .cons rfl (fun τ w H => .ld H p1 rfl rfl rfl rfl rfl rfl (.nil ⟨rfl, H⟩)) ?_
    refine .cons rfl (fun τ w H => .st rfl (.nil ⟨rfl, H⟩)) ?_
    refine .cons rfl (fun τ w H => .ld H p1 rfl rfl rfl rfl rfl rfl (.nil ⟨rfl, H⟩)) ?_
    refine .cons rfl (fun τ w H => .st rfl (.nil ⟨rfl, H⟩)) ?_
    refine .cons rfl (fun τ w H => .st rfl (.nil ⟨rfl, H⟩)) ?_
    refine .cons rfl (fun τ w H => .ld H p1 rfl rfl rfl rfl rfl rfl (.nil ⟨rfl, H⟩)) ?_
    refine .cons rfl (fun τ w H => .st rfl (.nil ⟨rfl, H⟩)) ?_
    refine .cons rfl (fun τ w H => .st rfl (.nil ⟨rfl, H⟩)) ?_
    refine .cons rfl (fun τ w H => .st rfl (.nil ⟨rfl, H⟩)) ?_
    refine .cons rfl (fun τ w H => .ixA (n := b) rfl rfl rfl rfl rfl rfl rfl hb8 rfl (.nil ⟨rfl, H⟩)) ?_
    refine .cons rfl (fun τ w H => .ld H p4 rfl rfl rfl rfl (eD_ldR hb8 (by omega)) rfl (.nil ⟨rfl, H⟩)) ?_
    refine .cons rfl (fun τ w H => .st rfl (.nil ⟨rfl, H⟩)) ?_
    refine .cons rfl (fun τ w H => .st rfl (.nil ⟨rfl, H⟩)) ?_
    refine .cons rfl (fun τ w H => .ld H p1 rfl rfl rfl rfl rfl rfl (.nil ⟨rfl, H⟩)) ?_
    refine .cons rfl (fun τ w H => .st rfl (.nil ⟨rfl, H⟩)) ?_
    refine .cons rfl (fun τ w H => .st rfl (.nil ⟨rfl, H⟩)) ?_
    refine .cons rfl (fun τ w H => .st rfl (.nil ⟨rfl, H⟩)) ?_
    refine .cons rfl (fun τ w H => .ixA (n := c) rfl rfl rfl rfl rfl rfl rfl hc8 rfl (.nil ⟨rfl, H⟩)) ?_
    refine .cons rfl (fun τ w H => .ld H p4 rfl rfl rfl rfl (eD_ldR hc8 (by omega)) rfl (.nil ⟨rfl, H⟩)) ?_
    refine .cons rfl (fun τ w H => .call rfl rfl rfl (refDo_ _ _ _ H imm (d.r b) (d.r c) (hd.r0 _) (hd.r1 _) (hd.r0 _)) fun _ w h => by obtain ⟨rfl, H⟩ := h; exact .nil ⟨rfl, H⟩) ?_
    refine .cons rfl (fun τ w H => .st rfl (.nil ⟨rfl, H⟩)) ?_
    refine .cons rfl (fun τ w H => .st rfl (.nil ⟨rfl, H⟩)) ?_
    refine .cons rfl (fun τ w H => .st rfl (.nil ⟨rfl, H⟩)) ?_
    refine .cons rfl (fun τ w H => .st rfl (.nil ⟨rfl, H⟩)) ?_
    refine .cons rfl (fun τ w H => .st rfl (.nil ⟨rfl, H⟩)) ?_
    refine .cons rfl (fun τ w H => .st rfl (.nil ⟨rfl, H⟩)) ?_
    refine .cons rfl (fun τ w H => .ixA (n := a) rfl rfl rfl rfl rfl rfl rfl ha8 rfl (.nil ⟨rfl, H⟩)) ?_
    refine DrawP.nil fun w H => ?_
    refine ⟨?_, fun τ => ⟨_, rfl, rfl⟩⟩
    refine AnyW.one (by kernel_rfl) (by kernel_rfl) rfl ?_
    refine OpsW.str H p4 rfl rfl rfl rfl rfl rfl (by rw [eD_len]; omega) fun w H => ?_
    rw [eD_stR ha8 (by omega)] at H
    refine OpsW.nil ?_
    refine AnyW.done ?_
    replace H := H.perm back5
    repeat' (first | (refine zA ?_; first | refine zB ?_ | refine zC H ?_ | refine zD H ?_ | refine zE H fun _ _ H => ?_ | refine zF H fun _ _ H => ?_ | refine zG H fun _ H => ?_ | refine zH H fun _ H => ?_) | (refine zI ?_; first | refine zJ ?_ | refine zK ?_ | refine zL ?_ | refine CW.seqDc ?_ | refine CW.seqDb ?_ | refine CW.seqDl ?_ | refine CW.seqDs ?_ | refine CW.seqDk ?_ | refine zN ?_ | refine zO ?_ | refine zP ?_ | refine zQ ?_ | refine zR ?_) | refine zS ?_)
    exact ⟨(p, d.setR a (wdo imm (d.r b) (d.r c)).1, Ev.of 0, s), (by (repeat (first | (with_reducible exact Agree.refl _ _) | (with_reducible refine Agree.trim (by assumption) ?_) | refine Agree.upd ?_ rfl | exact Agree.mix' | refine Agree.mixL ?_ (fun j h => by simp only [Bool.or_eq_true, Bool.and_eq_true, Nat.beq_eq, Nat.ble_eq] at h ⊢; omega) rfl))), ⟨rfl, trivial⟩, ⟨⟨by rw [← hq]; rfl, by rw [← hq]; rfl, by rw [← hq]; rfl⟩, H⟩⟩
  · skip
    repeat' (first | (refine zA ?_; first | refine zB ?_ | refine zC H ?_ | refine zD H ?_ | refine zE H fun _ _ H => ?_ | refine zF H fun _ _ H => ?_ | refine zG H fun _ H => ?_ | refine zH H fun _ H => ?_) | (refine zI ?_; first | refine zJ ?_ | refine zK ?_ | refine zL ?_ | refine CW.seqDc ?_ | refine CW.seqDb ?_ | refine CW.seqDl ?_ | refine CW.seqDs ?_ | refine CW.seqDk ?_ | refine zN ?_ | refine zO ?_ | refine zP ?_ | refine zQ ?_ | refine zR ?_) | refine zS ?_)
    exact ⟨(imm, d, Ev.of 0, s), (by (repeat (first | (with_reducible exact Agree.refl _ _) | (with_reducible refine Agree.trim (by assumption) ?_) | refine Agree.upd ?_ rfl | exact Agree.mix' | refine Agree.mixL ?_ (fun j h => by simp only [Bool.or_eq_true, Bool.and_eq_true, Nat.beq_eq, Nat.ble_eq] at h ⊢; omega) rfl))), ⟨rfl, trivial⟩, ⟨⟨by rw [← hq]; rfl, by rw [← hq]; rfl, by rw [← hq]; rfl⟩, H⟩⟩
  · skip
    have ha8 : a < 8 := by omega
    repeat' (first | (refine zA ?_; first | refine zB ?_ | refine zC H ?_ | refine zD H ?_ | refine zE H fun _ _ H => ?_ | refine zF H fun _ _ H => ?_ | refine zG H fun _ H => ?_ | refine zH H fun _ H => ?_) | (refine zI ?_; first | refine zJ ?_ | refine zK ?_ | refine zL ?_ | refine CW.seqDc ?_ | refine CW.seqDb ?_ | refine CW.seqDl ?_ | refine CW.seqDs ?_ | refine CW.seqDk ?_ | refine zN ?_ | refine zO ?_ | refine zP ?_ | refine zQ ?_ | refine zR ?_) | refine zS ?_)
    (first | refine CW.seqDraw mo H [0, 0, 2, 1, 9, 25, 63, 127, 255] fun w H => ?_ | refine CW.draw mo H [0, 0, 2, 1, 9, 25, 63, 127, 255] fun w H => ?_); refine AnyW.seg (m := 9) (by kernel_rfl) (by kernel_rfl) H rfl ?_
    repeat' (first | (refine DrawP.nil ?_; intro w H) | (refine DrawP.go ?_; first | refine DrawP.cons rfl (fun τ w H => OpsW.st rfl (OpsW.nil ⟨rfl, H⟩)) ?_ | refine DrawP.cons rfl (fun τ w H => OpsW.ld H (by (first | exact p0 | exact p1 | exact p2 | exact p3 | exact p4 | exact p5 | exact p6 | exact p7)) rfl rfl rfl rfl (by rfl) rfl (OpsW.nil ⟨rfl, H⟩)) ?_ | refine DrawP.cons rfl (fun τ w H => OpsW.ldA H (by (first | exact p0 | exact p1 | exact p2 | exact p3 | exact p4 | exact p5 | exact p6 | exact p7)) rfl rfl rfl (by rfl) rfl (OpsW.nil ⟨rfl, H⟩)) ?_ | refine DrawP.cons rfl (fun τ w H => OpsW.ixA (n := a) rfl rfl rfl rfl rfl rfl rfl ha8 rfl (OpsW.nil ⟨rfl, H⟩)) ?_ | refine DrawP.cons rfl (fun τ w H => OpsW.ld H p4 rfl rfl rfl rfl (eD_ldR ha8 (by omega)) rfl (OpsW.nil ⟨rfl, H⟩)) ?_) | refine DrawP.split (fun h => ?_) (fun h => ?_))
    refine AnyW.done ?_
    by_cases h : d.r a = 0
    · have hq2 : q = (Ev.of 0, (d.setPC p).setPC imm, s) := by rw [← hq]; show (Ev.of 0, (if (d.setPC p).r a = 0 then _ else _), s) = _; rw [if_pos (show (d.setPC p).r a = 0 from h)]
      rw [h]
      repeat' (first | (refine zA ?_; first | refine zB ?_ | refine zC H ?_ | refine zD H ?_ | refine zE H fun _ _ H => ?_ | refine zF H fun _ _ H => ?_ | refine zG H fun _ H => ?_ | refine zH H fun _ H => ?_) | (refine zI ?_; first | refine zJ ?_ | refine zK ?_ | refine zL ?_ | refine CW.seqDc ?_ | refine CW.seqDb ?_ | refine CW.seqDl ?_ | refine CW.seqDs ?_ | refine CW.seqDk ?_ | refine zN ?_ | refine zO ?_ | refine zP ?_ | refine zQ ?_ | refine zR ?_) | refine zS ?_)
      exact ⟨(imm, d, Ev.of 0, s), (by (repeat (first | (with_reducible exact Agree.refl _ _) | (with_reducible refine Agree.trim (by assumption) ?_) | refine Agree.upd ?_ rfl | exact Agree.mix' | refine Agree.mixL ?_ (fun j h => by simp only [Bool.or_eq_true, Bool.and_eq_true, Nat.beq_eq, Nat.ble_eq] at h ⊢; omega) rfl))), ⟨rfl, trivial⟩, ⟨⟨by rw [hq2], by rw [hq2], by rw [hq2]; rfl⟩, H⟩⟩
    · have hq2 : q = (Ev.of 0, d.setPC p, s) := by rw [← hq]; show (Ev.of 0, (if (d.setPC p).r a = 0 then _ else _), s) = _; rw [if_neg (show ¬ (d.setPC p).r a = 0 from h)]
      refine CW.cond rfl (fun h2 => absurd h2 (by simp [h])) (fun _ => ?_)
      repeat' (first | (refine zA ?_; first | refine zB ?_ | refine zC H ?_ | refine zD H ?_ | refine zE H fun _ _ H => ?_ | refine zF H fun _ _ H => ?_ | refine zG H fun _ H => ?_ | refine zH H fun _ H => ?_) | (refine zI ?_; first | refine zJ ?_ | refine zK ?_ | refine zL ?_ | refine CW.seqDc ?_ | refine CW.seqDb ?_ | refine CW.seqDl ?_ | refine CW.seqDs ?_ | refine CW.seqDk ?_ | refine zN ?_ | refine zO ?_ | refine zP ?_ | refine zQ ?_ | refine zR ?_) | refine zS ?_)
      exact ⟨(p, d, Ev.of 0, s), (by (repeat (first | (with_reducible exact Agree.refl _ _) | (with_reducible refine Agree.trim (by assumption) ?_) | refine Agree.upd ?_ rfl | exact Agree.mix' | refine Agree.mixL ?_ (fun j h => by simp only [Bool.or_eq_true, Bool.and_eq_true, Nat.beq_eq, Nat.ble_eq] at h ⊢; omega) rfl))), ⟨rfl, trivial⟩, ⟨⟨by rw [hq2], by rw [hq2], by rw [hq2]; rfl⟩, H⟩⟩
  · skip
    have ha8 : a < 8 := by omega
    have hb8 : b < 8 := by omega
    obtain ⟨t, ht⟩ : ∃ t, t = (d.r b + imm) % 4294967296 := ⟨_, rfl⟩
    have ht0 : 0 ≤ t := by omega
    have ht1 : t < 4294967296 := by omega
    repeat' (first | (refine zA ?_; first | refine zB ?_ | refine zC H ?_ | refine zD H ?_ | refine zE H fun _ _ H => ?_ | refine zF H fun _ _ H => ?_ | refine zG H fun _ H => ?_ | refine zH H fun _ H => ?_) | (refine zI ?_; first | refine zJ ?_ | refine zK ?_ | refine zL ?_ | refine CW.seqDc ?_ | refine CW.seqDb ?_ | refine CW.seqDl ?_ | refine CW.seqDs ?_ | refine CW.seqDk ?_ | refine zN ?_ | refine zO ?_ | refine zP ?_ | refine zQ ?_ | refine zR ?_) | refine zS ?_)
    (first | refine CW.seqDraw mo H [0, 0, 2, 1, 9, 25, 63, 127, 0, 511, 1023] fun w H => ?_ | refine CW.draw mo H [0, 0, 2, 1, 9, 25, 63, 127, 0, 511, 1023] fun w H => ?_); refine AnyW.seg (m := 11) (by kernel_rfl) (by kernel_rfl) H rfl ?_
    repeat' (first | (refine DrawP.nil ?_; intro w H) | (refine DrawP.go ?_; first | refine DrawP.cons rfl (fun τ w H => OpsW.st rfl (OpsW.nil ⟨rfl, H⟩)) ?_ | refine DrawP.cons rfl (fun τ w H => OpsW.ld H (by (first | exact p0 | exact p1 | exact p2 | exact p3 | exact p4 | exact p5 | exact p6 | exact p7)) rfl rfl rfl rfl (by rfl) rfl (OpsW.nil ⟨rfl, H⟩)) ?_ | refine DrawP.cons rfl (fun τ w H => OpsW.ldA H (by (first | exact p0 | exact p1 | exact p2 | exact p3 | exact p4 | exact p5 | exact p6 | exact p7)) rfl rfl rfl (by rfl) rfl (OpsW.nil ⟨rfl, H⟩)) ?_ | refine DrawP.cons rfl (fun τ w H => OpsW.ixA (n := b) rfl rfl rfl rfl rfl rfl rfl hb8 rfl (OpsW.nil ⟨rfl, H⟩)) ?_ | refine DrawP.cons rfl (fun τ w H => OpsW.ld H p4 rfl rfl rfl rfl (eD_ldR hb8 (by omega)) rfl (OpsW.nil ⟨rfl, H⟩)) ?_) | refine DrawP.split (fun h => ?_) (fun h => ?_))
    rw [wrapu32, ← ht]
    refine AnyW.done ?_
    repeat' (first | (refine zA ?_; first | refine zB ?_ | refine zC H ?_ | refine zD H ?_ | refine zE H fun _ _ H => ?_ | refine zF H fun _ _ H => ?_ | refine zG H fun _ H => ?_ | refine zH H fun _ H => ?_) | (refine zI ?_; first | refine zJ ?_ | refine zK ?_ | refine zL ?_ | refine CW.seqDc ?_ | refine CW.seqDb ?_ | refine CW.seqDl ?_ | refine CW.seqDs ?_ | refine CW.seqDk ?_ | refine zN ?_ | refine zO ?_ | refine zP ?_ | refine zQ ?_ | refine zR ?_) | refine zS ?_)
    refine OpsW.ldA H p4 rfl rfl rfl (eD_ld91 d) rfl ?_
    repeat' (first | (refine zA ?_; first | refine zB ?_ | refine zC H ?_ | refine zD H ?_ | refine zE H fun _ _ H => ?_ | refine zF H fun _ _ H => ?_ | refine zG H fun _ H => ?_ | refine zH H fun _ H => ?_) | (refine zI ?_; first | refine zJ ?_ | refine zK ?_ | refine zL ?_ | refine CW.seqDc ?_ | refine CW.seqDb ?_ | refine CW.seqDl ?_ | refine CW.seqDs ?_ | refine CW.seqDk ?_ | refine zN ?_ | refine zO ?_ | refine zP ?_ | refine zQ ?_ | refine zR ?_) | refine zS ?_)
    refine OpsW.call rfl rfl rfl (via H (by exact p3) fun H => sy_load H d.mem t hd.m0 hm.d0 ht0 ht1) ?_
    have hq1 : q = (if (s.load d.mem t).2 ≠ 0 then (Ev.bad (s.load d.mem t).2 t, d.setPC p, s) else (Ev.of 0, (d.setPC p).setR a (s.load d.mem t).1, s)) := by
      rw [← hq, ht]; rfl
    generalize s.load d.mem t = y at *
    obtain ⟨x, f⟩ := y
    dsimp only at hq1 ⊢
    rintro _ w ⟨rfl, H⟩
    repeat' (first | (refine zA ?_; first | refine zB ?_ | refine zC H ?_ | refine zD H ?_ | refine zE H fun _ _ H => ?_ | refine zF H fun _ _ H => ?_ | refine zG H fun _ H => ?_ | refine zH H fun _ H => ?_) | (refine zI ?_; first | refine zJ ?_ | refine zK ?_ | refine zL ?_ | refine CW.seqDc ?_ | refine CW.seqDb ?_ | refine CW.seqDl ?_ | refine CW.seqDs ?_ | refine CW.seqDk ?_ | refine zN ?_ | refine zO ?_ | refine zP ?_ | refine zQ ?_ | refine zR ?_) | refine zS ?_)
    by_cases hf : f = 0
    case neg =>
      have hq2 : q = (Ev.bad f t, d.setPC p, s) := by rw [hq1, if_pos hf]
      refine CW.cond rfl (fun h => ?_) (fun h => absurd h (by simp [hf]))
      refine CW.seqR ?_
      iterate 2 (refine zA ?_; refine zB ?_)
      refine OpsW.bld rfl rfl (bad8_bld f t) rfl ?_
      refine OpsW.strF H p2 rfl rfl rfl (Ev.scl _) rfl (Ev.len _) (by rw [Ev.len, Ev.len]; decide) fun w H => ?_
      rw [splice_full (by rw [Ev.len, Ev.len])] at H
      repeat' (first | (refine zA ?_; first | refine zB ?_ | refine zC H ?_ | refine zD H ?_ | refine zE H fun _ _ H => ?_ | refine zF H fun _ _ H => ?_ | refine zG H fun _ H => ?_ | refine zH H fun _ H => ?_) | (refine zI ?_; first | refine zJ ?_ | refine zK ?_ | refine zL ?_ | refine CW.seqDc ?_ | refine CW.seqDb ?_ | refine CW.seqDl ?_ | refine CW.seqDs ?_ | refine CW.seqDk ?_ | refine zN ?_ | refine zO ?_ | refine zP ?_ | refine zQ ?_ | refine zR ?_) | refine zS ?_)
      refine ret1c (resA H p0 rfl rfl (Ev.all _)) ⟨by rw [hq2], ?_⟩
      rw [hq2]
      exact H.d3
    subst hf
    have hq2 : q = (Ev.of 0, (d.setPC p).setR a x, s) := by rw [hq1, if_neg (fun h => h rfl)]
    repeat' (first | (refine zA ?_; first | refine zB ?_ | refine zC H ?_ | refine zD H ?_ | refine zE H fun _ _ H => ?_ | refine zF H fun _ _ H => ?_ | refine zG H fun _ H => ?_ | refine zH H fun _ H => ?_) | (refine zI ?_; first | refine zJ ?_ | refine zK ?_ | refine zL ?_ | refine CW.seqDc ?_ | refine CW.seqDb ?_ | refine CW.seqDl ?_ | refine CW.seqDs ?_ | refine CW.seqDk ?_ | refine zN ?_ | refine zO ?_ | refine zP ?_ | refine zQ ?_ | refine zR ?_) | refine zS ?_)
    (first | refine CW.seqDraw mo H [0, 0, 2, 0, 1, 17, 49, 127, 255] fun w H => ?_ | refine CW.draw mo H [0, 0, 2, 0, 1, 17, 49, 127, 255] fun w H => ?_); refine AnyW.seg (m := 8) (by kernel_rfl) (by kernel_rfl) H rfl ?_
    repeat' (first | (refine DrawP.nil ?_; intro w H) | (refine DrawP.go ?_; first | refine DrawP.cons rfl (fun τ w H => OpsW.st rfl (OpsW.nil ⟨rfl, H⟩)) ?_ | refine DrawP.cons rfl (fun τ w H => OpsW.ld H (by (first | exact p0 | exact p1 | exact p2 | exact p3 | exact p4 | exact p5 | exact p6 | exact p7)) rfl rfl rfl rfl (by rfl) rfl (OpsW.nil ⟨rfl, H⟩)) ?_ | refine DrawP.cons rfl (fun τ w H => OpsW.ldA H (by (first | exact p0 | exact p1 | exact p2 | exact p3 | exact p4 | exact p5 | exact p6 | exact p7)) rfl rfl rfl (by rfl) rfl (OpsW.nil ⟨rfl, H⟩)) ?_ | refine DrawP.cons rfl (fun τ w H => OpsW.ixA (n := a) rfl rfl rfl rfl rfl rfl rfl ha8 rfl (OpsW.nil ⟨rfl, H⟩)) ?_) | refine DrawP.split (fun h => ?_) (fun h => ?_))
    refine AnyW.one (by kernel_rfl) (by kernel_rfl) rfl ?_
    refine OpsW.str H p4 rfl rfl rfl rfl rfl rfl (by rw [eD_len]; omega) fun w H => ?_
    rw [eD_stR ha8 (by omega)] at H
    refine OpsW.nil ?_
    refine AnyW.done ?_
    replace H := H.perm back5
    repeat' (first | (refine zA ?_; first | refine zB ?_ | refine zC H ?_ | refine zD H ?_ | refine zE H fun _ _ H => ?_ | refine zF H fun _ _ H => ?_ | refine zG H fun _ H => ?_ | refine zH H fun _ H => ?_) | (refine zI ?_; first | refine zJ ?_ | refine zK ?_ | refine zL ?_ | refine CW.seqDc ?_ | refine CW.seqDb ?_ | refine CW.seqDl ?_ | refine CW.seqDs ?_ | refine CW.seqDk ?_ | refine zN ?_ | refine zO ?_ | refine zP ?_ | refine zQ ?_ | refine zR ?_) | refine zS ?_)
    exact ⟨(p, d.setR a x, Ev.of 0, s), (by (repeat (first | (with_reducible exact Agree.refl _ _) | (with_reducible refine Agree.trim (by assumption) ?_) | refine Agree.upd ?_ rfl | exact Agree.mix' | refine Agree.mixL ?_ (fun j h => by simp only [Bool.or_eq_true, Bool.and_eq_true, Nat.beq_eq, Nat.ble_eq] at h ⊢; omega) rfl))), ⟨rfl, trivial⟩, ⟨⟨by rw [hq2], by rw [hq2], by rw [hq2]; rfl⟩, H⟩⟩
  · skip
    have ha8 : a < 8 := by omega
    have hb8 : b < 8 := by omega
    obtain ⟨t, ht⟩ : ∃ t, t = (d.r b + imm) % 4294967296 := ⟨_, rfl⟩
    have ht0 : 0 ≤ t := by omega
    have ht1 : t < 4294967296 := by omega
    repeat' (first | (refine zA ?_; first | refine zB ?_ | refine zC H ?_ | refine zD H ?_ | refine zE H fun _ _ H => ?_ | refine zF H fun _ _ H => ?_ | refine zG H fun _ H => ?_ | refine zH H fun _ H => ?_) | (refine zI ?_; first | refine zJ ?_ | refine zK ?_ | refine zL ?_ | refine CW.seqDc ?_ | refine CW.seqDb ?_ | refine CW.seqDl ?_ | refine CW.seqDs ?_ | refine CW.seqDk ?_ | refine zN ?_ | refine zO ?_ | refine zP ?_ | refine zQ ?_ | refine zR ?_) | refine zS ?_)
    (first | refine CW.seqDraw mo H [0, 0, 2, 1, 9, 25, 63, 127, 0, 511, 1023] fun w H => ?_ | refine CW.draw mo H [0, 0, 2, 1, 9, 25, 63, 127, 0, 511, 1023] fun w H => ?_); refine AnyW.seg (m := 11) (by kernel_rfl) (by kernel_rfl) H rfl ?_
    repeat' (first | (refine DrawP.nil ?_; intro w H) | (refine DrawP.go ?_; first | refine DrawP.cons rfl (fun τ w H => OpsW.st rfl (OpsW.nil ⟨rfl, H⟩)) ?_ | refine DrawP.cons rfl (fun τ w H => OpsW.ld H (by (first | exact p0 | exact p1 | exact p2 | exact p3 | exact p4 | exact p5 | exact p6 | exact p7)) rfl rfl rfl rfl (by rfl) rfl (OpsW.nil ⟨rfl, H⟩)) ?_ | refine DrawP.cons rfl (fun τ w H => OpsW.ldA H (by (first | exact p0 | exact p1 | exact p2 | exact p3 | exact p4 | exact p5 | exact p6 | exact p7)) rfl rfl rfl (by rfl) rfl (OpsW.nil ⟨rfl, H⟩)) ?_ | refine DrawP.cons rfl (fun τ w H => OpsW.ixA (n := b) rfl rfl rfl rfl rfl rfl rfl hb8 rfl (OpsW.nil ⟨rfl, H⟩)) ?_ | refine DrawP.cons rfl (fun τ w H => OpsW.ld H p4 rfl rfl rfl rfl (eD_ldR hb8 (by omega)) rfl (OpsW.nil ⟨rfl, H⟩)) ?_) | refine DrawP.split (fun h => ?_) (fun h => ?_))
    rw [wrapu32, ← ht]
    refine AnyW.done ?_
    repeat' (first | (refine zA ?_; first | refine zB ?_ | refine zC H ?_ | refine zD H ?_ | refine zE H fun _ _ H => ?_ | refine zF H fun _ _ H => ?_ | refine zG H fun _ H => ?_ | refine zH H fun _ H => ?_) | (refine zI ?_; first | refine zJ ?_ | refine zK ?_ | refine zL ?_ | refine CW.seqDc ?_ | refine CW.seqDb ?_ | refine CW.seqDl ?_ | refine CW.seqDs ?_ | refine CW.seqDk ?_ | refine zN ?_ | refine zO ?_ | refine zP ?_ | refine zQ ?_ | refine zR ?_) | refine zS ?_)
    have hq1 : q = (if s.save d.mem t ≠ 0 then (Ev.bad (s.save d.mem t) t, d.setPC p, s) else (Ev.of 0, d.setPC p, s.saveS d.mem t (d.r a))) := by
      rw [← hq, ht]; rfl
    have hno := @saveS_no' s d.mem t (d.r a)
    (first | refine CW.seqDraw mo H [0, 0, 2, 6, 14, 0, 0, 0, 128, 64, 576, 1600, 4032, 8128, 16383, 32767] fun w H => ?_ | refine CW.draw mo H [0, 0, 2, 6, 14, 0, 0, 0, 128, 64, 576, 1600, 4032, 8128, 16383, 32767] fun w H => ?_); refine AnyW.seg (m := 14) (by kernel_rfl) (by kernel_rfl) H rfl ?_
    repeat' (first | (refine DrawP.nil ?_; intro w H) | (refine DrawP.go ?_; first | refine DrawP.cons rfl (fun τ w H => OpsW.st rfl (OpsW.nil ⟨rfl, H⟩)) ?_ | refine DrawP.cons rfl (fun τ w H => OpsW.ld H (by (first | exact p0 | exact p1 | exact p2 | exact p3 | exact p4 | exact p5 | exact p6 | exact p7)) rfl rfl rfl rfl (by rfl) rfl (OpsW.nil ⟨rfl, H⟩)) ?_ | refine DrawP.cons rfl (fun τ w H => OpsW.ldA H (by (first | exact p0 | exact p1 | exact p2 | exact p3 | exact p4 | exact p5 | exact p6 | exact p7)) rfl rfl rfl (by rfl) rfl (OpsW.nil ⟨rfl, H⟩)) ?_ | refine DrawP.cons rfl (fun τ w H => OpsW.ixA (n := a) rfl rfl rfl rfl rfl rfl rfl ha8 rfl (OpsW.nil ⟨rfl, H⟩)) ?_ | refine DrawP.cons rfl (fun τ w H => OpsW.ld H p4 rfl rfl rfl rfl (eD_ldR ha8 (by omega)) rfl (OpsW.nil ⟨rfl, H⟩)) ?_ | refine DrawP.cons rfl (fun τ w H => OpsW.ldA H p4 rfl rfl rfl (eD_ld91 d) rfl (OpsW.nil ⟨rfl, H⟩)) ?_) | refine DrawP.split (fun h => ?_) (fun h => ?_))
    refine AnyW.one (by kernel_rfl) (by kernel_rfl) rfl ?_
    refine OpsW.call rfl rfl rfl (sy_save (H.perm p3) d.mem t (d.r a) hd.m0 hm.d0 ht0 ht1) ?_
    rintro _ w ⟨rfl, H⟩
    replace H := H.perm back4
    generalize s.saveS d.mem t (d.r a) = s' at *
    generalize s.save d.mem t = f at *
    refine OpsW.nil ?_
    refine AnyW.one (by kernel_rfl) (by kernel_rfl) rfl ?_
    (first | (refine zA ?_; first | refine zB ?_ | refine zC H ?_ | refine zD H ?_ | refine zE H fun _ _ H => ?_ | refine zF H fun _ _ H => ?_ | refine zG H fun _ H => ?_ | refine zH H fun _ H => ?_) | (refine zI ?_; first | refine zJ ?_ | refine zK ?_ | refine zL ?_ | refine zM ?_ | refine zN ?_ | refine zO ?_ | refine zP ?_ | refine zQ ?_ | refine zR ?_) | refine zS ?_)
    refine OpsW.nil ?_
    refine AnyW.done ?_
    repeat' (first | (refine zA ?_; first | refine zB ?_ | refine zC H ?_ | refine zD H ?_ | refine zE H fun _ _ H => ?_ | refine zF H fun _ _ H => ?_ | refine zG H fun _ H => ?_ | refine zH H fun _ H => ?_) | (refine zI ?_; first | refine zJ ?_ | refine zK ?_ | refine zL ?_ | refine CW.seqDc ?_ | refine CW.seqDb ?_ | refine CW.seqDl ?_ | refine CW.seqDs ?_ | refine CW.seqDk ?_ | refine zN ?_ | refine zO ?_ | refine zP ?_ | refine zQ ?_ | refine zR ?_) | refine zS ?_)
    by_cases hf : f = 0
    case neg =>
      rw [hno hf] at H
      have hq2 : q = (Ev.bad f t, d.setPC p, s) := by rw [hq1, if_pos hf]
      refine CW.cond rfl (fun h => ?_) (fun h => absurd h (by simp [hf]))
      refine CW.seqR ?_
      iterate 2 (refine zA ?_; refine zB ?_)
      refine OpsW.bld rfl rfl (bad8_bld f t) rfl ?_
      refine OpsW.strF H p2 rfl rfl rfl (Ev.scl _) rfl (Ev.len _) (by rw [Ev.len, Ev.len]; decide) fun w H => ?_
      rw [splice_full (by rw [Ev.len, Ev.len])] at H
      repeat' (first | (refine zA ?_; first | refine zB ?_ | refine zC H ?_ | refine zD H ?_ | refine zE H fun _ _ H => ?_ | refine zF H fun _ _ H => ?_ | refine zG H fun _ H => ?_ | refine zH H fun _ H => ?_) | (refine zI ?_; first | refine zJ ?_ | refine zK ?_ | refine zL ?_ | refine CW.seqDc ?_ | refine CW.seqDb ?_ | refine CW.seqDl ?_ | refine CW.seqDs ?_ | refine CW.seqDk ?_ | refine zN ?_ | refine zO ?_ | refine zP ?_ | refine zQ ?_ | refine zR ?_) | refine zS ?_)
      refine ret1c (resA H p0 rfl rfl (Ev.all _)) ⟨by rw [hq2], ?_⟩
      rw [hq2]
      exact H.d3
    subst hf
    have hq2 : q = (Ev.of 0, d.setPC p, s') := by rw [hq1, if_neg (fun h => h rfl)]
    repeat' (first | (refine zA ?_; first | refine zB ?_ | refine zC H ?_ | refine zD H ?_ | refine zE H fun _ _ H => ?_ | refine zF H fun _ _ H => ?_ | refine zG H fun _ H => ?_ | refine zH H fun _ H => ?_) | (refine zI ?_; first | refine zJ ?_ | refine zK ?_ | refine zL ?_ | refine CW.seqDc ?_ | refine CW.seqDb ?_ | refine CW.seqDl ?_ | refine CW.seqDs ?_ | refine CW.seqDk ?_ | refine zN ?_ | refine zO ?_ | refine zP ?_ | refine zQ ?_ | refine zR ?_) | refine zS ?_)
    exact ⟨(p, d, Ev.of 0, s'), (by (repeat (first | (with_reducible exact Agree.refl _ _) | (with_reducible refine Agree.trim (by assumption) ?_) | refine Agree.upd ?_ rfl | exact Agree.mix' | refine Agree.mixL ?_ (fun j h => by simp only [Bool.or_eq_true, Bool.and_eq_true, Nat.beq_eq, Nat.ble_eq] at h ⊢; omega) rfl))), ⟨rfl, trivial⟩, ⟨⟨by rw [hq2], by rw [hq2], by rw [hq2]; rfl⟩, H⟩⟩
  · skip
    have ha16 : a < 16 := by omega
    have hb16 : b < 16 := by omega
    repeat' (first | (refine zA ?_; first | refine zB ?_ | refine zC H ?_ | refine zD H ?_ | refine zE H fun _ _ H => ?_ | refine zF H fun _ _ H => ?_ | refine zG H fun _ H => ?_ | refine zH H fun _ H => ?_) | (refine zI ?_; first | refine zJ ?_ | refine zK ?_ | refine zL ?_ | refine CW.seqDc ?_ | refine CW.seqDb ?_ | refine CW.seqDl ?_ | refine CW.seqDs ?_ | refine CW.seqDk ?_ | refine zN ?_ | refine zO ?_ | refine zP ?_ | refine zQ ?_ | refine zR ?_) | refine zS ?_)
    (first | refine CW.seqDraw mo H [0, 0, 2, 0, 0, 16, 8, 72, 248, 504, 1, 1025, 4095, 8191] fun w H => ?_ | refine CW.draw mo H [0, 0, 2, 0, 0, 16, 8, 72, 248, 504, 1, 1025, 4095, 8191] fun w H => ?_); refine AnyW.seg (m := 13) (by kernel_rfl) (by kernel_rfl) H rfl ?_
    repeat' (first | (refine DrawP.nil ?_; intro w H) | (refine DrawP.go ?_; first | refine DrawP.cons rfl (fun τ w H => OpsW.st rfl (OpsW.nil ⟨rfl, H⟩)) ?_ | refine DrawP.cons rfl (fun τ w H => OpsW.ld H (by (first | exact p0 | exact p1 | exact p2 | exact p3 | exact p4 | exact p5 | exact p6 | exact p7)) rfl rfl rfl rfl (by rfl) rfl (OpsW.nil ⟨rfl, H⟩)) ?_ | refine DrawP.cons rfl (fun τ w H => OpsW.ldA H (by (first | exact p0 | exact p1 | exact p2 | exact p3 | exact p4 | exact p5 | exact p6 | exact p7)) rfl rfl rfl (by rfl) rfl (OpsW.nil ⟨rfl, H⟩)) ?_ | refine DrawP.cons rfl (fun τ w H => OpsW.ixA (n := a) rfl rfl rfl rfl rfl rfl rfl ha16 rfl (OpsW.nil ⟨rfl, H⟩)) ?_ | refine DrawP.cons rfl (fun τ w H => OpsW.ixA (n := b) rfl rfl rfl rfl rfl rfl rfl hb16 rfl (OpsW.nil ⟨rfl, H⟩)) ?_ | refine DrawP.cons rfl (fun τ w H => OpsW.ldA H p4 rfl rfl rfl (eD_ldK hb16 (by omega)) rfl (OpsW.nil ⟨rfl, H⟩)) ?_) | refine DrawP.split (fun h => ?_) (fun h => ?_))
    refine AnyW.one (by kernel_rfl) (by kernel_rfl) rfl ?_
    refine OpsW.strF (vs := (d.k b).l) H p4 rfl rfl rfl rfl rfl rfl (by rw [eD_len]; show _ + 5 ≤ 108; omega) fun w H => ?_
    rw [eD_stK (n := a) (by omega) (by omega)] at H
    refine OpsW.nil ?_
    refine AnyW.done ?_
    replace H := H.perm back5
    repeat' (first | (refine zA ?_; first | refine zB ?_ | refine zC H ?_ | refine zD H ?_ | refine zE H fun _ _ H => ?_ | refine zF H fun _ _ H => ?_ | refine zG H fun _ H => ?_ | refine zH H fun _ H => ?_) | (refine zI ?_; first | refine zJ ?_ | refine zK ?_ | refine zL ?_ | refine CW.seqDc ?_ | refine CW.seqDb ?_ | refine CW.seqDl ?_ | refine CW.seqDs ?_ | refine CW.seqDk ?_ | refine zN ?_ | refine zO ?_ | refine zP ?_ | refine zQ ?_ | refine zR ?_) | refine zS ?_)
    exact ⟨(p, d.setK a (d.k b), Ev.of 0, s), (by (repeat (first | (with_reducible exact Agree.refl _ _) | (with_reducible refine Agree.trim (by assumption) ?_) | refine Agree.upd ?_ rfl | exact Agree.mix' | refine Agree.mixL ?_ (fun j h => by simp only [Bool.or_eq_true, Bool.and_eq_true, Nat.beq_eq, Nat.ble_eq] at h ⊢; omega) rfl))), ⟨rfl, trivial⟩, ⟨⟨by rw [← hq]; rfl, by rw [← hq]; rfl, by rw [← hq]; rfl⟩, H⟩⟩
  · skip
    have ha16 : a < 16 := by omega
    have hb8 : b < 8 := by omega
    repeat' (first | (refine zA ?_; first | refine zB ?_ | refine zC H ?_ | refine zD H ?_ | refine zE H fun _ _ H => ?_ | refine zF H fun _ _ H => ?_ | refine zG H fun _ H => ?_ | refine zH H fun _ H => ?_) | (refine zI ?_; first | refine zJ ?_ | refine zK ?_ | refine zL ?_ | refine CW.seqDc ?_ | refine CW.seqDb ?_ | refine CW.seqDl ?_ | refine CW.seqDs ?_ | refine CW.seqDk ?_ | refine zN ?_ | refine zO ?_ | refine zP ?_ | refine zQ ?_ | refine zR ?_) | refine zS ?_)
    (first | refine CW.seqDraw mo H [0, 0, 2, 0, 0, 16, 8, 72, 200, 504, 1016, 2040, 1, 4097, 16383, 32767] fun w H => ?_ | refine CW.draw mo H [0, 0, 2, 0, 0, 16, 8, 72, 200, 504, 1016, 2040, 1, 4097, 16383, 32767] fun w H => ?_); refine AnyW.seg (m := 15) (by kernel_rfl) (by kernel_rfl) H rfl ?_
    repeat' (first | (refine DrawP.nil ?_; intro w H) | (refine DrawP.go ?_; first | refine DrawP.cons rfl (fun τ w H => OpsW.st rfl (OpsW.nil ⟨rfl, H⟩)) ?_ | refine DrawP.cons rfl (fun τ w H => OpsW.ld H (by (first | exact p0 | exact p1 | exact p2 | exact p3 | exact p4 | exact p5 | exact p6 | exact p7)) rfl rfl rfl rfl (by rfl) rfl (OpsW.nil ⟨rfl, H⟩)) ?_ | refine DrawP.cons rfl (fun τ w H => OpsW.ldA H (by (first | exact p0 | exact p1 | exact p2 | exact p3 | exact p4 | exact p5 | exact p6 | exact p7)) rfl rfl rfl (by rfl) rfl (OpsW.nil ⟨rfl, H⟩)) ?_ | refine DrawP.cons rfl (fun τ w H => OpsW.ixA (n := a) rfl rfl rfl rfl rfl rfl rfl ha16 rfl (OpsW.nil ⟨rfl, H⟩)) ?_ | refine DrawP.cons rfl (fun τ w H => OpsW.ixA (n := b) rfl rfl rfl rfl rfl rfl rfl hb8 rfl (OpsW.nil ⟨rfl, H⟩)) ?_ | refine DrawP.cons rfl (fun τ w H => OpsW.ld H p4 rfl rfl rfl rfl (eD_ldR hb8 (by omega)) rfl (OpsW.nil ⟨rfl, H⟩)) ?_) | refine DrawP.split (fun h => ?_) (fun h => ?_))
    refine AnyW.one (by kernel_rfl) (by kernel_rfl) rfl ?_
    refine OpsW.strF (vs := K.l ⟨1, 0, 0, 0, d.r b⟩) H p4 rfl rfl rfl rfl rfl rfl (by rw [eD_len]; show _ + 5 ≤ 108; omega) fun w H => ?_
    rw [eD_stK (n := a) (by omega) (by omega)] at H
    refine OpsW.nil ?_
    refine AnyW.done ?_
    replace H := H.perm back5
    repeat' (first | (refine zA ?_; first | refine zB ?_ | refine zC H ?_ | refine zD H ?_ | refine zE H fun _ _ H => ?_ | refine zF H fun _ _ H => ?_ | refine zG H fun _ H => ?_ | refine zH H fun _ H => ?_) | (refine zI ?_; first | refine zJ ?_ | refine zK ?_ | refine zL ?_ | refine CW.seqDc ?_ | refine CW.seqDb ?_ | refine CW.seqDl ?_ | refine CW.seqDs ?_ | refine CW.seqDk ?_ | refine zN ?_ | refine zO ?_ | refine zP ?_ | refine zQ ?_ | refine zR ?_) | refine zS ?_)
    exact ⟨(p, d.setK a ⟨1, 0, 0, 0, d.r b⟩, Ev.of 0, s), (by (repeat (first | (with_reducible exact Agree.refl _ _) | (with_reducible refine Agree.trim (by assumption) ?_) | refine Agree.upd ?_ rfl | exact Agree.mix' | refine Agree.mixL ?_ (fun j h => by simp only [Bool.or_eq_true, Bool.and_eq_true, Nat.beq_eq, Nat.ble_eq] at h ⊢; omega) rfl))), ⟨rfl, trivial⟩, ⟨⟨by rw [← hq]; rfl, by rw [← hq]; rfl, by rw [← hq]; rfl⟩, H⟩⟩
  · skip
    have ha8 : a < 8 := by omega
    have hb16 : b < 16 := by omega
    repeat' (first | (refine zA ?_; first | refine zB ?_ | refine zC H ?_ | refine zD H ?_ | refine zE H fun _ _ H => ?_ | refine zF H fun _ _ H => ?_ | refine zG H fun _ H => ?_ | refine zH H fun _ H => ?_) | (refine zI ?_; first | refine zJ ?_ | refine zK ?_ | refine zL ?_ | refine CW.seqDc ?_ | refine CW.seqDb ?_ | refine CW.seqDl ?_ | refine CW.seqDs ?_ | refine CW.seqDk ?_ | refine zN ?_ | refine zO ?_ | refine zP ?_ | refine zQ ?_ | refine zR ?_) | refine zS ?_)
    (first | refine CW.seqDraw mo H [0, 0, 2, 1, 9, 25, 63, 127] fun w H => ?_ | refine CW.draw mo H [0, 0, 2, 1, 9, 25, 63, 127] fun w H => ?_); refine AnyW.seg (m := 7) (by kernel_rfl) (by kernel_rfl) H rfl ?_
    repeat' (first | (refine DrawP.nil ?_; intro w H) | (refine DrawP.go ?_; first | refine DrawP.cons rfl (fun τ w H => OpsW.st rfl (OpsW.nil ⟨rfl, H⟩)) ?_ | refine DrawP.cons rfl (fun τ w H => OpsW.ld H (by (first | exact p0 | exact p1 | exact p2 | exact p3 | exact p4 | exact p5 | exact p6 | exact p7)) rfl rfl rfl rfl (by rfl) rfl (OpsW.nil ⟨rfl, H⟩)) ?_ | refine DrawP.cons rfl (fun τ w H => OpsW.ldA H (by (first | exact p0 | exact p1 | exact p2 | exact p3 | exact p4 | exact p5 | exact p6 | exact p7)) rfl rfl rfl (by rfl) rfl (OpsW.nil ⟨rfl, H⟩)) ?_ | refine DrawP.cons rfl (fun τ w H => OpsW.ixA (n := a) rfl rfl rfl rfl rfl rfl rfl ha8 rfl (OpsW.nil ⟨rfl, H⟩)) ?_) | refine DrawP.split (fun h => ?_) (fun h => ?_))
    refine AnyW.one (by kernel_rfl) (by kernel_rfl) rfl ?_
    refine OpsW.str H p4 rfl rfl rfl rfl rfl rfl (by rw [eD_len]; omega) fun w H => ?_
    rw [eD_stR ha8 (by omega)] at H
    refine OpsW.nil ?_
    refine AnyW.done ?_
    replace H := H.perm back5
    repeat' (first | (refine zA ?_; first | refine zB ?_ | refine zC H ?_ | refine zD H ?_ | refine zE H fun _ _ H => ?_ | refine zF H fun _ _ H => ?_ | refine zG H fun _ H => ?_ | refine zH H fun _ H => ?_) | (refine zI ?_; first | refine zJ ?_ | refine zK ?_ | refine zL ?_ | refine CW.seqDc ?_ | refine CW.seqDb ?_ | refine CW.seqDl ?_ | refine CW.seqDs ?_ | refine CW.seqDk ?_ | refine zN ?_ | refine zO ?_ | refine zP ?_ | refine zQ ?_ | refine zR ?_) | refine zS ?_)
    (first | refine CW.seqDraw mo H [0, 0, 2, 1, 9, 31, 63, 127, 255] fun w H => ?_ | refine CW.draw mo H [0, 0, 2, 1, 9, 31, 63, 127, 255] fun w H => ?_); refine AnyW.seg (m := 9) (by kernel_rfl) (by kernel_rfl) H rfl ?_
    repeat' (first | (refine DrawP.nil ?_; intro w H) | (refine DrawP.go ?_; first | refine DrawP.cons rfl (fun τ w H => OpsW.st rfl (OpsW.nil ⟨rfl, H⟩)) ?_ | refine DrawP.cons rfl (fun τ w H => OpsW.ld H (by (first | exact p0 | exact p1 | exact p2 | exact p3 | exact p4 | exact p5 | exact p6 | exact p7)) rfl rfl rfl rfl (by rfl) rfl (OpsW.nil ⟨rfl, H⟩)) ?_ | refine DrawP.cons rfl (fun τ w H => OpsW.ldA H (by (first | exact p0 | exact p1 | exact p2 | exact p3 | exact p4 | exact p5 | exact p6 | exact p7)) rfl rfl rfl (by rfl) rfl (OpsW.nil ⟨rfl, H⟩)) ?_ | refine DrawP.cons rfl (fun τ w H => OpsW.ixA (n := b) rfl rfl rfl rfl rfl rfl rfl hb16 rfl (OpsW.nil ⟨rfl, H⟩)) ?_ | refine DrawP.cons rfl (fun τ w H => OpsW.ld H p4 rfl rfl rfl rfl (eD_ldKk hb16 (by omega)) rfl (OpsW.nil ⟨rfl, H⟩)) ?_) | refine DrawP.split (fun h => ?_) (fun h => ?_))
    refine AnyW.done ?_
    by_cases hk1 : (d.k b).kind = 1
    · have hq2 : q = (Ev.of 0, (d.setPC p).setR a (d.k b).data, s) := by rw [← hq]; show (Ev.of 0, (d.setPC p).setR a (if (d.k b).kind = 1 then (d.k b).data else 0), s) = _; rw [if_pos hk1]
      refine CW.cond rfl (fun _ => ?_) (fun h => absurd h (by simp [hk1, Dm.setR]))
      repeat' (first | (refine zA ?_; first | refine zB ?_ | refine zC H ?_ | refine zD H ?_ | refine zE H fun _ _ H => ?_ | refine zF H fun _ _ H => ?_ | refine zG H fun _ H => ?_ | refine zH H fun _ H => ?_) | (refine zI ?_; first | refine zJ ?_ | refine zK ?_ | refine zL ?_ | refine CW.seqDc ?_ | refine CW.seqDb ?_ | refine CW.seqDl ?_ | refine CW.seqDs ?_ | refine CW.seqDk ?_ | refine zN ?_ | refine zO ?_ | refine zP ?_ | refine zQ ?_ | refine zR ?_) | refine zS ?_)
      (first | refine CW.seqDraw mo H [0, 0, 2, 0, 0, 16, 8, 72, 248, 504, 1016, 1, 2049, 6145, 16383, 32767] fun w H => ?_ | refine CW.draw mo H [0, 0, 2, 0, 0, 16, 8, 72, 248, 504, 1016, 1, 2049, 6145, 16383, 32767] fun w H => ?_); refine AnyW.seg (m := 15) (by kernel_rfl) (by kernel_rfl) H rfl ?_
      repeat' (first | (refine DrawP.nil ?_; intro w H) | (refine DrawP.go ?_; first | refine DrawP.cons rfl (fun τ w H => OpsW.st rfl (OpsW.nil ⟨rfl, H⟩)) ?_ | refine DrawP.cons rfl (fun τ w H => OpsW.ld H (by (first | exact p0 | exact p1 | exact p2 | exact p3 | exact p4 | exact p5 | exact p6 | exact p7)) rfl rfl rfl rfl (by rfl) rfl (OpsW.nil ⟨rfl, H⟩)) ?_ | refine DrawP.cons rfl (fun τ w H => OpsW.ldA H (by (first | exact p0 | exact p1 | exact p2 | exact p3 | exact p4 | exact p5 | exact p6 | exact p7)) rfl rfl rfl (by rfl) rfl (OpsW.nil ⟨rfl, H⟩)) ?_ | refine DrawP.cons rfl (fun τ w H => OpsW.ixA (n := a) rfl rfl rfl rfl rfl rfl rfl ha8 rfl (OpsW.nil ⟨rfl, H⟩)) ?_ | refine DrawP.cons rfl (fun τ w H => OpsW.ixA (n := b) rfl rfl rfl rfl rfl rfl rfl hb16 rfl (OpsW.nil ⟨rfl, H⟩)) ?_ | refine DrawP.cons rfl (fun τ w H => OpsW.ld H p4 rfl rfl rfl rfl (eD_ldKd hb16 (by omega)) rfl (OpsW.nil ⟨rfl, H⟩)) ?_) | refine DrawP.split (fun h => ?_) (fun h => ?_))
      refine AnyW.one (by kernel_rfl) (by kernel_rfl) rfl ?_
      refine OpsW.str H p4 rfl rfl rfl rfl rfl rfl (by rw [eD_len]; omega) fun w H => ?_
      rw [eD_stR ha8 (by omega)] at H
      refine OpsW.nil ?_
      refine AnyW.done ?_
      replace H := H.perm back5
      rw [setR_set] at H
      repeat' (first | (refine zA ?_; first | refine zB ?_ | refine zC H ?_ | refine zD H ?_ | refine zE H fun _ _ H => ?_ | refine zF H fun _ _ H => ?_ | refine zG H fun _ H => ?_ | refine zH H fun _ H => ?_) | (refine zI ?_; first | refine zJ ?_ | refine zK ?_ | refine zL ?_ | refine CW.seqDc ?_ | refine CW.seqDb ?_ | refine CW.seqDl ?_ | refine CW.seqDs ?_ | refine CW.seqDk ?_ | refine zN ?_ | refine zO ?_ | refine zP ?_ | refine zQ ?_ | refine zR ?_) | refine zS ?_)
      exact ⟨(p, d.setR a (d.k b).data, Ev.of 0, s), (by (repeat (first | (with_reducible exact Agree.refl _ _) | (with_reducible refine Agree.trim (by assumption) ?_) | refine Agree.upd ?_ rfl | exact Agree.mix' | refine Agree.mixL ?_ (fun j h => by simp only [Bool.or_eq_true, Bool.and_eq_true, Nat.beq_eq, Nat.ble_eq] at h ⊢; omega) rfl))), ⟨rfl, trivial⟩, ⟨⟨by rw [hq2], by rw [hq2], by rw [hq2]; rfl⟩, H⟩⟩
    · have hq2 : q = (Ev.of 0, (d.setPC p).setR a 0, s) := by rw [← hq]; show (Ev.of 0, (d.setPC p).setR a (if (d.k b).kind = 1 then (d.k b).data else 0), s) = _; rw [if_neg hk1]
      refine CW.cond rfl (fun h => absurd h (by simp [hk1, Dm.setR])) (fun _ => ?_)
      repeat' (first | (refine zA ?_; first | refine zB ?_ | refine zC H ?_ | refine zD H ?_ | refine zE H fun _ _ H => ?_ | refine zF H fun _ _ H => ?_ | refine zG H fun _ H => ?_ | refine zH H fun _ H => ?_) | (refine zI ?_; first | refine zJ ?_ | refine zK ?_ | refine zL ?_ | refine CW.seqDc ?_ | refine CW.seqDb ?_ | refine CW.seqDl ?_ | refine CW.seqDs ?_ | refine CW.seqDk ?_ | refine zN ?_ | refine zO ?_ | refine zP ?_ | refine zQ ?_ | refine zR ?_) | refine zS ?_)
      exact ⟨(p, d.setR a 0, Ev.of 0, s), (by (repeat (first | (with_reducible exact Agree.refl _ _) | (with_reducible refine Agree.trim (by assumption) ?_) | refine Agree.upd ?_ rfl | exact Agree.mix' | refine Agree.mixL ?_ (fun j h => by simp only [Bool.or_eq_true, Bool.and_eq_true, Nat.beq_eq, Nat.ble_eq] at h ⊢; omega) rfl))), ⟨rfl, trivial⟩, ⟨⟨by rw [hq2], by rw [hq2], by rw [hq2]; rfl⟩, H⟩⟩
  · skip
    have hb16 : b < 16 := by omega
    repeat' (first | (refine zA ?_; first | refine zB ?_ | refine zC H ?_ | refine zD H ?_ | refine zE H fun _ _ H => ?_ | refine zF H fun _ _ H => ?_ | refine zG H fun _ H => ?_ | refine zH H fun _ H => ?_) | (refine zI ?_; first | refine zJ ?_ | refine zK ?_ | refine zL ?_ | refine CW.seqDc ?_ | refine CW.seqDb ?_ | refine CW.seqDl ?_ | refine CW.seqDs ?_ | refine CW.seqDk ?_ | refine zN ?_ | refine zO ?_ | refine zP ?_ | refine zQ ?_ | refine zR ?_) | refine zS ?_)
    refine OpsW.ldA H p4 rfl rfl rfl (eD_rg d) rfl ?_
    refine OpsW.alloc H rfl rfl rfl rfl fun br w H => ?_
    refine OpsW.strF H p0 rfl rfl rfl (rgL_scl d) rfl (rgL_len d) (by rw [rgL_len]; decide) fun w H => ?_
    rw [splice_full (by rw [rgL_len]; rfl)] at H
    repeat' (first | (refine zA ?_; first | refine zB ?_ | refine zC H ?_ | refine zD H ?_ | refine zE H fun _ _ H => ?_ | refine zF H fun _ _ H => ?_ | refine zG H fun _ H => ?_ | refine zH H fun _ H => ?_) | (refine zI ?_; first | refine zJ ?_ | refine zK ?_ | refine zL ?_ | refine CW.seqDc ?_ | refine CW.seqDb ?_ | refine CW.seqDl ?_ | refine CW.seqDs ?_ | refine CW.seqDk ?_ | refine zN ?_ | refine zO ?_ | refine zP ?_ | refine zQ ?_ | refine zR ?_) | refine zS ?_)
    (first | refine CW.seqDraw mo H [0, 1, 0, 0, 8, 4, 36, 124, 252, 0, 512, 0, 2048, 0, 8192, 0, 32768, 129024, 0, 0, 524288, 1835008, 4193792, 8388607, 16777215] fun w H => ?_ | refine CW.draw mo H [0, 1, 0, 0, 8, 4, 36, 124, 252, 0, 512, 0, 2048, 0, 8192, 0, 32768, 129024, 0, 0, 524288, 1835008, 4193792, 8388607, 16777215] fun w H => ?_); refine AnyW.seg (m := 24) (by kernel_rfl) (by kernel_rfl) H rfl ?_
    refine .cons rfl (fun τ w H => .st rfl (.nil ⟨rfl, H⟩)) ?_
    refine .cons rfl (fun τ w H => .ld H p2 rfl rfl rfl rfl rfl rfl (.nil ⟨rfl, H⟩)) ?_
    refine .cons rfl (fun τ w H => .st rfl (.nil ⟨rfl, H⟩)) ?_
    refine .cons rfl (fun τ w H => .st rfl (.nil ⟨rfl, H⟩)) ?_
    refine .cons rfl (fun τ w H => .ld H p2 rfl rfl rfl rfl rfl rfl (.nil ⟨rfl, H⟩)) ?_
    refine .cons rfl (fun τ w H => .st rfl (.nil ⟨rfl, H⟩)) ?_
    refine .cons rfl (fun τ w H => .st rfl (.nil ⟨rfl, H⟩)) ?_
    refine .cons rfl (fun τ w H => .ixA (n := b) rfl rfl rfl rfl rfl rfl rfl hb16 rfl (.nil ⟨rfl, H⟩)) ?_
    refine .cons rfl (fun τ w H => .ldA H p5 rfl rfl rfl (eD_ldK hb16 (by omega)) rfl (.nil ⟨rfl, H⟩)) ?_
    refine .cons rfl (fun τ w H => .ixA (n := 0) rfl rfl rfl rfl rfl rfl rfl (by decide +kernel) rfl (.nil ⟨rfl, H⟩)) ?_
    refine .cons rfl (fun τ w H => .ld H p0 rfl rfl rfl rfl (rgL_at d (n := 0) (by decide) (by rfl)) rfl (.nil ⟨rfl, H⟩)) ?_
    refine .cons rfl (fun τ w H => .ixA (n := 1) rfl rfl rfl rfl rfl rfl rfl (by decide +kernel) rfl (.nil ⟨rfl, H⟩)) ?_
    refine .cons rfl (fun τ w H => .ld H p0 rfl rfl rfl rfl (rgL_at d (n := 1) (by decide) (by rfl)) rfl (.nil ⟨rfl, H⟩)) ?_
    refine .cons rfl (fun τ w H => .ixA (n := 2) rfl rfl rfl rfl rfl rfl rfl (by decide +kernel) rfl (.nil ⟨rfl, H⟩)) ?_
    refine .cons rfl (fun τ w H => .ld H p0 rfl rfl rfl rfl (rgL_at d (n := 2) (by decide) (by rfl)) rfl (.nil ⟨rfl, H⟩)) ?_
    refine .cons rfl (fun τ w H => .ixA (n := 3) rfl rfl rfl rfl rfl rfl rfl (by decide +kernel) rfl (.nil ⟨rfl, H⟩)) ?_
    refine .cons rfl (fun τ w H => .ld H p0 rfl rfl rfl rfl (rgL_at d (n := 3) (by decide) (by rfl)) rfl (.nil ⟨rfl, H⟩)) ?_
    refine .cons rfl (fun τ w H => .st rfl (.nil ⟨rfl, H⟩)) ?_
    refine .cons rfl (fun τ w H => .st rfl (.nil ⟨rfl, H⟩)) ?_
    refine .cons rfl (fun τ w H => .st rfl (.nil ⟨rfl, H⟩)) ?_
    refine .cons rfl (fun τ w H => .ld H p2 rfl rfl rfl rfl rfl rfl (.nil ⟨rfl, H⟩)) ?_
    refine .cons rfl (fun τ w H => .call rfl rfl rfl (via H (by exact p5) fun H => sentR17_ H c) fun _ w h => by obtain ⟨rfl, H⟩ := h; exact .nil ⟨rfl, H⟩) ?_
    refine .cons rfl (fun τ w H => .bld rfl rfl (note8_bld (d.r 0) (d.r 1) (d.r 2) (d.r 3) _ _ _) rfl (.nil ⟨rfl, H⟩)) ?_
    refine .cons rfl (fun τ w H => .bld rfl rfl (ev8_bld a (d.k b) _ _ _ _ _ _ _) rfl (.nil ⟨rfl, H⟩)) ?_
    refine DrawP.nil fun w H => ?_
    refine AnyW.one (by kernel_rfl) (by kernel_rfl) rfl ?_
    refine OpsW.strF H p1 rfl rfl rfl (Ev.scl _) rfl (Ev.len _) (by rw [Ev.len, Ev.len]; decide) fun w H => ?_
    rw [splice_full (by rw [Ev.len, Ev.len])] at H
    refine OpsW.nil ?_
    refine AnyW.done ?_
    replace H := (H.perm p1).drop
    repeat' (first | (refine zA ?_; first | refine zB ?_ | refine zC H ?_ | refine zD H ?_ | refine zE H fun _ _ H => ?_ | refine zF H fun _ _ H => ?_ | refine zG H fun _ H => ?_ | refine zH H fun _ H => ?_) | (refine zI ?_; first | refine zJ ?_ | refine zK ?_ | refine zL ?_ | refine CW.seqDc ?_ | refine CW.seqDb ?_ | refine CW.seqDl ?_ | refine CW.seqDs ?_ | refine CW.seqDk ?_ | refine zN ?_ | refine zO ?_ | refine zP ?_ | refine zQ ?_ | refine zR ?_) | refine zS ?_)
    exact ⟨(p, d, ⟨1, a, d.k b, d.r 0, d.r 1, d.r 2, d.r 3, sentK d.k c 0, sentK d.k c 1, sentK d.k c 2, 0, 0⟩, s), (by (repeat (first | (with_reducible exact Agree.refl _ _) | (with_reducible refine Agree.trim (by assumption) ?_) | refine Agree.upd ?_ rfl | exact Agree.mix' | refine Agree.mixL ?_ (fun j h => by simp only [Bool.or_eq_true, Bool.and_eq_true, Nat.beq_eq, Nat.ble_eq] at h ⊢; omega) rfl))), ⟨rfl, trivial⟩, ⟨⟨by rw [← hq]; rfl, by rw [← hq]; rfl, by rw [← hq]; rfl⟩, H⟩⟩
  · skip
    repeat' (first | (refine zA ?_; first | refine zB ?_ | refine zC H ?_ | refine zD H ?_ | refine zE H fun _ _ H => ?_ | refine zF H fun _ _ H => ?_ | refine zG H fun _ H => ?_ | refine zH H fun _ H => ?_) | (refine zI ?_; first | refine zJ ?_ | refine zK ?_ | refine zL ?_ | refine CW.seqDc ?_ | refine CW.seqDb ?_ | refine CW.seqDl ?_ | refine CW.seqDs ?_ | refine CW.seqDk ?_ | refine zN ?_ | refine zO ?_ | refine zP ?_ | refine zQ ?_ | refine zR ?_) | refine zS ?_)
    refine OpsW.str H p0 rfl rfl rfl rfl rfl rfl (by rw [Ev.len]; decide) fun w H => ?_
    replace H : Sat z w (blk b11 102 ((Ev.of 0).l.set 0 (.int .i64 2)) :: _) := H
    rw [ev_k2] at H
    repeat' (first | (refine zA ?_; first | refine zB ?_ | refine zC H ?_ | refine zD H ?_ | refine zE H fun _ _ H => ?_ | refine zF H fun _ _ H => ?_ | refine zG H fun _ H => ?_ | refine zH H fun _ H => ?_) | (refine zI ?_; first | refine zJ ?_ | refine zK ?_ | refine zL ?_ | refine CW.seqDc ?_ | refine CW.seqDb ?_ | refine CW.seqDl ?_ | refine CW.seqDs ?_ | refine CW.seqDk ?_ | refine zN ?_ | refine zO ?_ | refine zP ?_ | refine zQ ?_ | refine zR ?_) | refine zS ?_)
    exact ⟨(p, d, Ev.of 2, s), (by (repeat (first | (with_reducible exact Agree.refl _ _) | (with_reducible refine Agree.trim (by assumption) ?_) | refine Agree.upd ?_ rfl | exact Agree.mix' | refine Agree.mixL ?_ (fun j h => by simp only [Bool.or_eq_true, Bool.and_eq_true, Nat.beq_eq, Nat.ble_eq] at h ⊢; omega) rfl))), ⟨rfl, trivial⟩, ⟨⟨by rw [← hq]; rfl, by rw [← hq]; rfl, by rw [← hq]; rfl⟩, H⟩⟩
  · skip
    repeat' (first | (refine zA ?_; first | refine zB ?_ | refine zC H ?_ | refine zD H ?_ | refine zE H fun _ _ H => ?_ | refine zF H fun _ _ H => ?_ | refine zG H fun _ H => ?_ | refine zH H fun _ H => ?_) | (refine zI ?_; first | refine zJ ?_ | refine zK ?_ | refine zL ?_ | refine CW.seqDc ?_ | refine CW.seqDb ?_ | refine CW.seqDl ?_ | refine CW.seqDs ?_ | refine CW.seqDk ?_ | refine zN ?_ | refine zO ?_ | refine zP ?_ | refine zQ ?_ | refine zR ?_) | refine zS ?_)
    refine OpsW.str H p0 rfl rfl rfl rfl rfl rfl (by rw [Ev.len]; decide) fun w H => ?_
    replace H : Sat z w (blk b11 102 ((Ev.of 0).l.set 0 (.int .i64 3)) :: _) := H
    rw [ev_k3] at H
    repeat' (first | (refine zA ?_; first | refine zB ?_ | refine zC H ?_ | refine zD H ?_ | refine zE H fun _ _ H => ?_ | refine zF H fun _ _ H => ?_ | refine zG H fun _ H => ?_ | refine zH H fun _ H => ?_) | (refine zI ?_; first | refine zJ ?_ | refine zK ?_ | refine zL ?_ | refine CW.seqDc ?_ | refine CW.seqDb ?_ | refine CW.seqDl ?_ | refine CW.seqDs ?_ | refine CW.seqDk ?_ | refine zN ?_ | refine zO ?_ | refine zP ?_ | refine zQ ?_ | refine zR ?_) | refine zS ?_)
    exact ⟨(p, d, Ev.of 3, s), (by (repeat (first | (with_reducible exact Agree.refl _ _) | (with_reducible refine Agree.trim (by assumption) ?_) | refine Agree.upd ?_ rfl | exact Agree.mix' | refine Agree.mixL ?_ (fun j h => by simp only [Bool.or_eq_true, Bool.and_eq_true, Nat.beq_eq, Nat.ble_eq] at h ⊢; omega) rfl))), ⟨rfl, trivial⟩, ⟨⟨by rw [← hq]; rfl, by rw [← hq]; rfl, by rw [← hq]; rfl⟩, H⟩⟩
end
end Go.Proofs.YtnfefbhjdncccaaDoor.X
