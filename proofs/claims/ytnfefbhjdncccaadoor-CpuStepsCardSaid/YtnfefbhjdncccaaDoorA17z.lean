/- The document's machine: a word read, an instruction carried out; conditions: none. -/
import Derived.Test.YtnfefbhjdncccaaDoorA17y
import Derived.Test.YtnfefbhjdncccaaDoorA17u
import Derived.Test.YtnfefbhjdncccaaDoorA17t
import Derived.Test.YtnfefbhjdncccaaDoorA17s
namespace Go.Proofs.YtnfefbhjdncccaaDoor.X
open Go Go.Proofs
set_option linter.unusedSimpArgs false
set_option linter.unusedVariables false
theorem u32_and15 {n : Int} (h0 : 0 ≤ n) (h1 : n < 4294967296) : bits .and .u32 n 15 = n % 16 := by
  obtain ⟨m, rfl⟩ := Int.eq_ofNat_of_zero_le h0
  have := u32_and_nat m 15 (by omega) (by decide)
  rw [Nat.and_two_pow_sub_one_eq_mod m 4] at this
  rw [show ((15 : Nat) : Int) = 15 from rfl] at this
  rw [this]; omega
theorem u32_and4095 {n : Int} (h0 : 0 ≤ n) (h1 : n < 4294967296) : bits .and .u32 n 4095 = n % 4096 := by
  obtain ⟨m, rfl⟩ := Int.eq_ofNat_of_zero_le h0
  have := u32_and_nat m 4095 (by omega) (by decide)
  rw [Nat.and_two_pow_sub_one_eq_mod m 12] at this
  rw [show ((4095 : Nat) : Int) = 4095 from rfl] at this
  rw [this]; omega
theorem insU_at {x : Int} (h0 : 0 ≤ x) (h1 : x < 4294967296) : IntKind.wrap .i64 (x.fdiv (2 ^ min (Int.toNat 24) (IntKind.bits .u32))) = (insOf x).op ∧
    IntKind.wrap .i64 (bits .and .u32 (x.fdiv (2 ^ min (Int.toNat 20) (IntKind.bits .u32))) 15) = (insOf x).a ∧ IntKind.wrap .i64 (bits .and .u32 (x.fdiv (2 ^ min (Int.toNat 16) (IntKind.bits .u32))) 15) = (insOf x).b ∧
    IntKind.wrap .i64 (bits .and .u32 (x.fdiv (2 ^ min (Int.toNat 12) (IntKind.bits .u32))) 15) = (insOf x).c ∧ IntKind.wrap .i64 (bits .and .u32 x 4095) = (insOf x).imm := by
  rw [show min (Int.toNat 24) (IntKind.bits .u32) = 24 from rfl, show min (Int.toNat 20) (IntKind.bits .u32) = 20 from rfl, show min (Int.toNat 16) (IntKind.bits .u32) = 16 from rfl, show min (Int.toNat 12) (IntKind.bits .u32) = 12 from rfl]
  rw [show (2 : Int) ^ 24 = 16777216 by decide, show (2 : Int) ^ 20 = 1048576 by decide, show (2 : Int) ^ 16 = 65536 by decide, show (2 : Int) ^ 12 = 4096 by decide]
  rw [fdivp (by decide), fdivp (by decide), fdivp (by decide), fdivp (by decide), u32_and15 (by omega) (by omega), u32_and15 (by omega) (by omega), u32_and15 (by omega) (by omega), u32_and4095 h0 h1]
  rw [wrap64_id (n := x / 16777216) (by omega) (by omega), wrap64_id (n := x / 1048576 % 16) (by omega) (by omega), wrap64_id (n := x / 65536 % 16) (by omega) (by omega), wrap64_id (n := x / 4096 % 16) (by omega) (by omega), wrap64_id (n := x % 4096) (by omega) (by omega)]
  exact ⟨rfl, rfl, rfl, rfl, rfl⟩
theorem eD_ldPC (d : Dm) : (eD d)[8]? = some (.int .u32 d.pc) := rfl
theorem eD_stPC {d : Dm} {x : Int} : (eD d).set 8 (.int .u32 x) = eD (d.setPC x) := rfl
theorem eD_ldR {d : Dm} {n off : Nat} (h : n < 8) (ho : off = n) : (eD d)[off]? = some (.int .u32 (d.r n)) := by
  subst ho
  rcases case8 h with rfl | rfl | rfl | rfl | rfl | rfl | rfl | rfl <;> rfl
theorem eD_ldKk {d : Dm} {n off : Nat} (h : n < 16) (ho : off = 11 + n * 5) : (eD d)[off]? = some (.int .i64 (d.k n).kind) := by
  subst ho
  rcases case16 h with rfl | rfl | rfl | rfl | rfl | rfl | rfl | rfl | rfl | rfl | rfl | rfl | rfl | rfl | rfl | rfl <;> rfl
theorem eD_ldKd {d : Dm} {n off : Nat} (h : n < 16) (ho : off = 11 + n * 5 + 4) : (eD d)[off]? = some (.int .u32 (d.k n).data) := by
  subst ho
  rcases case16 h with rfl | rfl | rfl | rfl | rfl | rfl | rfl | rfl | rfl | rfl | rfl | rfl | rfl | rfl | rfl | rfl <;> rfl
def rgL (d : Dm) : List Value := (X.mk 8 d.r).map (.int .u32)
theorem eD_rg (d : Dm) : takeK 8 ((eD d).drop 0) some = some (rgL d) := rfl
theorem rgL_len (d : Dm) : (rgL d).length = 8 := rfl
theorem rgL_scl (d : Dm) : (rgL d).all scal = true := rfl
theorem rgL_at (d : Dm) {n off : Nat} (h : n < 8) (ho : off = n) : (rgL d)[off]? = some (.int .u32 (d.r n)) := by
  subst ho
  rcases case8 h with rfl | rfl | rfl | rfl | rfl | rfl | rfl | rfl <;> rfl
theorem bad8_bld (f : Nat) (a : Int) : pureF cf.T 102 [(0, .int .i64 4), (4, .int .i64 f), (5, .int .u32 a)] = some (.agg (Ev.bad f a).l.toArray) := by kernel_rfl
theorem note8_bld (o w0 w1 w2 : Int) (k0 k1 k2 : K) : pureF cf.T 77 [(0, .int .u32 o), (1, .agg #[.int .u32 w0, .int .u32 w1, .int .u32 w2]), (2, .agg (k0.l ++ (k1.l ++ k2.l)).toArray)] = some (.agg (noteL o w0 w1 w2 k0 k1 k2).toArray) := by kernel_rfl
theorem ev8_bld (a : Int) (k : K) (o w0 w1 w2 : Int) (k0 k1 k2 : K) : pureF cf.T 102 [(0, .int .i64 1), (1, .int .i64 a), (2, .agg k.l.toArray), (3, .agg (noteL o w0 w1 w2 k0 k1 k2).toArray)] = some (.agg (Ev.l ⟨1, a, k, o, w0, w1, w2, k0, k1, k2, 0, 0⟩).toArray) := by kernel_rfl
theorem ev_k2 : (Ev.of 0).l.set 0 (.int .i64 2) = (Ev.of 2).l := rfl
theorem ev_k3 : (Ev.of 0).l.set 0 (.int .i64 3) = (Ev.of 3).l := rfl
attribute [local irreducible] CW OpsW RetW Spec blk snap DrawP AnyW AnyM AnyN bits IntKind.wrap vec itr asc eA Dm.c eD frL ksL noteL syP Ev.l St.load St.save St.saveS wdo sentK rgL
section
variable {z w : World} {As Rs : List HP} {d : Dm} {bx be hb : Nat} {s : St}
theorem readR_ (H : Sat z w As) (x : Int) (h0 : 0 ≤ x) (h1 : x < 4294967296) :
    Spec cf 76 #[.int .u32 x] w fun e w' => e = .tuple #[(readP x).1.v, .bool (readP x).2] ∧ Sat z w' As := by
  refine enter (l := [.int .u32 x]) Tryd.func76 rfl rfl rfl rfl rfl ?_
  repeat' (first | (refine zA ?_; first | refine zB ?_ | refine zC H ?_ | refine zD H ?_ | refine zE H fun _ _ H => ?_ | refine zF H fun _ _ H => ?_ | refine zG H fun _ H => ?_ | refine zH H fun _ H => ?_) | (refine zI ?_; first | refine zJ ?_ | refine zK ?_ | refine zL ?_ | refine zM ?_ | refine zN ?_ | refine zO ?_ | refine zP ?_ | refine zQ ?_ | refine zR ?_) | refine zS ?_)
  obtain ⟨e1, e2, e3, e4, e5⟩ := insU_at h0 h1
  rw [e1, e2, e3, e4, e5] at H ⊢
  refine OpsW.call rfl rfl rfl (refValidI_ H (insOf x)) ?_
  rintro _ w ⟨rfl, H⟩
  unfold readP
  by_cases hc : (insOf x).ec = 0
  · rw [show refc (insOf x) = 0 by unfold refc; rw [if_pos hc], if_pos hc]
    repeat' (first | (refine zA ?_; first | refine zB ?_ | refine zC H ?_ | refine zD H ?_ | refine zE H fun _ _ H => ?_ | refine zF H fun _ _ H => ?_ | refine zG H fun _ H => ?_ | refine zH H fun _ H => ?_) | (refine zI ?_; first | refine zJ ?_ | refine zK ?_ | refine zL ?_ | refine zM ?_ | refine zN ?_ | refine zO ?_ | refine zP ?_ | refine zQ ?_ | refine zR ?_) | refine zS ?_)
    exact ret2c (resA H (by (first | exact p0 | exact p1 | exact p2 | exact p3 | exact p4 | exact p5 | exact p6 | exact p7)) rfl rfl (by rfl)) rfl ⟨rfl, by (first | exact H | exact H.drop | exact H.d2 | exact H.d3 | exact H.d4 | exact H.d5 | exact H.d6 | exact H.d7)⟩
  · rw [show refc (insOf x) = 100 + (insOf x).ec by unfold refc; rw [if_neg hc], if_neg hc]
    repeat' (first | (refine zA ?_; first | refine zB ?_ | refine zC H ?_ | refine zD H ?_ | refine zE H fun _ _ H => ?_ | refine zF H fun _ _ H => ?_ | refine zG H fun _ H => ?_ | refine zH H fun _ H => ?_) | (refine zI ?_; first | refine zJ ?_ | refine zK ?_ | refine zL ?_ | refine zM ?_ | refine zN ?_ | refine zO ?_ | refine zP ?_ | refine zQ ?_ | refine zR ?_) | refine zS ?_)
    refine CW.cond rfl (fun _ => ?_) (fun h => absurd h (by simp; omega))
    repeat' (first | (refine zA ?_; first | refine zB ?_ | refine zC H ?_ | refine zD H ?_ | refine zE H fun _ _ H => ?_ | refine zF H fun _ _ H => ?_ | refine zG H fun _ H => ?_ | refine zH H fun _ H => ?_) | (refine zI ?_; first | refine zJ ?_ | refine zK ?_ | refine zL ?_ | refine zM ?_ | refine zN ?_ | refine zO ?_ | refine zP ?_ | refine zQ ?_ | refine zR ?_) | refine zS ?_)
    exact ret2c (resA H (by (first | exact p0 | exact p1 | exact p2 | exact p3 | exact p4 | exact p5 | exact p6 | exact p7)) rfl rfl (by rfl)) rfl ⟨rfl, by (first | exact H | exact H.drop | exact H.d2 | exact H.d3 | exact H.d4 | exact H.d5 | exact H.d6 | exact H.d7)⟩
theorem three_ (H : Sat z w As) (k0 k1 k2 : K) : Spec cf 79 #[.agg (k0.l ++ (k1.l ++ k2.l)).toArray] w fun e w' => ∃ b, e = .slice (some ⟨b, 0, none⟩) 3 3 ∧ Sat z w' (blk b 43 ([k0, k1, k2].flatMap K.l) :: As) := by
  refine enter (l := [.agg (k0.l ++ (k1.l ++ k2.l)).toArray]) Tryd.func79 rfl rfl rfl rfl rfl ?_
  repeat' (first | (refine zA ?_; first | refine zB ?_ | refine zC H ?_ | refine zD H ?_ | refine zE H fun _ _ H => ?_ | refine zF H fun _ _ H => ?_ | refine zG H fun _ H => ?_ | refine zH H fun _ H => ?_) | (refine zI ?_; first | refine zJ ?_ | refine zK ?_ | refine zL ?_ | refine zM ?_ | refine zN ?_ | refine zO ?_ | refine zP ?_ | refine zQ ?_ | refine zR ?_) | refine zS ?_)
  refine OpsW.ixA (n := 0) rfl rfl rfl rfl rfl rfl rfl (by decide +kernel) rfl ?_
  repeat' (first | (refine zA ?_; first | refine zB ?_ | refine zC H ?_ | refine zD H ?_ | refine zE H fun _ _ H => ?_ | refine zF H fun _ _ H => ?_ | refine zG H fun _ H => ?_ | refine zH H fun _ H => ?_) | (refine zI ?_; first | refine zJ ?_ | refine zK ?_ | refine zL ?_ | refine zM ?_ | refine zN ?_ | refine zO ?_ | refine zP ?_ | refine zQ ?_ | refine zR ?_) | refine zS ?_)
  refine OpsW.ixA (n := 1) rfl rfl rfl rfl rfl rfl rfl (by decide +kernel) rfl ?_
  repeat' (first | (refine zA ?_; first | refine zB ?_ | refine zC H ?_ | refine zD H ?_ | refine zE H fun _ _ H => ?_ | refine zF H fun _ _ H => ?_ | refine zG H fun _ H => ?_ | refine zH H fun _ H => ?_) | (refine zI ?_; first | refine zJ ?_ | refine zK ?_ | refine zL ?_ | refine zM ?_ | refine zN ?_ | refine zO ?_ | refine zP ?_ | refine zQ ?_ | refine zR ?_) | refine zS ?_)
  refine OpsW.ixA (n := 2) rfl rfl rfl rfl rfl rfl rfl (by decide +kernel) rfl ?_
  repeat' (first | (refine zA ?_; first | refine zB ?_ | refine zC H ?_ | refine zD H ?_ | refine zE H fun _ _ H => ?_ | refine zF H fun _ _ H => ?_ | refine zG H fun _ H => ?_ | refine zH H fun _ H => ?_) | (refine zI ?_; first | refine zJ ?_ | refine zK ?_ | refine zL ?_ | refine zM ?_ | refine zN ?_ | refine zO ?_ | refine zP ?_ | refine zQ ?_ | refine zR ?_) | refine zS ?_)
  refine OpsW.bsl H rfl rfl rfl rfl rfl rfl rfl rfl fun b w H => ?_
  repeat' (first | (refine zA ?_; first | refine zB ?_ | refine zC H ?_ | refine zD H ?_ | refine zE H fun _ _ H => ?_ | refine zF H fun _ _ H => ?_ | refine zG H fun _ H => ?_ | refine zH H fun _ H => ?_) | (refine zI ?_; first | refine zJ ?_ | refine zK ?_ | refine zL ?_ | refine zM ?_ | refine zN ?_ | refine zO ?_ | refine zP ?_ | refine zQ ?_ | refine zR ?_) | refine zS ?_)
  exact ret1 rfl ⟨b, rfl, (H.perm p1).drop⟩
theorem note_ks3 (o w0 w1 w2 : Int) (k0 k1 k2 : K) : takeK 15 ((noteL o w0 w1 w2 k0 k1 k2).drop 4) some = some (k0.l ++ (k1.l ++ k2.l)) := by with_unfolding_all rfl
set_option maxHeartbeats 2000000 in
theorem sameNote_ (H : Sat z w As) (o w0 w1 w2 : Int) (k0 k1 k2 : K) : Spec cf 44 #[.agg (noteL o w0 w1 w2 k0 k1 k2).toArray, .agg (noteL o w0 w1 w2 k0 k1 k2).toArray] w fun e w' => e = .bool true ∧ Sat z w' As := by
  refine enter (l := [.agg (noteL o w0 w1 w2 k0 k1 k2).toArray, .agg (noteL o w0 w1 w2 k0 k1 k2).toArray]) Tryd.func44 rfl rfl rfl rfl rfl ?_
  repeat' (first | (refine zA ?_; first | refine zB ?_) | (refine zI ?_; first | refine zJ ?_ | refine zK ?_ | refine zL ?_ | refine zM ?_ | refine zN ?_ | refine zO ?_ | refine zP ?_ | refine zQ ?_ | refine zR ?_) | refine zS ?_)
  refine OpsW.boxF H rfl rfl rfl fun b1 w H => ?_
  repeat' (first | (refine zA ?_; first | refine zB ?_) | (refine zI ?_; first | refine zJ ?_ | refine zK ?_ | refine zL ?_ | refine zM ?_ | refine zN ?_ | refine zO ?_ | refine zP ?_ | refine zQ ?_ | refine zR ?_) | refine zS ?_)
  refine OpsW.boxF H rfl rfl rfl fun b0 w H => ?_
  repeat' (first | (refine zA ?_; first | refine zB ?_) | (refine zI ?_; first | refine zJ ?_ | refine zK ?_ | refine zL ?_ | refine zM ?_ | refine zN ?_ | refine zO ?_ | refine zP ?_ | refine zQ ?_ | refine zR ?_) | refine zS ?_)
  refine OpsW.ixA (n := 0) rfl rfl rfl rfl rfl rfl rfl (by decide +kernel) rfl ?_
  refine OpsW.ld H p1 rfl rfl rfl rfl (note_wl o w0 w1 w2 k0 k1 k2).1 rfl ?_
  repeat' (refine zA ?_; refine zB ?_)
  refine OpsW.ixA (n := 1) rfl rfl rfl rfl rfl rfl rfl (by decide +kernel) rfl ?_
  refine OpsW.ld H p1 rfl rfl rfl rfl (note_wl o w0 w1 w2 k0 k1 k2).2.1 rfl ?_
  repeat' (refine zA ?_; refine zB ?_)
  refine OpsW.ixA (n := 2) rfl rfl rfl rfl rfl rfl rfl (by decide +kernel) rfl ?_
  refine OpsW.ld H p1 rfl rfl rfl rfl (note_wl o w0 w1 w2 k0 k1 k2).2.2 rfl ?_
  refine OpsW.bsl (l := [w0, w1, w2].map (.int .u32)) H rfl rfl rfl rfl rfl rfl rfl rfl fun ba w H => ?_
  repeat' (refine zA ?_; refine zB ?_)
  refine OpsW.ixA (n := 0) rfl rfl rfl rfl rfl rfl rfl (by decide +kernel) rfl ?_
  refine OpsW.ld H p1 rfl rfl rfl rfl (note_wl o w0 w1 w2 k0 k1 k2).1 rfl ?_
  repeat' (refine zA ?_; refine zB ?_)
  refine OpsW.ixA (n := 1) rfl rfl rfl rfl rfl rfl rfl (by decide +kernel) rfl ?_
  refine OpsW.ld H p1 rfl rfl rfl rfl (note_wl o w0 w1 w2 k0 k1 k2).2.1 rfl ?_
  repeat' (refine zA ?_; refine zB ?_)
  refine OpsW.ixA (n := 2) rfl rfl rfl rfl rfl rfl rfl (by decide +kernel) rfl ?_
  refine OpsW.ld H p1 rfl rfl rfl rfl (note_wl o w0 w1 w2 k0 k1 k2).2.2 rfl ?_
  refine OpsW.bsl (l := [w0, w1, w2].map (.int .u32)) H rfl rfl rfl rfl rfl rfl rfl rfl fun bb w H => ?_
  refine OpsW.call rfl rfl rfl (sameWords_ H [w0, w1, w2] [w0, w1, w2] _ _ (by show 3 ≤ _; decide) (by show 3 ≤ _; decide) (SlR.of_blk (r := []) rfl (Nat.le_refl 3)).tail (SlR.of_blk (r := []) rfl (Nat.le_refl 3))) ?_
  rintro _ w ⟨rfl, H⟩
  rw [decide_eq_true rfl]
  replace H := H.d2
  repeat' (first | (refine zA ?_; first | refine zB ?_) | (refine zI ?_; first | refine zJ ?_ | refine zK ?_ | refine zL ?_ | refine zM ?_ | refine zN ?_ | refine zO ?_ | refine zP ?_ | refine zQ ?_ | refine zR ?_) | refine zS ?_)
  (first | refine CW.seqDraw mo H [0, 1, 3, 7, 3, 19, 63, 127, 255, 511, 1023, 2047, 511, 4607, 16383, 32767, 65535, 131071] fun w H => ?_ | refine CW.draw mo H [0, 1, 3, 7, 3, 19, 63, 127, 255, 511, 1023, 2047, 511, 4607, 16383, 32767, 65535, 131071] fun w H => ?_); refine AnyW.seg (m := 9) (by kernel_rfl) (by kernel_rfl) H rfl ?_
  iterate 3 (refine .cons rfl (fun τ w H => .st rfl (.nil ⟨rfl, H⟩)) ?_)
  refine .cons rfl (fun τ w H => .ld H p1 rfl rfl rfl rfl (note_o o w0 w1 w2 k0 k1 k2) rfl (.nil ⟨rfl, H⟩)) ?_
  refine .cons rfl (fun τ w H => .st rfl (.nil ⟨rfl, H⟩)) ?_
  refine .cons rfl (fun τ w H => .ld H p0 rfl rfl rfl rfl (note_o o w0 w1 w2 k0 k1 k2) rfl (.nil ⟨rfl, H⟩)) ?_
  refine .cons rfl (fun τ w H => .stV rfl (congrArg Value.bool (beq_self_eq_true o)) (.nil ⟨rfl, H⟩)) ?_
  iterate 2 (refine .cons rfl (fun τ w H => .st rfl (.nil ⟨rfl, H⟩)) ?_)
  refine DrawP.nil fun w H => ?_
  refine AnyW.ofN ?_
  repeat' (first | refine AnyN.take (i := 0) rfl rfl rfl (by decide +kernel) ?_ | refine AnyN.take (i := 1) rfl rfl rfl (by decide +kernel) ?_ | refine AnyN.take (i := 2) rfl rfl rfl (by decide +kernel) ?_ | refine AnyN.take (i := 3) rfl rfl rfl (by decide +kernel) ?_ | refine AnyN.take (i := 4) rfl rfl rfl (by decide +kernel) ?_ | refine AnyN.take (i := 5) rfl rfl rfl (by decide +kernel) ?_ | refine AnyN.take (i := 6) rfl rfl rfl (by decide +kernel) ?_ | refine AnyN.take (i := 7) rfl rfl rfl (by decide +kernel) ?_ | refine AnyN.take (i := 8) rfl rfl rfl (by decide +kernel) ?_ | refine AnyN.take (i := 9) rfl rfl rfl (by decide +kernel) ?_ | refine AnyN.take (i := 10) rfl rfl rfl (by decide +kernel) ?_ | refine AnyN.take (i := 11) rfl rfl rfl (by decide +kernel) ?_ | refine AnyN.take (i := 12) rfl rfl rfl (by decide +kernel) ?_ | refine AnyN.take (i := 13) rfl rfl rfl (by decide +kernel) ?_ | refine AnyN.take (i := 14) rfl rfl rfl (by decide +kernel) ?_ | refine AnyN.take (i := 15) rfl rfl rfl (by decide +kernel) ?_ | refine AnyN.take (i := 16) rfl rfl rfl (by decide +kernel) ?_ | refine AnyN.take (i := 17) rfl rfl rfl (by decide +kernel) ?_ | refine AnyN.take (i := 18) rfl rfl rfl (by decide +kernel) ?_ | refine AnyN.take (i := 19) rfl rfl rfl (by decide +kernel) ?_ | refine AnyN.take (i := 20) rfl rfl rfl (by decide +kernel) ?_ | refine AnyN.take (i := 21) rfl rfl rfl (by decide +kernel) ?_ | refine AnyN.take (i := 22) rfl rfl rfl (by decide +kernel) ?_ | refine AnyN.take (i := 23) rfl rfl rfl (by decide +kernel) ?_ | refine AnyN.take (i := 24) rfl rfl rfl (by decide +kernel) ?_ | refine AnyN.take (i := 25) rfl rfl rfl (by decide +kernel) ?_ | refine AnyN.take (i := 26) rfl rfl rfl (by decide +kernel) ?_ | refine AnyN.take (i := 27) rfl rfl rfl (by decide +kernel) ?_)
  repeat' (first | exact AllI.nil' rfl | refine AllI.cons' rfl rfl ?_ ?_ | refine AnyN.step rfl rfl ?_ | (first | refine AnyN.take (i := 0) rfl rfl rfl (by decide +kernel) ?_ | refine AnyN.take (i := 1) rfl rfl rfl (by decide +kernel) ?_ | refine AnyN.take (i := 2) rfl rfl rfl (by decide +kernel) ?_ | refine AnyN.take (i := 3) rfl rfl rfl (by decide +kernel) ?_ | refine AnyN.take (i := 4) rfl rfl rfl (by decide +kernel) ?_ | refine AnyN.take (i := 5) rfl rfl rfl (by decide +kernel) ?_ | refine AnyN.take (i := 6) rfl rfl rfl (by decide +kernel) ?_ | refine AnyN.take (i := 7) rfl rfl rfl (by decide +kernel) ?_ | refine AnyN.take (i := 8) rfl rfl rfl (by decide +kernel) ?_ | refine AnyN.take (i := 9) rfl rfl rfl (by decide +kernel) ?_ | refine AnyN.take (i := 10) rfl rfl rfl (by decide +kernel) ?_ | refine AnyN.take (i := 11) rfl rfl rfl (by decide +kernel) ?_ | refine AnyN.take (i := 12) rfl rfl rfl (by decide +kernel) ?_ | refine AnyN.take (i := 13) rfl rfl rfl (by decide +kernel) ?_ | refine AnyN.take (i := 14) rfl rfl rfl (by decide +kernel) ?_ | refine AnyN.take (i := 15) rfl rfl rfl (by decide +kernel) ?_ | refine AnyN.take (i := 16) rfl rfl rfl (by decide +kernel) ?_ | refine AnyN.take (i := 17) rfl rfl rfl (by decide +kernel) ?_ | refine AnyN.take (i := 18) rfl rfl rfl (by decide +kernel) ?_ | refine AnyN.take (i := 19) rfl rfl rfl (by decide +kernel) ?_ | refine AnyN.take (i := 20) rfl rfl rfl (by decide +kernel) ?_ | refine AnyN.take (i := 21) rfl rfl rfl (by decide +kernel) ?_ | refine AnyN.take (i := 22) rfl rfl rfl (by decide +kernel) ?_ | refine AnyN.take (i := 23) rfl rfl rfl (by decide +kernel) ?_ | refine AnyN.take (i := 24) rfl rfl rfl (by decide +kernel) ?_ | refine AnyN.take (i := 25) rfl rfl rfl (by decide +kernel) ?_ | refine AnyN.take (i := 26) rfl rfl rfl (by decide +kernel) ?_ | refine AnyN.take (i := 27) rfl rfl rfl (by decide +kernel) ?_) | (refine OpsW.ldA H (by (first | exact p0 | exact p1 | exact p2 | exact p3 | exact p4 | exact p5 | exact p6 | exact p7)) rfl rfl rfl (note_ks3 o w0 w1 w2 k0 k1 k2) rfl ?_) | (refine OpsW.call rfl rfl rfl (three_ H k0 k1 k2) ?_; rintro _ w ⟨_, rfl, H⟩) | (refine OpsW.call rfl rfl rfl (sameKeysR_ H [k0, k1, k2] (by show 3 ≤ 1000; decide) (SlR.of_blk (r := []) rfl (Nat.le_refl 3)).tail (SlR.of_blk (r := []) rfl (Nat.le_refl 3))) ?_; rintro _ w ⟨rfl, H⟩) | refine OpsW.nil ?_ | (refine OpsW.go ?_; refine OpsW.st rfl ?_))
  all_goals
    refine AnyN.done rfl ?_
    repeat' (first | (refine zA ?_; first | refine zB ?_) | (refine zI ?_; first | refine zJ ?_ | refine zK ?_ | refine zL ?_ | refine zM ?_ | refine zN ?_ | refine zO ?_ | refine zP ?_ | refine zQ ?_ | refine zR ?_) | refine zS ?_)
    exact ret1 rfl ⟨rfl, H.d4⟩
end
end Go.Proofs.YtnfefbhjdncccaaDoor.X
