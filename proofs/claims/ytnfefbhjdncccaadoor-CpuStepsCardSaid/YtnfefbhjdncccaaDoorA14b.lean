/- Contracts of chapter 14 (code): words read, and made; conditions: none. -/
import Derived.Test.YtnfefbhjdncccaaDoorA14
import Derived.Laws.BitsAllLaws
namespace Go.Proofs.YtnfefbhjdncccaaDoor.X
open Go Go.Proofs
set_option linter.unusedSimpArgs false
set_option linter.unusedVariables false
def insOf (x : Int) : Ins := ⟨x / 16777216, x / 1048576 % 16, x / 65536 % 16, x / 4096 % 16, x % 4096⟩
def Ins.z : Ins := ⟨0, 0, 0, 0, 0⟩
def readP (x : Int) : Ins × Bool := if (insOf x).ec = 0 then (insOf x, true) else (Ins.z, false)
def Ins.w (i : Ins) : Int := i.op * 16777216 + i.a * 1048576 + i.b * 65536 + i.c * 4096 + i.imm
structure Ins.rng (i : Ins) : Prop where
  o1 : 1 ≤ i.op
  o2 : i.op ≤ 13
  a1 : 0 ≤ i.a
  a2 : i.a < 16
  b1 : 0 ≤ i.b
  b2 : i.b < 16
  c1 : 0 ≤ i.c
  c2 : i.c < 16
  m1 : 0 ≤ i.imm
  m2 : i.imm < 4096
theorem ec_rng {i : Ins} (h : i.ec = 0) : i.rng := by
  obtain ⟨op, a, b, c, m⟩ := i
  unfold Ins.ec at h
  split at h
  · cases h
  rename_i h0
  split at h
  · rename_i h1
    dsimp only at h0
    unfold Ins.fit inR at h1
    dsimp only at h1
    repeat' split at h1
    all_goals
      simp only [Bool.and_eq_true, decide_eq_true_eq, beq_iff_eq] at h1
      constructor <;> dsimp only <;> omega
  · cases h
theorem fdivp {a b : Int} (h : 0 ≤ b) : a.fdiv b = a / b := Int.fdiv_eq_ediv_of_nonneg a h
theorem i64_and (n : Int) (k m : Nat) (hk : k ≤ 62) (hm : (BitVec.ofInt 64 (m : Int)).toNat = 2 ^ k - 1) : bits .and .i64 n m = n % ((2 ^ k : Nat) : Int) := by
  have key : (BitVec.ofInt 64 n &&& BitVec.ofInt 64 (m : Int)).toNat = (n % ((2 ^ 64 : Nat) : Int)).toNat % 2 ^ k := by
    rw [BitVec.toNat_and, BitVec.toNat_ofInt, hm, Nat.and_two_pow_sub_one_eq_mod]
  show IntKind.i64.wrap ((BitVec.ofInt 64 n &&& BitVec.ofInt 64 (m : Int)).toNat : Nat) = _
  have h2 : 2 ^ k ≤ 2 ^ 62 := Nat.pow_le_pow_right (by decide) hk
  have h3 : 0 < 2 ^ k := Nat.pos_of_ne_zero (by simp)
  have h4 := Nat.mod_lt (n % ((2 ^ 64 : Nat) : Int)).toNat h3
  rw [key, wrap64_id (by omega) (by omega)]
  have hd : ((2 ^ k : Nat) : Int) ∣ ((2 ^ 64 : Nat) : Int) := by
    rw [Int.natCast_dvd_natCast]; exact Nat.pow_dvd_pow 2 (by omega)
  rw [Int.natCast_emod, Int.toNat_of_nonneg (Int.emod_nonneg _ (by decide)), Int.emod_emod_of_dvd n hd]
theorem i64_and15 (n : Int) : bits .and .i64 n 15 = n % 16 := i64_and n 4 15 (by decide) (by decide)
theorem i64_and4095 (n : Int) : bits .and .i64 n 4095 = n % 4096 := i64_and n 12 4095 (by decide) (by decide)
theorem ins_at {x : Int} (h0 : 0 ≤ x) (h1 : x < 4294967296) : (IntKind.wrap .i64 x).fdiv (2 ^ min (Int.toNat 24) (IntKind.bits .i64)) = (insOf x).op ∧
    bits .and .i64 ((IntKind.wrap .i64 x).fdiv (2 ^ min (Int.toNat 20) (IntKind.bits .i64))) 15 = (insOf x).a ∧ bits .and .i64 ((IntKind.wrap .i64 x).fdiv (2 ^ min (Int.toNat 16) (IntKind.bits .i64))) 15 = (insOf x).b ∧
    bits .and .i64 ((IntKind.wrap .i64 x).fdiv (2 ^ min (Int.toNat 12) (IntKind.bits .i64))) 15 = (insOf x).c ∧ bits .and .i64 (IntKind.wrap .i64 x) 4095 = (insOf x).imm := by
  rw [show min (Int.toNat 24) (IntKind.bits .i64) = 24 from rfl, show min (Int.toNat 20) (IntKind.bits .i64) = 20 from rfl, show min (Int.toNat 16) (IntKind.bits .i64) = 16 from rfl, show min (Int.toNat 12) (IntKind.bits .i64) = 12 from rfl]
  rw [show (2 : Int) ^ 24 = 16777216 by decide, show (2 : Int) ^ 20 = 1048576 by decide, show (2 : Int) ^ 16 = 65536 by decide, show (2 : Int) ^ 12 = 4096 by decide]
  rw [wrap64_id (by omega) (by omega), i64_and15, i64_and15, i64_and15, i64_and4095, fdivp (by decide), fdivp (by decide), fdivp (by decide), fdivp (by decide)]
  exact ⟨rfl, rfl, rfl, rfl, rfl⟩
attribute [local irreducible] CW OpsW RetW Spec blk snap DrawP AnyW AnyM AnyN bits IntKind.wrap vec itr asc eA
section
variable {z w : World} {As : List HP} {ads : List Addr}
theorem cvalid_ (H : Sat z w As) (h3 : GlobV As 1 (eA ads 3)) (h11 : GlobV As 4 (eA ads 11)) (i : Ins) :
    Spec cf 72 #[i.v] w fun e w' => e = eA ads i.ec ∧ Sat z w' As := by
  refine enter (l := [i.v]) Tryd.func72 rfl rfl rfl rfl rfl ?_
  repeat' (first | (refine zA ?_; first | refine zB ?_ | refine zC H ?_ | refine zD H ?_ | refine zE H fun _ _ H => ?_ | refine zF H fun _ _ H => ?_ | refine zG H fun _ H => ?_ | refine zH H fun _ H => ?_ | (refine OpsW.gs rfl rfl rfl (fun h => ?_) (fun h => ?_); fail_if_success (with_reducible have h2 : true = true := h); fail_if_success (with_reducible have h2 : false = true := h))) | (refine zI ?_; first | refine zJ ?_ | refine zK ?_ | refine zL ?_ | refine zM ?_ | refine zN ?_ | refine zO ?_ | refine zP ?_ | refine zQ ?_ | refine zR ?_ | (refine CW.cond rfl (fun h => ?_) (fun h => ?_))) | refine zS ?_)
  · refine OpsW.ldg H h11.tail rfl rfl rfl rfl rfl ?_
    repeat' (first | (refine zA ?_; first | refine zB ?_ | refine zC H ?_ | refine zD H ?_ | refine zE H fun _ _ H => ?_ | refine zF H fun _ _ H => ?_ | refine zG H fun _ H => ?_ | refine zH H fun _ H => ?_ | refine OpsW.mvF rfl rfl rfl ?_ | refine OpsW.asF rfl rfl rfl ?_ | refine OpsW.exF rfl rfl rfl rfl ?_ | refine OpsW.enE rfl rfl rfl rfl ?_ | refine OpsW.enN rfl rfl rfl rfl ?_) | (refine zI ?_; first | refine zJ ?_ | refine zK ?_ | refine zL ?_ | refine zM ?_ | refine zN ?_ | refine zO ?_ | refine zP ?_ | refine zQ ?_ | refine zR ?_) | refine zS ?_)
    exact ret1 (force_eq _) ⟨by rw [Ins.ec, if_pos (.inl (by simpa using h))]; rfl, H.drop⟩
  · rename_i h2
    refine OpsW.ldg H h11.tail rfl rfl rfl rfl rfl ?_
    repeat' (first | (refine zA ?_; first | refine zB ?_ | refine zC H ?_ | refine zD H ?_ | refine zE H fun _ _ H => ?_ | refine zF H fun _ _ H => ?_ | refine zG H fun _ H => ?_ | refine zH H fun _ H => ?_ | refine OpsW.mvF rfl rfl rfl ?_ | refine OpsW.asF rfl rfl rfl ?_ | refine OpsW.exF rfl rfl rfl rfl ?_ | refine OpsW.enE rfl rfl rfl rfl ?_ | refine OpsW.enN rfl rfl rfl rfl ?_) | (refine zI ?_; first | refine zJ ?_ | refine zK ?_ | refine zL ?_ | refine zM ?_ | refine zN ?_ | refine zO ?_ | refine zP ?_ | refine zQ ?_ | refine zR ?_) | refine zS ?_)
    exact ret1 (force_eq _) ⟨by rw [Ins.ec, if_pos (.inr (by simpa using h))]; rfl, H.drop⟩
  · rename_i h2
    have h5 : ¬ (i.op < 1 ∨ 13 < i.op) := by simp at h h2; omega
    refine OpsW.call rfl rfl rfl (cfits_ H i (by omega)) ?_
    rintro _ w ⟨rfl, H⟩
    cases hf : i.fit
    · repeat' (first | (refine zA ?_; first | refine zB ?_ | refine zC H ?_ | refine zD H ?_ | refine zE H fun _ _ H => ?_ | refine zF H fun _ _ H => ?_ | refine zG H fun _ H => ?_ | refine zH H fun _ H => ?_) | (refine zI ?_; first | refine zJ ?_ | refine zK ?_ | refine zL ?_ | refine zM ?_ | refine zN ?_ | refine zO ?_ | refine zP ?_ | refine zQ ?_ | refine zR ?_) | refine zS ?_)
      refine OpsW.ldg H h3.tail rfl rfl rfl rfl rfl ?_
      repeat' (first | (refine zA ?_; first | refine zB ?_ | refine zC H ?_ | refine zD H ?_ | refine zE H fun _ _ H => ?_ | refine zF H fun _ _ H => ?_ | refine zG H fun _ H => ?_ | refine zH H fun _ H => ?_ | refine OpsW.mvF rfl rfl rfl ?_ | refine OpsW.asF rfl rfl rfl ?_ | refine OpsW.exF rfl rfl rfl rfl ?_ | refine OpsW.enE rfl rfl rfl rfl ?_ | refine OpsW.enN rfl rfl rfl rfl ?_) | (refine zI ?_; first | refine zJ ?_ | refine zK ?_ | refine zL ?_ | refine zM ?_ | refine zN ?_ | refine zO ?_ | refine zP ?_ | refine zQ ?_ | refine zR ?_) | refine zS ?_)
      exact ret1 (force_eq _) ⟨by rw [Ins.ec, if_neg h5, hf]; rfl, H.drop⟩
    · repeat' (first | (refine zA ?_; first | refine zB ?_ | refine zC H ?_ | refine zD H ?_ | refine zE H fun _ _ H => ?_ | refine zF H fun _ _ H => ?_ | refine zG H fun _ H => ?_ | refine zH H fun _ H => ?_) | (refine zI ?_; first | refine zJ ?_ | refine zK ?_ | refine zL ?_ | refine zM ?_ | refine zN ?_ | refine zO ?_ | refine zP ?_ | refine zQ ?_ | refine zR ?_) | refine zS ?_)
      exact ret1 rfl ⟨by rw [Ins.ec, if_neg h5, hf]; exact eA_0.symm, H.drop⟩
theorem cread_ (H : Sat z w As) (h3 : GlobV As 1 (eA ads 3)) (h11 : GlobV As 4 (eA ads 11)) (x : Int) (h0 : 0 ≤ x) (h1 : x < 4294967296) :
    Spec cf 70 #[.int .u32 x] w fun e w' => e = .tuple #[(readP x).1.v, .bool (readP x).2] ∧ Sat z w' As := by
  refine enter (l := [.int .u32 x]) Tryd.func70 rfl rfl rfl rfl rfl ?_
  repeat' (first | (refine zA ?_; first | refine zB ?_ | refine zC H ?_ | refine zD H ?_ | refine zE H fun _ _ H => ?_ | refine zF H fun _ _ H => ?_ | refine zG H fun _ H => ?_ | refine zH H fun _ H => ?_) | (refine zI ?_; first | refine zJ ?_ | refine zK ?_ | refine zL ?_ | refine zM ?_ | refine zN ?_ | refine zO ?_ | refine zP ?_ | refine zQ ?_ | refine zR ?_) | refine zS ?_)
  obtain ⟨e1, e2, e3, e4, e5⟩ := ins_at h0 h1
  rw [e1, e2, e3, e4, e5] at H ⊢
  refine OpsW.call rfl rfl rfl (cvalid_ (ads := ads) H h3.tail.tail h11.tail.tail (insOf x)) ?_
  rintro _ w ⟨rfl, H⟩
  unfold readP
  by_cases hc : (insOf x).ec = 0
  · rw [hc, eA_0, if_pos rfl]
    repeat' (first | (refine zA ?_; first | refine zB ?_ | refine zC H ?_ | refine zD H ?_ | refine zE H fun _ _ H => ?_ | refine zF H fun _ _ H => ?_ | refine zG H fun _ H => ?_ | refine zH H fun _ H => ?_) | (refine zI ?_; first | refine zJ ?_ | refine zK ?_ | refine zL ?_ | refine zM ?_ | refine zN ?_ | refine zO ?_ | refine zP ?_ | refine zQ ?_ | refine zR ?_) | refine zS ?_)
    exact ret2c (resA H (by (first | exact p0 | exact p1 | exact p2 | exact p3 | exact p4 | exact p5 | exact p6 | exact p7)) rfl rfl (by rfl)) rfl ⟨rfl, by (first | exact H | exact H.drop | exact H.d2 | exact H.d3 | exact H.d4 | exact H.d5 | exact H.d6 | exact H.d7)⟩
  · rw [eA_pos hc, if_neg hc]
    repeat' (first | (refine zA ?_; first | refine zB ?_ | refine zC H ?_ | refine zD H ?_ | refine zE H fun _ _ H => ?_ | refine zF H fun _ _ H => ?_ | refine zG H fun _ H => ?_ | refine zH H fun _ H => ?_) | (refine zI ?_; first | refine zJ ?_ | refine zK ?_ | refine zL ?_ | refine zM ?_ | refine zN ?_ | refine zO ?_ | refine zP ?_ | refine zQ ?_ | refine zR ?_) | refine zS ?_)
    exact ret2c (resA H (by (first | exact p0 | exact p1 | exact p2 | exact p3 | exact p4 | exact p5 | exact p6 | exact p7)) rfl rfl (by rfl)) rfl ⟨rfl, by (first | exact H | exact H.drop | exact H.d2 | exact H.d3 | exact H.d4 | exact H.d5 | exact H.d6 | exact H.d7)⟩
end
end Go.Proofs.YtnfefbhjdncccaaDoor.X
