/- Contracts of chapter 14 (code): words read, and made; conditions: none. -/
import Derived.Test.YtnfefbhjdncccaaDoorA14
import Derived.Laws.BitsAllLaws
namespace Go.Proofs.YtnfefbhjdncccaaDoor.X
open Go Go.Proofs
set_option linter.unusedSimpArgs false
set_option linter.unusedVariables false
def insOf (x : Int) : Ins := ⟨x / 16777216, x / 1048576 % 16, x / 65536 % 16, x / 4096 % 16, x % 4096⟩
def Ins.z : Ins := ⟨0, 0, 0, 0, 0⟩
def readP (x : Int) : Ins × Bool := if (insOf x).ec = 0 then (insOf x, true) else (Ins.z, false)
def Ins.w (i : Ins) : Int := i.op * 16777216 + i.a * 1048576 + i.b * 65536 + i.c * 4096 + i.imm
structure Ins.rng (i : Ins) : Prop where
  o1 : 1 ≤ i.op
  o2 : i.op ≤ 13
  a1 : 0 ≤ i.a
  a2 : i.a < 16
  b1 : 0 ≤ i.b
  b2 : i.b < 16
  c1 : 0 ≤ i.c
  c2 : i.c < 16
  m1 : 0 ≤ i.imm
  m2 : i.imm < 4096
theorem ec_rng {i : Ins} (h : i.ec = 0) : i.rng := by
  obtain ⟨op, a, b, c, m⟩ := i
  unfold Ins.ec at h
  split at h
  · cases h
  rename_i h0
  split at h
  · rename_i h1
    dsimp only at h0
    unfold Ins.fit inR at h1
    dsimp only at h1
    repeat' split at h1
    all_goals
      simp only [Bool.and_eq_true, decide_eq_true_eq, beq_iff_eq] at h1
      constructor <;> dsimp only <;> omega
  · cases h
theorem insOf_w {i : Ins} (h : i.rng) : insOf i.w = i := by
  obtain ⟨op, a, b, c, m⟩ := i
  obtain ⟨h1, h2, h3, h4, h5, h6, h7, h8, h9, h10⟩ := h
  dsimp only at *
  unfold insOf Ins.w
  dsimp only
  congr 1 <;> omega
theorem w_rng {i : Ins} (h : i.rng) : 0 ≤ i.w ∧ i.w < 4294967296 := by
  obtain ⟨h1, h2, h3, h4, h5, h6, h7, h8, h9, h10⟩ := h
  unfold Ins.w; omega
theorem readP_w {i : Ins} (h : i.ec = 0) : readP i.w = (i, true) := by
  unfold readP; rw [insOf_w (ec_rng h), if_pos h]
theorem fdivp {a b : Int} (h : 0 ≤ b) : a.fdiv b = a / b := Int.fdiv_eq_ediv_of_nonneg a h
theorem i64_and (n : Int) (k m : Nat) (hk : k ≤ 62) (hm : (BitVec.ofInt 64 (m : Int)).toNat = 2 ^ k - 1) : bits .and .i64 n m = n % ((2 ^ k : Nat) : Int) := by
  have key : (BitVec.ofInt 64 n &&& BitVec.ofInt 64 (m : Int)).toNat = (n % ((2 ^ 64 : Nat) : Int)).toNat % 2 ^ k := by
    rw [BitVec.toNat_and, BitVec.toNat_ofInt, hm, Nat.and_two_pow_sub_one_eq_mod]
  show IntKind.i64.wrap ((BitVec.ofInt 64 n &&& BitVec.ofInt 64 (m : Int)).toNat : Nat) = _
  have h2 : 2 ^ k ≤ 2 ^ 62 := Nat.pow_le_pow_right (by decide) hk
  have h3 : 0 < 2 ^ k := Nat.pos_of_ne_zero (by simp)
  have h4 := Nat.mod_lt (n % ((2 ^ 64 : Nat) : Int)).toNat h3
  rw [key, wrap64_id (by omega) (by omega)]
  have hd : ((2 ^ k : Nat) : Int) ∣ ((2 ^ 64 : Nat) : Int) := by
    rw [Int.natCast_dvd_natCast]; exact Nat.pow_dvd_pow 2 (by omega)
  rw [Int.natCast_emod, Int.toNat_of_nonneg (Int.emod_nonneg _ (by decide)), Int.emod_emod_of_dvd n hd]
theorem i64_and15 (n : Int) : bits .and .i64 n 15 = n % 16 := i64_and n 4 15 (by decide) (by decide)
theorem i64_and4095 (n : Int) : bits .and .i64 n 4095 = n % 4096 := i64_and n 12 4095 (by decide) (by decide)
theorem i64_or_join {a b : Int} (i : Nat) (ha : 0 ≤ a) (ha2 : a < 4611686018427387904) (hb : 0 ≤ b) (hi : i ≤ 62) (hb2 : b < ((2 ^ i : Nat) : Int)) (hm : a % ((2 ^ i : Nat) : Int) = 0) : bits .or .i64 a b = a + b := by
  obtain ⟨m, rfl⟩ := Int.eq_ofNat_of_zero_le ha
  obtain ⟨n, rfl⟩ := Int.eq_ofNat_of_zero_le hb
  have h1 : n < 2 ^ i := by omega
  have h2 : 2 ^ i ≤ 2 ^ 62 := Nat.pow_le_pow_right (by decide) hi
  have h3 : m % 2 ^ i = 0 := by
    have h4 : ((m % 2 ^ i : Nat) : Int) = 0 := by rw [Int.natCast_emod]; exact hm
    omega
  show IntKind.i64.wrap ((BitVec.ofInt 64 (m : Int) ||| BitVec.ofInt 64 (n : Int)).toNat : Int) = _
  rw [BitVec.toNat_or, BitVec.ofInt_natCast, BitVec.ofInt_natCast, BitVec.toNat_ofNat, BitVec.toNat_ofNat, Nat.mod_eq_of_lt (by omega), Nat.mod_eq_of_lt (by omega), nat_join i m n h3 h1, wrap64_id (by omega) (by omega)]
  omega
theorem ins_at {x : Int} (h0 : 0 ≤ x) (h1 : x < 4294967296) : (IntKind.wrap .i64 x).fdiv (2 ^ min (Int.toNat 24) (IntKind.bits .i64)) = (insOf x).op ∧
    bits .and .i64 ((IntKind.wrap .i64 x).fdiv (2 ^ min (Int.toNat 20) (IntKind.bits .i64))) 15 = (insOf x).a ∧ bits .and .i64 ((IntKind.wrap .i64 x).fdiv (2 ^ min (Int.toNat 16) (IntKind.bits .i64))) 15 = (insOf x).b ∧
    bits .and .i64 ((IntKind.wrap .i64 x).fdiv (2 ^ min (Int.toNat 12) (IntKind.bits .i64))) 15 = (insOf x).c ∧ bits .and .i64 (IntKind.wrap .i64 x) 4095 = (insOf x).imm := by
  rw [show min (Int.toNat 24) (IntKind.bits .i64) = 24 from rfl, show min (Int.toNat 20) (IntKind.bits .i64) = 20 from rfl, show min (Int.toNat 16) (IntKind.bits .i64) = 16 from rfl, show min (Int.toNat 12) (IntKind.bits .i64) = 12 from rfl]
  rw [show (2 : Int) ^ 24 = 16777216 by decide, show (2 : Int) ^ 20 = 1048576 by decide, show (2 : Int) ^ 16 = 65536 by decide, show (2 : Int) ^ 12 = 4096 by decide]
  rw [wrap64_id (by omega) (by omega), i64_and15, i64_and15, i64_and15, i64_and4095, fdivp (by decide), fdivp (by decide), fdivp (by decide), fdivp (by decide)]
  exact ⟨rfl, rfl, rfl, rfl, rfl⟩
theorem ins_or {i : Ins} (h : i.rng) : IntKind.wrap .u32 (bits .or .i64 (bits .or .i64 (bits .or .i64 (bits .or .i64 (IntKind.wrap .i64 (i.op * 2 ^ min (Int.toNat 24) (IntKind.bits .i64))) (IntKind.wrap .i64 (i.a * 2 ^ min (Int.toNat 20) (IntKind.bits .i64)))) (IntKind.wrap .i64 (i.b * 2 ^ min (Int.toNat 16) (IntKind.bits .i64)))) (IntKind.wrap .i64 (i.c * 2 ^ min (Int.toNat 12) (IntKind.bits .i64)))) i.imm) = i.w := by
  obtain ⟨h1, h2, h3, h4, h5, h6, h7, h8, h9, h10⟩ := h
  rw [show min (Int.toNat 24) (IntKind.bits .i64) = 24 from rfl, show min (Int.toNat 20) (IntKind.bits .i64) = 20 from rfl, show min (Int.toNat 16) (IntKind.bits .i64) = 16 from rfl, show min (Int.toNat 12) (IntKind.bits .i64) = 12 from rfl]
  rw [show (2 : Int) ^ 24 = 16777216 by decide, show (2 : Int) ^ 20 = 1048576 by decide, show (2 : Int) ^ 16 = 65536 by decide, show (2 : Int) ^ 12 = 4096 by decide]
  rw [wrap64_id (n := i.op * 16777216) (by omega) (by omega), wrap64_id (n := i.a * 1048576) (by omega) (by omega), wrap64_id (n := i.b * 65536) (by omega) (by omega), wrap64_id (n := i.c * 4096) (by omega) (by omega)]
  rw [i64_or_join (a := i.op * 16777216) (b := i.a * 1048576) 24 (by omega) (by omega) (by omega) (by decide) (by omega) (by omega), i64_or_join (a := i.op * 16777216 + i.a * 1048576) (b := i.b * 65536) 20 (by omega) (by omega) (by omega) (by decide) (by omega) (by omega), i64_or_join (a := i.op * 16777216 + i.a * 1048576 + i.b * 65536) (b := i.c * 4096) 16 (by omega) (by omega) (by omega) (by decide) (by omega) (by omega), i64_or_join (a := i.op * 16777216 + i.a * 1048576 + i.b * 65536 + i.c * 4096) (b := i.imm) 12 (by omega) (by omega) (by omega) (by decide) (by omega) (by omega), wrapu32]
  unfold Ins.w; omega
attribute [local irreducible] CW OpsW RetW Spec blk snap DrawP AnyW AnyM AnyN bits IntKind.wrap vec itr asc eA
section
variable {z w : World} {As : List HP} {ads : List Addr}
theorem cvalid_ (H : Sat z w As) (h3 : GlobV As 1 (eA ads 3)) (h11 : GlobV As 4 (eA ads 11)) (i : Ins) :
    Spec cf 72 #[i.v] w fun e w' => e = eA ads i.ec ∧ Sat z w' As := by
  refine enter (l := [i.v]) Tryd.func72 rfl rfl rfl rfl rfl ?_
  repeat' (first | (refine OpsW.go ?_; first | refine OpsW.st rfl ?_ | refine OpsW.ld H (by (first | exact p0 | exact p1 | exact p2 | exact p3 | exact p4 | exact p5 | exact p6 | exact p7)) rfl rfl rfl rfl (by rfl) rfl ?_ | refine OpsW.ldA H (by (first | exact p0 | exact p1 | exact p2 | exact p3 | exact p4 | exact p5 | exact p6 | exact p7)) rfl rfl rfl (by rfl) rfl ?_ | refine OpsW.box H rfl rfl rfl fun _ _ H => ?_ | refine OpsW.alloc H rfl rfl rfl rfl fun _ _ H => ?_ | refine OpsW.str H (by (first | exact p0 | exact p1 | exact p2 | exact p3 | exact p4 | exact p5 | exact p6 | exact p7)) rfl rfl rfl rfl rfl rfl (by first | decide | (simp; done) | (simp; omega)) fun _ H => ?_ | refine OpsW.strA H (by (first | exact p0 | exact p1 | exact p2 | exact p3 | exact p4 | exact p5 | exact p6 | exact p7)) rfl rfl rfl rfl rfl rfl (by first | decide | (simp; done) | (simp; omega)) fun _ H => ?_ | (refine OpsW.gs rfl rfl rfl (fun h => ?_) (fun h => ?_); fail_if_success (with_reducible have h2 : true = true := h); fail_if_success (with_reducible have h2 : false = true := h))) | (refine CW.go ?_; first | refine CW.condT rfl ?_ | refine CW.condF rfl ?_ | refine CW.seqR ?_ | refine CW.seqD ?_ | refine CW.block ?_ | refine CW.region ?_ | refine CW.ret ?_ | refine CW.exit ?_ | refine CW.skip ?_ | (refine CW.cond rfl (fun h => ?_) (fun h => ?_))) | refine OpsW.nil ?_)
  · refine OpsW.ldg H h11.tail rfl rfl rfl rfl rfl ?_
    repeat' (first | (refine OpsW.go ?_; first | refine OpsW.st rfl ?_ | refine OpsW.ld H (by (first | exact p0 | exact p1 | exact p2 | exact p3 | exact p4 | exact p5 | exact p6 | exact p7)) rfl rfl rfl rfl (by rfl) rfl ?_ | refine OpsW.ldA H (by (first | exact p0 | exact p1 | exact p2 | exact p3 | exact p4 | exact p5 | exact p6 | exact p7)) rfl rfl rfl (by rfl) rfl ?_ | refine OpsW.box H rfl rfl rfl fun _ _ H => ?_ | refine OpsW.alloc H rfl rfl rfl rfl fun _ _ H => ?_ | refine OpsW.str H (by (first | exact p0 | exact p1 | exact p2 | exact p3 | exact p4 | exact p5 | exact p6 | exact p7)) rfl rfl rfl rfl rfl rfl (by first | decide | (simp; done) | (simp; omega)) fun _ H => ?_ | refine OpsW.strA H (by (first | exact p0 | exact p1 | exact p2 | exact p3 | exact p4 | exact p5 | exact p6 | exact p7)) rfl rfl rfl rfl rfl rfl (by first | decide | (simp; done) | (simp; omega)) fun _ H => ?_ | refine OpsW.mvF rfl rfl rfl ?_ | refine OpsW.asF rfl rfl rfl ?_ | refine OpsW.exF rfl rfl rfl rfl ?_ | refine OpsW.enE rfl rfl rfl rfl ?_ | refine OpsW.enN rfl rfl rfl rfl ?_) | (refine CW.go ?_; first | refine CW.condT rfl ?_ | refine CW.condF rfl ?_ | refine CW.seqR ?_ | refine CW.seqD ?_ | refine CW.block ?_ | refine CW.region ?_ | refine CW.ret ?_ | refine CW.exit ?_ | refine CW.skip ?_) | refine OpsW.nil ?_)
    exact ret1 (force_eq _) ⟨by rw [Ins.ec, if_pos (.inl (by simpa using h))]; rfl, H.drop⟩
  · rename_i h2
    refine OpsW.ldg H h11.tail rfl rfl rfl rfl rfl ?_
    repeat' (first | (refine OpsW.go ?_; first | refine OpsW.st rfl ?_ | refine OpsW.ld H (by (first | exact p0 | exact p1 | exact p2 | exact p3 | exact p4 | exact p5 | exact p6 | exact p7)) rfl rfl rfl rfl (by rfl) rfl ?_ | refine OpsW.ldA H (by (first | exact p0 | exact p1 | exact p2 | exact p3 | exact p4 | exact p5 | exact p6 | exact p7)) rfl rfl rfl (by rfl) rfl ?_ | refine OpsW.box H rfl rfl rfl fun _ _ H => ?_ | refine OpsW.alloc H rfl rfl rfl rfl fun _ _ H => ?_ | refine OpsW.str H (by (first | exact p0 | exact p1 | exact p2 | exact p3 | exact p4 | exact p5 | exact p6 | exact p7)) rfl rfl rfl rfl rfl rfl (by first | decide | (simp; done) | (simp; omega)) fun _ H => ?_ | refine OpsW.strA H (by (first | exact p0 | exact p1 | exact p2 | exact p3 | exact p4 | exact p5 | exact p6 | exact p7)) rfl rfl rfl rfl rfl rfl (by first | decide | (simp; done) | (simp; omega)) fun _ H => ?_ | refine OpsW.mvF rfl rfl rfl ?_ | refine OpsW.asF rfl rfl rfl ?_ | refine OpsW.exF rfl rfl rfl rfl ?_ | refine OpsW.enE rfl rfl rfl rfl ?_ | refine OpsW.enN rfl rfl rfl rfl ?_) | (refine CW.go ?_; first | refine CW.condT rfl ?_ | refine CW.condF rfl ?_ | refine CW.seqR ?_ | refine CW.seqD ?_ | refine CW.block ?_ | refine CW.region ?_ | refine CW.ret ?_ | refine CW.exit ?_ | refine CW.skip ?_) | refine OpsW.nil ?_)
    exact ret1 (force_eq _) ⟨by rw [Ins.ec, if_pos (.inr (by simpa using h))]; rfl, H.drop⟩
  · rename_i h2
    have h5 : ¬ (i.op < 1 ∨ 13 < i.op) := by simp at h h2; omega
    refine OpsW.call rfl rfl rfl (cfits_ H i (by omega)) ?_
    rintro _ w ⟨rfl, H⟩
    cases hf : i.fit
    · repeat' (first | (refine OpsW.go ?_; first | refine OpsW.st rfl ?_ | refine OpsW.ld H (by (first | exact p0 | exact p1 | exact p2 | exact p3 | exact p4 | exact p5 | exact p6 | exact p7)) rfl rfl rfl rfl (by rfl) rfl ?_ | refine OpsW.ldA H (by (first | exact p0 | exact p1 | exact p2 | exact p3 | exact p4 | exact p5 | exact p6 | exact p7)) rfl rfl rfl (by rfl) rfl ?_ | refine OpsW.box H rfl rfl rfl fun _ _ H => ?_ | refine OpsW.alloc H rfl rfl rfl rfl fun _ _ H => ?_ | refine OpsW.str H (by (first | exact p0 | exact p1 | exact p2 | exact p3 | exact p4 | exact p5 | exact p6 | exact p7)) rfl rfl rfl rfl rfl rfl (by first | decide | (simp; done) | (simp; omega)) fun _ H => ?_ | refine OpsW.strA H (by (first | exact p0 | exact p1 | exact p2 | exact p3 | exact p4 | exact p5 | exact p6 | exact p7)) rfl rfl rfl rfl rfl rfl (by first | decide | (simp; done) | (simp; omega)) fun _ H => ?_) | (refine CW.go ?_; first | refine CW.condT rfl ?_ | refine CW.condF rfl ?_ | refine CW.seqR ?_ | refine CW.seqD ?_ | refine CW.block ?_ | refine CW.region ?_ | refine CW.ret ?_ | refine CW.exit ?_ | refine CW.skip ?_) | refine OpsW.nil ?_)
      refine OpsW.ldg H h3.tail rfl rfl rfl rfl rfl ?_
      repeat' (first | (refine OpsW.go ?_; first | refine OpsW.st rfl ?_ | refine OpsW.ld H (by (first | exact p0 | exact p1 | exact p2 | exact p3 | exact p4 | exact p5 | exact p6 | exact p7)) rfl rfl rfl rfl (by rfl) rfl ?_ | refine OpsW.ldA H (by (first | exact p0 | exact p1 | exact p2 | exact p3 | exact p4 | exact p5 | exact p6 | exact p7)) rfl rfl rfl (by rfl) rfl ?_ | refine OpsW.box H rfl rfl rfl fun _ _ H => ?_ | refine OpsW.alloc H rfl rfl rfl rfl fun _ _ H => ?_ | refine OpsW.str H (by (first | exact p0 | exact p1 | exact p2 | exact p3 | exact p4 | exact p5 | exact p6 | exact p7)) rfl rfl rfl rfl rfl rfl (by first | decide | (simp; done) | (simp; omega)) fun _ H => ?_ | refine OpsW.strA H (by (first | exact p0 | exact p1 | exact p2 | exact p3 | exact p4 | exact p5 | exact p6 | exact p7)) rfl rfl rfl rfl rfl rfl (by first | decide | (simp; done) | (simp; omega)) fun _ H => ?_ | refine OpsW.mvF rfl rfl rfl ?_ | refine OpsW.asF rfl rfl rfl ?_ | refine OpsW.exF rfl rfl rfl rfl ?_ | refine OpsW.enE rfl rfl rfl rfl ?_ | refine OpsW.enN rfl rfl rfl rfl ?_) | (refine CW.go ?_; first | refine CW.condT rfl ?_ | refine CW.condF rfl ?_ | refine CW.seqR ?_ | refine CW.seqD ?_ | refine CW.block ?_ | refine CW.region ?_ | refine CW.ret ?_ | refine CW.exit ?_ | refine CW.skip ?_) | refine OpsW.nil ?_)
      exact ret1 (force_eq _) ⟨by rw [Ins.ec, if_neg h5, hf]; rfl, H.drop⟩
    · repeat' (first | (refine OpsW.go ?_; first | refine OpsW.st rfl ?_ | refine OpsW.ld H (by (first | exact p0 | exact p1 | exact p2 | exact p3 | exact p4 | exact p5 | exact p6 | exact p7)) rfl rfl rfl rfl (by rfl) rfl ?_ | refine OpsW.ldA H (by (first | exact p0 | exact p1 | exact p2 | exact p3 | exact p4 | exact p5 | exact p6 | exact p7)) rfl rfl rfl (by rfl) rfl ?_ | refine OpsW.box H rfl rfl rfl fun _ _ H => ?_ | refine OpsW.alloc H rfl rfl rfl rfl fun _ _ H => ?_ | refine OpsW.str H (by (first | exact p0 | exact p1 | exact p2 | exact p3 | exact p4 | exact p5 | exact p6 | exact p7)) rfl rfl rfl rfl rfl rfl (by first | decide | (simp; done) | (simp; omega)) fun _ H => ?_ | refine OpsW.strA H (by (first | exact p0 | exact p1 | exact p2 | exact p3 | exact p4 | exact p5 | exact p6 | exact p7)) rfl rfl rfl rfl rfl rfl (by first | decide | (simp; done) | (simp; omega)) fun _ H => ?_) | (refine CW.go ?_; first | refine CW.condT rfl ?_ | refine CW.condF rfl ?_ | refine CW.seqR ?_ | refine CW.seqD ?_ | refine CW.block ?_ | refine CW.region ?_ | refine CW.ret ?_ | refine CW.exit ?_ | refine CW.skip ?_) | refine OpsW.nil ?_)
      exact ret1 rfl ⟨by rw [Ins.ec, if_neg h5, hf]; exact eA_0.symm, H.drop⟩
theorem cread_ (H : Sat z w As) (h3 : GlobV As 1 (eA ads 3)) (h11 : GlobV As 4 (eA ads 11)) (x : Int) (h0 : 0 ≤ x) (h1 : x < 4294967296) :
    Spec cf 70 #[.int .u32 x] w fun e w' => e = .tuple #[(readP x).1.v, .bool (readP x).2] ∧ Sat z w' As := by
  refine enter (l := [.int .u32 x]) Tryd.func70 rfl rfl rfl rfl rfl ?_
  repeat' (first | (refine OpsW.go ?_; first | refine OpsW.st rfl ?_ | refine OpsW.ld H (by (first | exact p0 | exact p1 | exact p2 | exact p3 | exact p4 | exact p5 | exact p6 | exact p7)) rfl rfl rfl rfl (by rfl) rfl ?_ | refine OpsW.ldA H (by (first | exact p0 | exact p1 | exact p2 | exact p3 | exact p4 | exact p5 | exact p6 | exact p7)) rfl rfl rfl (by rfl) rfl ?_ | refine OpsW.box H rfl rfl rfl fun _ _ H => ?_ | refine OpsW.alloc H rfl rfl rfl rfl fun _ _ H => ?_ | refine OpsW.str H (by (first | exact p0 | exact p1 | exact p2 | exact p3 | exact p4 | exact p5 | exact p6 | exact p7)) rfl rfl rfl rfl rfl rfl (by first | decide | (simp; done) | (simp; omega)) fun _ H => ?_ | refine OpsW.strA H (by (first | exact p0 | exact p1 | exact p2 | exact p3 | exact p4 | exact p5 | exact p6 | exact p7)) rfl rfl rfl rfl rfl rfl (by first | decide | (simp; done) | (simp; omega)) fun _ H => ?_) | (refine CW.go ?_; first | refine CW.condT rfl ?_ | refine CW.condF rfl ?_ | refine CW.seqR ?_ | refine CW.seqD ?_ | refine CW.block ?_ | refine CW.region ?_ | refine CW.ret ?_ | refine CW.exit ?_ | refine CW.skip ?_) | refine OpsW.nil ?_)
  obtain ⟨e1, e2, e3, e4, e5⟩ := ins_at h0 h1
  rw [e1, e2, e3, e4, e5] at H ⊢
  refine OpsW.call rfl rfl rfl (cvalid_ (ads := ads) H h3.tail.tail h11.tail.tail (insOf x)) ?_
  rintro _ w ⟨rfl, H⟩
  unfold readP
  by_cases hc : (insOf x).ec = 0
  · rw [hc, eA_0, if_pos rfl]
    repeat' (first | (refine OpsW.go ?_; first | refine OpsW.st rfl ?_ | refine OpsW.ld H (by (first | exact p0 | exact p1 | exact p2 | exact p3 | exact p4 | exact p5 | exact p6 | exact p7)) rfl rfl rfl rfl (by rfl) rfl ?_ | refine OpsW.ldA H (by (first | exact p0 | exact p1 | exact p2 | exact p3 | exact p4 | exact p5 | exact p6 | exact p7)) rfl rfl rfl (by rfl) rfl ?_ | refine OpsW.box H rfl rfl rfl fun _ _ H => ?_ | refine OpsW.alloc H rfl rfl rfl rfl fun _ _ H => ?_ | refine OpsW.str H (by (first | exact p0 | exact p1 | exact p2 | exact p3 | exact p4 | exact p5 | exact p6 | exact p7)) rfl rfl rfl rfl rfl rfl (by first | decide | (simp; done) | (simp; omega)) fun _ H => ?_ | refine OpsW.strA H (by (first | exact p0 | exact p1 | exact p2 | exact p3 | exact p4 | exact p5 | exact p6 | exact p7)) rfl rfl rfl rfl rfl rfl (by first | decide | (simp; done) | (simp; omega)) fun _ H => ?_) | (refine CW.go ?_; first | refine CW.condT rfl ?_ | refine CW.condF rfl ?_ | refine CW.seqR ?_ | refine CW.seqD ?_ | refine CW.block ?_ | refine CW.region ?_ | refine CW.ret ?_ | refine CW.exit ?_ | refine CW.skip ?_) | refine OpsW.nil ?_)
    exact ret2c (resA H (by (first | exact p0 | exact p1 | exact p2 | exact p3 | exact p4 | exact p5 | exact p6 | exact p7)) rfl rfl (by rfl)) rfl ⟨rfl, by (first | exact H | exact H.drop | exact H.d2 | exact H.d3 | exact H.d4 | exact H.d5 | exact H.d6 | exact H.d7)⟩
  · rw [eA_pos hc, if_neg hc]
    repeat' (first | (refine OpsW.go ?_; first | refine OpsW.st rfl ?_ | refine OpsW.ld H (by (first | exact p0 | exact p1 | exact p2 | exact p3 | exact p4 | exact p5 | exact p6 | exact p7)) rfl rfl rfl rfl (by rfl) rfl ?_ | refine OpsW.ldA H (by (first | exact p0 | exact p1 | exact p2 | exact p3 | exact p4 | exact p5 | exact p6 | exact p7)) rfl rfl rfl (by rfl) rfl ?_ | refine OpsW.box H rfl rfl rfl fun _ _ H => ?_ | refine OpsW.alloc H rfl rfl rfl rfl fun _ _ H => ?_ | refine OpsW.str H (by (first | exact p0 | exact p1 | exact p2 | exact p3 | exact p4 | exact p5 | exact p6 | exact p7)) rfl rfl rfl rfl rfl rfl (by first | decide | (simp; done) | (simp; omega)) fun _ H => ?_ | refine OpsW.strA H (by (first | exact p0 | exact p1 | exact p2 | exact p3 | exact p4 | exact p5 | exact p6 | exact p7)) rfl rfl rfl rfl rfl rfl (by first | decide | (simp; done) | (simp; omega)) fun _ H => ?_) | (refine CW.go ?_; first | refine CW.condT rfl ?_ | refine CW.condF rfl ?_ | refine CW.seqR ?_ | refine CW.seqD ?_ | refine CW.block ?_ | refine CW.region ?_ | refine CW.ret ?_ | refine CW.exit ?_ | refine CW.skip ?_) | refine OpsW.nil ?_)
    exact ret2c (resA H (by (first | exact p0 | exact p1 | exact p2 | exact p3 | exact p4 | exact p5 | exact p6 | exact p7)) rfl rfl (by rfl)) rfl ⟨rfl, by (first | exact H | exact H.drop | exact H.d2 | exact H.d3 | exact H.d4 | exact H.d5 | exact H.d6 | exact H.d7)⟩
theorem cword_ (H : Sat z w As) (h3 : GlobV As 1 (eA ads 3)) (h11 : GlobV As 4 (eA ads 11)) (i : Ins) (hi : i.ec = 0) :
    Spec cf 35 #[i.v] w fun e w' => e = .tuple #[.int .u32 i.w, .nilIface] ∧ Sat z w' As := by
  refine enter (l := [i.v]) Tryd.func35 rfl rfl rfl rfl rfl ?_
  repeat' (first | (refine OpsW.go ?_; first | refine OpsW.st rfl ?_ | refine OpsW.ld H (by (first | exact p0 | exact p1 | exact p2 | exact p3 | exact p4 | exact p5 | exact p6 | exact p7)) rfl rfl rfl rfl (by rfl) rfl ?_ | refine OpsW.ldA H (by (first | exact p0 | exact p1 | exact p2 | exact p3 | exact p4 | exact p5 | exact p6 | exact p7)) rfl rfl rfl (by rfl) rfl ?_ | refine OpsW.box H rfl rfl rfl fun _ _ H => ?_ | refine OpsW.alloc H rfl rfl rfl rfl fun _ _ H => ?_ | refine OpsW.str H (by (first | exact p0 | exact p1 | exact p2 | exact p3 | exact p4 | exact p5 | exact p6 | exact p7)) rfl rfl rfl rfl rfl rfl (by first | decide | (simp; done) | (simp; omega)) fun _ H => ?_ | refine OpsW.strA H (by (first | exact p0 | exact p1 | exact p2 | exact p3 | exact p4 | exact p5 | exact p6 | exact p7)) rfl rfl rfl rfl rfl rfl (by first | decide | (simp; done) | (simp; omega)) fun _ H => ?_) | (refine CW.go ?_; first | refine CW.condT rfl ?_ | refine CW.condF rfl ?_ | refine CW.seqR ?_ | refine CW.seqD ?_ | refine CW.block ?_ | refine CW.region ?_ | refine CW.ret ?_ | refine CW.exit ?_ | refine CW.skip ?_) | refine OpsW.nil ?_)
  refine OpsW.call rfl rfl rfl (cvalid_ (ads := ads) H h3.tail h11.tail i) ?_
  rintro _ w ⟨rfl, H⟩
  rw [hi, eA_0]
  repeat' (first | (refine OpsW.go ?_; first | refine OpsW.st rfl ?_ | refine OpsW.ld H (by (first | exact p0 | exact p1 | exact p2 | exact p3 | exact p4 | exact p5 | exact p6 | exact p7)) rfl rfl rfl rfl (by rfl) rfl ?_ | refine OpsW.ldA H (by (first | exact p0 | exact p1 | exact p2 | exact p3 | exact p4 | exact p5 | exact p6 | exact p7)) rfl rfl rfl (by rfl) rfl ?_ | refine OpsW.box H rfl rfl rfl fun _ _ H => ?_ | refine OpsW.alloc H rfl rfl rfl rfl fun _ _ H => ?_ | refine OpsW.str H (by (first | exact p0 | exact p1 | exact p2 | exact p3 | exact p4 | exact p5 | exact p6 | exact p7)) rfl rfl rfl rfl rfl rfl (by first | decide | (simp; done) | (simp; omega)) fun _ H => ?_ | refine OpsW.strA H (by (first | exact p0 | exact p1 | exact p2 | exact p3 | exact p4 | exact p5 | exact p6 | exact p7)) rfl rfl rfl rfl rfl rfl (by first | decide | (simp; done) | (simp; omega)) fun _ H => ?_) | (refine CW.go ?_; first | refine CW.condT rfl ?_ | refine CW.condF rfl ?_ | refine CW.seqR ?_ | refine CW.seqD ?_ | refine CW.block ?_ | refine CW.region ?_ | refine CW.ret ?_ | refine CW.exit ?_ | refine CW.skip ?_) | refine OpsW.nil ?_)
  rw [ins_or (ec_rng hi)]
  exact ret2 rfl rfl ⟨rfl, by (first | exact H | exact H.drop | exact H.d2 | exact H.d3 | exact H.d4 | exact H.d5 | exact H.d6 | exact H.d7)⟩
set_option maxRecDepth 20000 in
theorem cwords_ {l : List Ins} {v : Value} (H : Sat z w As) (h3 : GlobV As 1 (eA ads 3)) (h11 : GlobV As 4 (eA ads 11)) (hl : l.length ≤ 100) (hv : SlR As v 5 l.length (l.flatMap Ins.l)) (hok : ∀ i ∈ l, i.ec = 0) :
    Spec cf 46 #[v] w fun e w' => ∃ a cap, e = .tuple #[.slice a l.length cap, .nilIface] ∧ Sat z w' (vec 23 a l.length cap 1 (l.map fun i => .int .u32 i.w) :: As) := by
  obtain ⟨a, cp, rfl⟩ := lenW hv
  refine enter (l := [.slice a l.length cp]) Tryd.func46 rfl rfl rfl rfl rfl ?_
  repeat' (first | (refine OpsW.go ?_; first | refine OpsW.st rfl ?_ | refine OpsW.ld H (by (first | exact p0 | exact p1 | exact p2 | exact p3 | exact p4 | exact p5 | exact p6 | exact p7)) rfl rfl rfl rfl (by rfl) rfl ?_ | refine OpsW.ldA H (by (first | exact p0 | exact p1 | exact p2 | exact p3 | exact p4 | exact p5 | exact p6 | exact p7)) rfl rfl rfl (by rfl) rfl ?_ | refine OpsW.box H rfl rfl rfl fun _ _ H => ?_ | refine OpsW.alloc H rfl rfl rfl rfl fun _ _ H => ?_ | refine OpsW.str H (by (first | exact p0 | exact p1 | exact p2 | exact p3 | exact p4 | exact p5 | exact p6 | exact p7)) rfl rfl rfl rfl rfl rfl (by first | decide | (simp; done) | (simp; omega)) fun _ H => ?_ | refine OpsW.strA H (by (first | exact p0 | exact p1 | exact p2 | exact p3 | exact p4 | exact p5 | exact p6 | exact p7)) rfl rfl rfl rfl rfl rfl (by first | decide | (simp; done) | (simp; omega)) fun _ H => ?_) | (refine CW.go ?_; first | refine CW.condT rfl ?_ | refine CW.condF rfl ?_ | refine CW.seqR ?_ | refine CW.seqD ?_ | refine CW.block ?_ | refine CW.region ?_ | refine CW.ret ?_ | refine CW.exit ?_ | refine CW.skip ?_) | refine OpsW.nil ?_)
  refine CW.loopF (X := Nat × (Option Addr × Nat)) (fun j => Nat.ble 4 j && Nat.ble j 8 || Nat.ble 11 j) (fun x => [(11, .int .i64 (x.1 : Int)), (4, .slice x.2.1 x.1 x.2.2)]) (fun x w => x.1 ≤ l.length ∧ Sat z w (vec 23 x.2.1 x.1 x.2.2 1 ((l.take x.1).map fun i => .int .u32 i.w) :: As)) (fun x => l.length - x.1) (0, none, 0) ⟨rfl, rfl, trivial⟩ ⟨Nat.zero_le _, H.vnil⟩ ?_
  clear H
  rintro ⟨i, a1, cap1⟩ τ w ⟨hi, H⟩
  dsimp only at hi H
  repeat' (first | (refine OpsW.go ?_; first | refine OpsW.st rfl ?_ | refine OpsW.ld H (by (first | exact p0 | exact p1 | exact p2 | exact p3 | exact p4 | exact p5 | exact p6 | exact p7)) rfl rfl rfl rfl (by rfl) rfl ?_ | refine OpsW.ldA H (by (first | exact p0 | exact p1 | exact p2 | exact p3 | exact p4 | exact p5 | exact p6 | exact p7)) rfl rfl rfl (by rfl) rfl ?_ | refine OpsW.box H rfl rfl rfl fun _ _ H => ?_ | refine OpsW.alloc H rfl rfl rfl rfl fun _ _ H => ?_ | refine OpsW.str H (by (first | exact p0 | exact p1 | exact p2 | exact p3 | exact p4 | exact p5 | exact p6 | exact p7)) rfl rfl rfl rfl rfl rfl (by first | decide | (simp; done) | (simp; omega)) fun _ H => ?_ | refine OpsW.strA H (by (first | exact p0 | exact p1 | exact p2 | exact p3 | exact p4 | exact p5 | exact p6 | exact p7)) rfl rfl rfl rfl rfl rfl (by first | decide | (simp; done) | (simp; omega)) fun _ H => ?_) | (refine CW.go ?_; first | refine CW.condT rfl ?_ | refine CW.condF rfl ?_ | refine CW.seqR ?_ | refine CW.seqD ?_ | refine CW.block ?_ | refine CW.region ?_ | refine CW.ret ?_ | refine CW.exit ?_ | refine CW.skip ?_) | refine OpsW.nil ?_)
  refine CW.cond rfl (fun h => ?_) (fun h => ?_)
  · have hil : i < l.length := by simpa using h
    have hvs : ((l.flatMap Ins.l).drop (i * 5)).take 5 = l[i].l := by have := fl_take (c := Ins.l) (sz := 5) (fun _ => rfl) l [] i hil; rwa [List.append_nil] at this
    have hx0 := hok l[i] (List.getElem_mem hil)
    repeat' (first | (refine OpsW.go ?_; first | refine OpsW.st rfl ?_ | refine OpsW.ld H (by (first | exact p0 | exact p1 | exact p2 | exact p3 | exact p4 | exact p5 | exact p6 | exact p7)) rfl rfl rfl rfl (by rfl) rfl ?_ | refine OpsW.ldA H (by (first | exact p0 | exact p1 | exact p2 | exact p3 | exact p4 | exact p5 | exact p6 | exact p7)) rfl rfl rfl (by rfl) rfl ?_ | refine OpsW.box H rfl rfl rfl fun _ _ H => ?_ | refine OpsW.alloc H rfl rfl rfl rfl fun _ _ H => ?_ | refine OpsW.str H (by (first | exact p0 | exact p1 | exact p2 | exact p3 | exact p4 | exact p5 | exact p6 | exact p7)) rfl rfl rfl rfl rfl rfl (by first | decide | (simp; done) | (simp; omega)) fun _ H => ?_ | refine OpsW.strA H (by (first | exact p0 | exact p1 | exact p2 | exact p3 | exact p4 | exact p5 | exact p6 | exact p7)) rfl rfl rfl rfl rfl rfl (by first | decide | (simp; done) | (simp; omega)) fun _ H => ?_) | (refine CW.go ?_; first | refine CW.condT rfl ?_ | refine CW.condF rfl ?_ | refine CW.seqR ?_ | refine CW.seqD ?_ | refine CW.block ?_ | refine CW.region ?_ | refine CW.ret ?_ | refine CW.exit ?_ | refine CW.skip ?_) | refine OpsW.nil ?_)
    refine OpsW.ixldA H hv.tail rfl (fun _ => rfl) rfl rfl rfl rfl rfl rfl rfl rfl hil hvs rfl rfl fun pp => ?_
    repeat' (first | (refine OpsW.go ?_; first | refine OpsW.st rfl ?_ | refine OpsW.ld H (by (first | exact p0 | exact p1 | exact p2 | exact p3 | exact p4 | exact p5 | exact p6 | exact p7)) rfl rfl rfl rfl (by rfl) rfl ?_ | refine OpsW.ldA H (by (first | exact p0 | exact p1 | exact p2 | exact p3 | exact p4 | exact p5 | exact p6 | exact p7)) rfl rfl rfl (by rfl) rfl ?_ | refine OpsW.box H rfl rfl rfl fun _ _ H => ?_ | refine OpsW.alloc H rfl rfl rfl rfl fun _ _ H => ?_ | refine OpsW.str H (by (first | exact p0 | exact p1 | exact p2 | exact p3 | exact p4 | exact p5 | exact p6 | exact p7)) rfl rfl rfl rfl rfl rfl (by first | decide | (simp; done) | (simp; omega)) fun _ H => ?_ | refine OpsW.strA H (by (first | exact p0 | exact p1 | exact p2 | exact p3 | exact p4 | exact p5 | exact p6 | exact p7)) rfl rfl rfl rfl rfl rfl (by first | decide | (simp; done) | (simp; omega)) fun _ H => ?_) | (refine CW.go ?_; first | refine CW.condT rfl ?_ | refine CW.condF rfl ?_ | refine CW.seqR ?_ | refine CW.seqD ?_ | refine CW.block ?_ | refine CW.region ?_ | refine CW.ret ?_ | refine CW.exit ?_ | refine CW.skip ?_) | refine OpsW.nil ?_)
    refine OpsW.call rfl rfl rfl (cword_ (ads := ads) H h3.tail.tail h11.tail.tail l[i] hx0) ?_
    rintro _ w ⟨rfl, H⟩
    repeat' (first | (refine OpsW.go ?_; first | refine OpsW.st rfl ?_ | refine OpsW.ld H (by (first | exact p0 | exact p1 | exact p2 | exact p3 | exact p4 | exact p5 | exact p6 | exact p7)) rfl rfl rfl rfl (by rfl) rfl ?_ | refine OpsW.ldA H (by (first | exact p0 | exact p1 | exact p2 | exact p3 | exact p4 | exact p5 | exact p6 | exact p7)) rfl rfl rfl (by rfl) rfl ?_ | refine OpsW.box H rfl rfl rfl fun _ _ H => ?_ | refine OpsW.alloc H rfl rfl rfl rfl fun _ _ H => ?_ | refine OpsW.str H (by (first | exact p0 | exact p1 | exact p2 | exact p3 | exact p4 | exact p5 | exact p6 | exact p7)) rfl rfl rfl rfl rfl rfl (by first | decide | (simp; done) | (simp; omega)) fun _ H => ?_ | refine OpsW.strA H (by (first | exact p0 | exact p1 | exact p2 | exact p3 | exact p4 | exact p5 | exact p6 | exact p7)) rfl rfl rfl rfl rfl rfl (by first | decide | (simp; done) | (simp; omega)) fun _ H => ?_) | (refine CW.go ?_; first | refine CW.condT rfl ?_ | refine CW.condF rfl ?_ | refine CW.seqR ?_ | refine CW.seqD ?_ | refine CW.block ?_ | refine CW.region ?_ | refine CW.ret ?_ | refine CW.exit ?_ | refine CW.skip ?_) | refine OpsW.nil ?_)
    refine OpsW.bsl H rfl rfl rfl rfl rfl rfl rfl rfl fun bb w H => ?_
    repeat' (first | (refine OpsW.go ?_; first | refine OpsW.st rfl ?_ | refine OpsW.ld H (by (first | exact p0 | exact p1 | exact p2 | exact p3 | exact p4 | exact p5 | exact p6 | exact p7)) rfl rfl rfl rfl (by rfl) rfl ?_ | refine OpsW.ldA H (by (first | exact p0 | exact p1 | exact p2 | exact p3 | exact p4 | exact p5 | exact p6 | exact p7)) rfl rfl rfl (by rfl) rfl ?_ | refine OpsW.box H rfl rfl rfl fun _ _ H => ?_ | refine OpsW.alloc H rfl rfl rfl rfl fun _ _ H => ?_ | refine OpsW.str H (by (first | exact p0 | exact p1 | exact p2 | exact p3 | exact p4 | exact p5 | exact p6 | exact p7)) rfl rfl rfl rfl rfl rfl (by first | decide | (simp; done) | (simp; omega)) fun _ H => ?_ | refine OpsW.strA H (by (first | exact p0 | exact p1 | exact p2 | exact p3 | exact p4 | exact p5 | exact p6 | exact p7)) rfl rfl rfl rfl rfl rfl (by first | decide | (simp; done) | (simp; omega)) fun _ H => ?_) | (refine CW.go ?_; first | refine CW.condT rfl ?_ | refine CW.condF rfl ?_ | refine CW.seqR ?_ | refine CW.seqD ?_ | refine CW.block ?_ | refine CW.region ?_ | refine CW.ret ?_ | refine CW.exit ?_ | refine CW.skip ?_) | refine OpsW.nil ?_)
    refine OpsW.vapp (n2 := 1) (c2 := [.int .u32 l[i].w]) H (pS (pS p0)) (SlR.of_blk (r := []) rfl (Nat.le_refl 1)) rfl (by omega) (by omega) rfl rfl rfl rfl rfl rfl rfl rfl rfl fun a2 cap2 w H => ?_
    repeat' (first | (refine OpsW.go ?_; first | refine OpsW.st rfl ?_ | refine OpsW.ld H (by (first | exact p0 | exact p1 | exact p2 | exact p3 | exact p4 | exact p5 | exact p6 | exact p7)) rfl rfl rfl rfl (by rfl) rfl ?_ | refine OpsW.ldA H (by (first | exact p0 | exact p1 | exact p2 | exact p3 | exact p4 | exact p5 | exact p6 | exact p7)) rfl rfl rfl (by rfl) rfl ?_ | refine OpsW.box H rfl rfl rfl fun _ _ H => ?_ | refine OpsW.alloc H rfl rfl rfl rfl fun _ _ H => ?_ | refine OpsW.str H (by (first | exact p0 | exact p1 | exact p2 | exact p3 | exact p4 | exact p5 | exact p6 | exact p7)) rfl rfl rfl rfl rfl rfl (by first | decide | (simp; done) | (simp; omega)) fun _ H => ?_ | refine OpsW.strA H (by (first | exact p0 | exact p1 | exact p2 | exact p3 | exact p4 | exact p5 | exact p6 | exact p7)) rfl rfl rfl rfl rfl rfl (by first | decide | (simp; done) | (simp; omega)) fun _ H => ?_) | (refine CW.go ?_; first | refine CW.condT rfl ?_ | refine CW.condF rfl ?_ | refine CW.seqR ?_ | refine CW.seqD ?_ | refine CW.block ?_ | refine CW.region ?_ | refine CW.ret ?_ | refine CW.exit ?_ | refine CW.skip ?_) | refine OpsW.nil ?_)
    exact ⟨(i + 1, a2, cap2), (by (repeat (first | (with_reducible exact Agree.refl _ _) | (with_reducible refine Agree.trim (by assumption) ?_) | refine Agree.upd ?_ rfl | exact Agree.mix' | refine Agree.mixL ?_ (fun j h => by simp only [Bool.or_eq_true, Bool.and_eq_true, Nat.beq_eq, Nat.ble_eq] at h ⊢; omega) rfl))), ⟨nat_succ (n := l.length) hil (by omega), rfl, trivial⟩, ⟨hil, by rw [List.take_succ_eq_append_getElem hil, List.map_append]; exact (H.perm (pS (pS p0)).symm).drop.drop⟩, by show l.length - (i + 1) < l.length - i; omega⟩
  · have : i = l.length := by have := of_decide_eq_false h; have h4 : ¬ (i : Int) < l.length := this; omega
    subst this
    rw [List.take_length] at H
    repeat' (first | (refine OpsW.go ?_; first | refine OpsW.st rfl ?_ | refine OpsW.ld H (by (first | exact p0 | exact p1 | exact p2 | exact p3 | exact p4 | exact p5 | exact p6 | exact p7)) rfl rfl rfl rfl (by rfl) rfl ?_ | refine OpsW.ldA H (by (first | exact p0 | exact p1 | exact p2 | exact p3 | exact p4 | exact p5 | exact p6 | exact p7)) rfl rfl rfl (by rfl) rfl ?_ | refine OpsW.box H rfl rfl rfl fun _ _ H => ?_ | refine OpsW.alloc H rfl rfl rfl rfl fun _ _ H => ?_ | refine OpsW.str H (by (first | exact p0 | exact p1 | exact p2 | exact p3 | exact p4 | exact p5 | exact p6 | exact p7)) rfl rfl rfl rfl rfl rfl (by first | decide | (simp; done) | (simp; omega)) fun _ H => ?_ | refine OpsW.strA H (by (first | exact p0 | exact p1 | exact p2 | exact p3 | exact p4 | exact p5 | exact p6 | exact p7)) rfl rfl rfl rfl rfl rfl (by first | decide | (simp; done) | (simp; omega)) fun _ H => ?_) | (refine CW.go ?_; first | refine CW.condT rfl ?_ | refine CW.condF rfl ?_ | refine CW.seqR ?_ | refine CW.seqD ?_ | refine CW.block ?_ | refine CW.region ?_ | refine CW.ret ?_ | refine CW.exit ?_ | refine CW.skip ?_) | refine OpsW.nil ?_)
    exact ret2 rfl rfl ⟨a1, cap1, rfl, H⟩
end
end Go.Proofs.YtnfefbhjdncccaaDoor.X
