/- Chapter 17: what a step leaves in its bounds; conditions: none. -/
import Derived.Test.YtnfefbhjdncccaaDoorP17
import Derived.Test.YtnfefbhjdncccaaDoorX27
namespace Go.Proofs.YtnfefbhjdncccaaDoor.X
open Go Go.Proofs
set_option linter.unusedSimpArgs false
set_option linter.unusedVariables false
def rngG (g : Nat → Nat → Int) : Prop := ∀ p c, 0 ≤ g p c ∧ g p c < 4294967296
theorem bits_and_rng (a b : Int) : 0 ≤ bits .and .u32 a b ∧ bits .and .u32 a b < 4294967296 := by
  show 0 ≤ IntKind.u32.wrap _ ∧ IntKind.u32.wrap _ < 4294967296
  rw [wrapu32]; omega
theorem bits_or_rng (a b : Int) : 0 ≤ bits .or .u32 a b ∧ bits .or .u32 a b < 4294967296 := by
  show 0 ≤ IntKind.u32.wrap _ ∧ IntKind.u32.wrap _ < 4294967296
  rw [wrapu32]; omega
theorem bits_xor_rng (a b : Int) : 0 ≤ bits .xor .u32 a b ∧ bits .xor .u32 a b < 4294967296 := by
  show 0 ≤ IntKind.u32.wrap _ ∧ IntKind.u32.wrap _ < 4294967296
  rw [wrapu32]; omega
theorem b2w_rng (x : Bool) : 0 ≤ b2w x ∧ b2w x < 4294967296 := by cases x <;> decide
theorem wdo_rng {op a b : Int} (ha : 0 ≤ a) (ha2 : a < 4294967296) (hb : 0 ≤ b) (hb2 : b < 4294967296) : 0 ≤ (wdo op a b).1 ∧ (wdo op a b).1 < 4294967296 := by
  by_cases h0 : op = 0
  · subst h0; show 0 ≤ (a + b) % 4294967296 ∧ (a + b) % 4294967296 < 4294967296; omega
  by_cases h1 : op = 1
  · subst h1; show 0 ≤ (a - b) % 4294967296 ∧ (a - b) % 4294967296 < 4294967296; omega
  by_cases h2 : op = 2
  · subst h2; show 0 ≤ (a * b) % 4294967296 ∧ (a * b) % 4294967296 < 4294967296; omega
  by_cases h3 : op = 3
  · subst h3
    show 0 ≤ (if b = 0 then 0 else a.tdiv b % 4294967296) ∧ (if b = 0 then 0 else a.tdiv b % 4294967296) < 4294967296
    by_cases h : b = 0
    · rw [if_pos h]; decide
    · rw [if_neg h]; omega
  by_cases h4 : op = 4
  · subst h4
    show 0 ≤ (if b = 0 then 0 else a.tmod b) ∧ (if b = 0 then 0 else a.tmod b) < 4294967296
    by_cases h : b = 0
    · rw [if_pos h]; decide
    · rw [if_neg h, Int.tmod_eq_emod_of_nonneg ha]
      have := Int.emod_nonneg a (b := b) (by omega)
      have := Int.emod_lt_of_pos a (b := b) (by omega)
      omega
  by_cases h5 : op = 5
  · subst h5; exact bits_and_rng a b
  by_cases h6 : op = 6
  · subst h6; exact bits_or_rng a b
  by_cases h7 : op = 7
  · subst h7; exact bits_xor_rng a b
  by_cases h8 : op = 8
  · subst h8; show 0 ≤ (a * 2 ^ min b.toNat 32) % 4294967296 ∧ (a * 2 ^ min b.toNat 32) % 4294967296 < 4294967296; omega
  by_cases h9 : op = 9
  · subst h9
    have hp : (0 : Int) ≤ 2 ^ min b.toNat 32 := Int.pow_nonneg (by decide)
    have h1 := Int.ediv_nonneg ha hp
    have h2 := Int.ediv_le_self (2 ^ min b.toNat 32) ha
    show 0 ≤ a.fdiv (2 ^ min b.toNat 32) ∧ a.fdiv (2 ^ min b.toNat 32) < 4294967296
    rw [Int.fdiv_eq_ediv_of_nonneg _ hp]
    omega
  by_cases h10 : op = 10
  · subst h10; exact b2w_rng _
  by_cases h11 : op = 11
  · subst h11; exact b2w_rng _
  · rw [show wdo op a b = (0, false) by unfold wdo; rw [if_neg h0, if_neg h1, if_neg h2, if_neg h3, if_neg h4, if_neg h5, if_neg h6, if_neg h7, if_neg h8, if_neg h9, if_neg h10, if_neg h11]]
    decide
theorem t17_saveS {g : Nat → Nat → Int} (hg : rngG g) (k : K) (addr : Int) {x : Int} (h0 : 0 ≤ x) (h1 : x < 4294967296) : ∃ g', rngG g' ∧ (t17 g).saveS k addr x = t17 g' := by
  unfold St.saveS
  split
  · unfold St.setW
    split
    · refine ⟨_, ?_, rfl⟩
      intro p c
      dsimp only
      split
      · dsimp only
        split
        · exact ⟨h0, h1⟩
        · exact hg _ _
      · exact hg _ _
    · exact ⟨g, hg, rfl⟩
  · exact ⟨g, hg, rfl⟩
theorem doP_inv {g : Nat → Nat → Int} (hg : rngG g) {d : Dm} (hd : DOk d) {i : Ins} (hi : i.ec = 0) : ∃ g', rngG g' ∧ (doP (t17 g) d i).2.2 = t17 g' ∧ DOk (doP (t17 g) d i).2.1 := by
  have hR := ec_rng hi
  obtain ⟨op, a, b, c, m⟩ := i
  obtain ⟨o1, o2, a1, a2, b1, b2, c1, c2, m1, m2⟩ := hR
  dsimp only at o1 o2 a1 a2 b1 b2 c1 c2 m1 m2
  have hlr := fun (k : K) (x : Int) => load_rng (t17_m hg (hb := 0) (by decide)) k x
  rcases (show op = 1 ∨ op = 2 ∨ op = 3 ∨ op = 4 ∨ op = 5 ∨ op = 6 ∨ op = 7 ∨ op = 8 ∨ op = 9 ∨ op = 10 ∨ op = 11 ∨ op = 12 ∨ op = 13 by omega) with rfl | rfl | rfl | rfl | rfl | rfl | rfl | rfl | rfl | rfl | rfl | rfl | rfl
  · exact ⟨g, hg, rfl, hd.setR m1 (show m < 4294967296 by omega)⟩
  · exact ⟨g, hg, rfl, hd.setR (by omega) (by omega)⟩
  · have := wdo_rng (op := m) (hd.r0 b.toNat) (hd.r1 b.toNat) (hd.r0 c.toNat) (hd.r1 c.toNat)
    exact ⟨g, hg, rfl, hd.setR this.1 this.2⟩
  · exact ⟨g, hg, rfl, hd.setPC m1 (show m < 4294967296 by omega)⟩
  · refine ⟨g, hg, rfl, ?_⟩
    show DOk (if d.r a.toNat = 0 then d.setPC m else d)
    split
    · exact hd.setPC m1 (show m < 4294967296 by omega)
    · exact hd
  · have e : doP (t17 g) d ⟨6, a, b, c, m⟩ = (if ((t17 g).load d.mem ((d.r b.toNat + m) % 4294967296)).2 ≠ 0 then (Ev.bad ((t17 g).load d.mem ((d.r b.toNat + m) % 4294967296)).2 ((d.r b.toNat + m) % 4294967296), d, t17 g) else (Ev.of 0, d.setR a.toNat ((t17 g).load d.mem ((d.r b.toNat + m) % 4294967296)).1, t17 g)) := rfl
    rw [e]
    split
    · exact ⟨g, hg, rfl, hd⟩
    · exact ⟨g, hg, rfl, hd.setR (hlr _ _).1 (hlr _ _).2⟩
  · have e : doP (t17 g) d ⟨7, a, b, c, m⟩ = (if (t17 g).save d.mem ((d.r b.toNat + m) % 4294967296) ≠ 0 then (Ev.bad ((t17 g).save d.mem ((d.r b.toNat + m) % 4294967296)) ((d.r b.toNat + m) % 4294967296), d, t17 g) else (Ev.of 0, d, (t17 g).saveS d.mem ((d.r b.toNat + m) % 4294967296) (d.r a.toNat))) := rfl
    rw [e]
    split
    · exact ⟨g, hg, rfl, hd⟩
    · obtain ⟨g', h1, h2⟩ := t17_saveS hg d.mem ((d.r b.toNat + m) % 4294967296) (hd.r0 a.toNat) (hd.r1 a.toNat)
      exact ⟨g', h1, h2, hd⟩
  · exact ⟨g, hg, rfl, hd.setK (hd.k0 _) (hd.k1 _)⟩
  · exact ⟨g, hg, rfl, hd.setK (hd.r0 _) (hd.r1 _)⟩
  · refine ⟨g, hg, rfl, ?_⟩
    show DOk (d.setR a.toNat (if (d.k b.toNat).kind = 1 then (d.k b.toNat).data else 0))
    split
    · exact hd.setR (hd.k0 _) (hd.k1 _)
    · exact hd.setR (by decide) (by decide)
  · exact ⟨g, hg, rfl, hd⟩
  · exact ⟨g, hg, rfl, hd⟩
  · exact ⟨g, hg, rfl, hd⟩
theorem stepP_inv {g : Nat → Nat → Int} (hg : rngG g) {d : Dm} (hd : DOk d) : ∃ g', rngG g' ∧ (stepP (t17 g) d).2.2 = t17 g' ∧ DOk (stepP (t17 g) d).2.1 := by
  unfold stepP
  split
  · exact ⟨g, hg, rfl, hd⟩
  split
  · exact ⟨g, hg, rfl, hd⟩
  · rename_i h1 h2
    have hp : DOk (d.setPC ((d.pc + 1) % 4294967296)) := hd.setPC (by omega) (by omega)
    obtain ⟨g', e1, e2, e3⟩ := doP_inv hg hp (readP_ec h2)
    refine ⟨g', e1, e2, ?_⟩
    dsimp only
    split
    · exact e3.setPC hd.p0 hd.p1
    · exact e3
end Go.Proofs.YtnfefbhjdncccaaDoor.X

namespace Go.Proofs.YtnfefbhjdncccaaDoor.X
open Go
set_option linter.unusedSimpArgs false
set_option linter.unusedVariables false
section
variable {C : Cfg} {N n : Nat} {σ σ' : Env} {w : World} {l : List Oper} {M : List Bool} {Q : Env → World → Prop} {x y : Operand} {d t sz b off : Nat} {ty : TypeId} {pos : String} {af : Array Edge} {g : Option (Nat × Bool)}
theorem AnyN.takeIx {i k len cap : Nat} {z : Int} {kd : IntKind} (hM : M[i]? = some false) (ho : l[i]? = some ⟨some d, .indexAddr t x y, ty, pos, af, g⟩) (hg : wan (dsts l) σ g = some true) (hx : ev σ x = .slice (some ⟨b, off, none⟩) len cap) (hy : ev σ y = .int kd z) (hk : Nat.beq (C.T.kind.getD t 0) 4 = true) (he : Nat.blt 0 (C.T.kind.getD (C.T.elem.getD t 0) 0) = true)
    (hsz : C.T.size[C.T.elem.getD t 0]? = some sz) (hn : z = k) (hl : k < len) (hd : Nat.blt d N = true) (hf : takeOk l M i = true) (h : AnyN C N l n (M.set i true) (upd σ d (.pointer (some ⟨b, off + k * sz, none⟩))) w Q) : AnyN C N l (n + 1) M σ w Q := by
  have hsz' : C.T.size.getD (C.T.elem.getD t 0) 0 = sz := by rw [List.getD_eq_getElem?_getD, hsz]; rfl
  subst hn
  refine .takeG (v := .pointer (some ⟨b, off + k * sz, none⟩)) hM ho hg (fun w => run_v ?_) (by simp only [putE, hd]) hf h
  have hu := Tab.slice_ C.ok (Nat.eq_of_beq_eq_true hk)
  obtain ⟨ie, hie, hse⟩ := Tab.info_ C.ok (rfl : C.T.kind.getD (C.T.elem.getD t 0) 0 = _) (by have := Nat.le_of_ble_eq_true he; omega)
  simp only [Instr.indexAt, hx, hy, asIntOf, Sem.run_bind, Sem.run_pure, Result.andThen_ok, run_und hu]
  rw [if_pos ⟨by omega, by omega⟩]
  simp only [Sem.run_bind, run_sizeOf hie, Result.andThen_ok, Sem.run_pure, add_off, hse, hsz']
  simp
theorem AnyN.takeSA {i k : Nat} (hM : M[i]? = some false) (ho : l[i]? = some ⟨some d, .slice t x none none none, ty, pos, af, g⟩) (hg : wan (dsts l) σ g = some true) (hx : ev σ x = .pointer (some ⟨b, off, none⟩)) (hk : Nat.beq (C.T.kind.getD t 0) 5 = true) (he : Nat.blt 0 (C.T.kind.getD (C.T.elem.getD t 0) 0) = true)
    (hn : C.T.alen.getD t 0 = k) (hd : Nat.blt d N = true) (hf : takeOk l M i = true) (h : AnyN C N l n (M.set i true) (upd σ d (.slice (some ⟨b, off, none⟩) k k)) w Q) : AnyN C N l (n + 1) M σ w Q := by
  have hu := Tab.array_ C.ok (Nat.eq_of_beq_eq_true hk)
  obtain ⟨ie, hie, hse⟩ := Tab.info_ C.ok (rfl : C.T.kind.getD (C.T.elem.getD t 0) 0 = _) (by have := Nat.le_of_ble_eq_true he; omega)
  subst hn
  refine .takeG (v := .slice (some ⟨b, off, none⟩) (C.T.alen.getD t 0) (C.T.alen.getD t 0)) hM ho hg (fun w => run_v ?_) (by simp only [putE, hd]) hf h
  show (Instr.sliceAt t (ev σ x) none none none).run C.P w = _
  rw [hx, Instr.sliceAt, X.run_bind _ _ _ _ _ _ (run_und hu w)]
  have hr := run_sizeOf hie w
  generalize C.T.elem.getD t 0 = E at *
  generalize C.T.alen.getD t 0 = n at *
  simp [Instr.sureAddr, Instr.sliceBounds, Instr.sliceBound, hr, Addr.add]
end
end Go.Proofs.YtnfefbhjdncccaaDoor.X
