/- Chapter 17: what is loaded and stored in the memory of its laws; what a step comes to; conditions: none. -/
import Derived.Test.YtnfefbhjdncccaaDoorA17m
namespace Go.Proofs.YtnfefbhjdncccaaDoor.X
open Go Go.Proofs
set_option linter.unusedSimpArgs false
set_option linter.unusedVariables false
/-- The node's key, with rights. -/
def k17r (r : Int) : K := ⟨2, 0, 0, r, 1⟩
/-- The same with other words on its pages. -/
def t17 (g : Nat → Nat → Int) : St := { s17 [] with pg := g }
theorem s17_t (l : List Int) : s17 l = t17 fun a => if a = 1 then (fun i => ([] : List Int).getD i 0) else if a = 0 then (fun i => l.getD i 0) else fun _ => 0 := rfl
theorem t17_ok (g : Nat → Nat → Int) : (t17 g).ok := ⟨(s17_ok []).n0, (s17_ok []).n1, (s17_ok []).m0, (s17_ok []).m1⟩
theorem t17_liveN (g : Nat → Nat → Int) (r : Int) : (t17 g).live (k17r r) = true := by
  have : (s17 []).live (k17r 0) = true := by kernel_rfl
  exact this
theorem t17_key0 : ∀ p : Nat, p < 16 → (s17 []).key 0 p = if p < 2 then wQ p else K.void := by
  have h : ∀ p : Nat, p < 16 → ((s17 []).key 0 p).same (if p < 2 then wQ p else K.void) = true := by decide +kernel
  exact fun p hp => (K.same_iff _ _).1 (h p hp)
theorem t17_key (g : Nat → Nat → Int) (p : Nat) (h : p < 16) : (t17 g).key 0 p = if p < 2 then wQ p else K.void := t17_key0 p h
theorem t17_liveP (g : Nat → Nat → Int) (p : Nat) (h : p < 2) : (t17 g).live (wQ p) = true := by
  have : ∀ p : Nat, p < 2 → (s17 []).live (wQ p) = true := by decide +kernel
  exact this p h
theorem t17_hasP (g : Nat → Nat → Int) (p c : Nat) (hp : p < 2) (hc : c < 32) : (t17 g).hasP p c = true := by
  have : ∀ p : Nat, p < 2 → onN (s17 []).M (s17 []).g p = true := by decide +kernel
  have h1 : onN (t17 g).M (t17 g).g (p : Int) = true := this p hp
  rw [St.hasP, h1, Bool.true_and, Bool.and_eq_true]; exact ⟨decide_eq_true (by omega), decide_eq_true (by omega)⟩
theorem t17_word (g : Nat → Nat → Int) (p c : Nat) (hp : p < 2) (hc : c < 32) : (t17 g).word p c = g p c := by
  rw [St.word, if_pos (t17_hasP g p c hp hc)]; rfl
theorem t17_walk (g : Nat → Nat → Int) (r : Int) (a : Nat) (ha : a < 64) : (t17 g).walk (k17r r) a = (⟨((a / 32 : Nat) : Int), ((a % 32 : Nat) : Int), bits .and .i64 r 5 != 0⟩, 0, [0]) := by
  have b0 : bits .and .i64 0 5 = 0 := by decide +kernel
  have hd : (a : Int) / psz ((1 : Int) - 1) = ((a / 32 : Nat) : Int) := by show (a : Int) / 32 = _; omega
  have hm : (a : Int) % psz ((1 : Int) - 1) = ((a % 32 : Nat) : Int) := by show (a : Int) % 32 = _; omega
  rw [St.walk, St.wk, if_neg (by rw [t17_liveN, show (k17r r).mem = true from rfl]; decide), show (k17r r).hgt = 1 from rfl, if_neg (by decide), show psz 1 = 512 from rfl, if_neg (by omega), if_neg (by show ¬ ((2 : Int) = 3); decide), hd, hm]
  show (t17 g).wk 5 1 ((t17 g).key 0 ((a / 32 : Nat) : Int)) ((a % 32 : Nat) : Int) (false || bits .and .i64 r 5 != 0) ([] ++ [0]) = _
  have hp : a / 32 < 2 := by omega
  rw [t17_key g _ (by omega), if_pos hp]
  rw [St.wk, if_neg (by rw [t17_liveP g _ hp, show (wQ (a / 32)).mem = true from rfl]; decide), show (wQ (a / 32)).hgt = 0 from rfl, if_neg (by decide), if_neg (by show ¬ ((32 : Int) ≤ ((a % 32 : Nat) : Int)); omega), if_pos (show (wQ (a / 32)).kind = 3 from rfl)]
  show ((⟨((a / 32 : Nat) : Int), ((a % 32 : Nat) : Int), (false || bits .and .i64 r 5 != 0) || bits .and .i64 0 5 != 0⟩ : Plc), (0 : Nat), ([] ++ [0] : List Int)) = _
  rw [b0, Bool.false_or]
  show ((⟨((a / 32 : Nat) : Int), ((a % 32 : Nat) : Int), (bits .and .i64 r 5 != 0) || false⟩ : Plc), (0 : Nat), ([0] : List Int)) = _
  rw [Bool.or_false]
theorem t17_load (g : Nat → Nat → Int) (r : Int) (a : Nat) (ha : a < 64) : (t17 g).load (k17r r) a = (g (a / 32) (a % 32), 0) := by
  unfold St.load
  rw [t17_walk g r a ha, if_neg (fun h => h rfl)]
  show ((t17 g).word ((a / 32 : Nat) : Int) ((a % 32 : Nat) : Int), 0) = _
  rw [t17_word g _ _ (by omega) (by omega)]
theorem t17_m {g : Nat → Nat → Int} (hw : ∀ p c, 0 ≤ g p c ∧ g p c < 4294967296) {hb : Nat} (h : hb ≤ 900000) : MOk (t17 g) hb :=
  ⟨t17_ok g, (s17_m [] (fun n h => by cases h) 0 (by decide)).d0, fun a c => (hw a c).1, fun a c => (hw a c).2, h⟩
/-- What a step comes to where there is an instruction. -/
theorem stepP_ok {s : St} {d : Dm} {i : Ins} (h : s.load d.mem d.pc = (i.w, 0)) (hi : i.ec = 0) :
    stepP s d = (fun r : Ev × Dm × St => (r.1, if r.1.kind = 4 then r.2.1.setPC d.pc else r.2.1, r.2.2)) (doP s (d.setPC ((d.pc + 1) % 4294967296)) i) := by
  unfold stepP
  rw [h, if_neg (fun h => h rfl)]
  show (if (readP i.w).2 = false then _ else _) = _
  rw [readP_w hi, if_neg (fun h => Bool.noConfusion h)]
/-- A domain with a memory alone. -/
def dmM (k : K) : Dm := { Dm.z with mem := k }
theorem DOk.setR {d : Dm} (h : DOk d) {n : Nat} {x : Int} (h0 : 0 ≤ x) (h1 : x < 4294967296) : DOk (d.setR n x) :=
  ⟨fun j => by show 0 ≤ (if j = n then x else d.r j); split <;> first | exact h0 | exact h.r0 j, fun j => by show (if j = n then x else d.r j) < _; split <;> first | exact h1 | exact h.r1 j, h.p0, h.p1, h.k0, h.k1, h.m0⟩
theorem DOk.setPC {d : Dm} (h : DOk d) {x : Int} (h0 : 0 ≤ x) (h1 : x < 4294967296) : DOk (d.setPC x) := ⟨h.r0, h.r1, h0, h1, h.k0, h.k1, h.m0⟩
theorem DOk.setK {d : Dm} (h : DOk d) {n : Nat} {x : K} (h0 : 0 ≤ x.data) (h1 : x.data < 4294967296) : DOk (d.setK n x) :=
  ⟨h.r0, h.r1, h.p0, h.p1, fun j => by show 0 ≤ (if j = n then x else d.k j).data; split <;> first | exact h0 | exact h.k0 j, fun j => by show (if j = n then x else d.k j).data < _; split <;> first | exact h1 | exact h.k1 j, h.m0⟩
end Go.Proofs.YtnfefbhjdncccaaDoor.X
