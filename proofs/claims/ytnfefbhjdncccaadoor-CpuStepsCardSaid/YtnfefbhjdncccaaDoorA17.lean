/- Contracts of chapter 17 (cpu): domains as plain data, what is sent, what is taken; conditions: none. -/
import Derived.Test.YtnfefbhjdncccaaDoorA14b
import Derived.Test.YtnfefbhjdncccaaDoorA2
import Derived.Test.YtnfefbhjdncccaaDoorA11
namespace Go.Proofs.YtnfefbhjdncccaaDoor.X
open Go Go.Proofs
set_option linter.unusedSimpArgs false
set_option linter.unusedVariables false
/-- A domain as plain data: registers, place, state, fault, keys, memory, meter, keeper, wait. -/
structure Dm where
  r : Nat → Int
  pc : Int
  st : Int
  ft : Int
  k : Nat → K
  mem : K
  meter : K
  keeper : K
  wait : Int
def Dm.c (d : Dm) : List Value := (X.mk 8 d.r).map (.int .u32) ++ ([.int .u32 d.pc, .int .i64 d.st, .int .i64 d.ft] ++ ((X.mk 16 d.k).flatMap K.l ++ (d.mem.l ++ (d.meter.l ++ (d.keeper.l ++ [.int .i64 d.wait])))))
def Dm.setR (d : Dm) (n : Nat) (x : Int) : Dm := { d with r := fun j => if j = n then x else d.r j }
def Dm.setK (d : Dm) (n : Nat) (x : K) : Dm := { d with k := fun j => if j = n then x else d.k j }
def Dm.setPC (d : Dm) (x : Int) : Dm := { d with pc := x }
section
variable {d : Dm} {n off : Nat}
theorem case8 (h : n < 8) : n = 0 ∨ n = 1 ∨ n = 2 ∨ n = 3 ∨ n = 4 ∨ n = 5 ∨ n = 6 ∨ n = 7 := by omega
theorem case16 (h : n < 16) : n = 0 ∨ n = 1 ∨ n = 2 ∨ n = 3 ∨ n = 4 ∨ n = 5 ∨ n = 6 ∨ n = 7 ∨ n = 8 ∨ n = 9 ∨ n = 10 ∨ n = 11 ∨ n = 12 ∨ n = 13 ∨ n = 14 ∨ n = 15 := by omega
theorem Dm.len : d.c.length = 107 := rfl
theorem Dm.scl : d.c.all scal = true := rfl
set_option maxRecDepth 100000 in
theorem Dm.all : takeK 107 (d.c.drop 0) some = some d.c := by kernel_rfl
theorem Dm.ldR (h : n < 8) (ho : off = n) : d.c[off]? = some (.int .u32 (d.r n)) := by
  subst ho
  rcases case8 h with rfl | rfl | rfl | rfl | rfl | rfl | rfl | rfl <;> rfl
theorem Dm.stR {x : Int} (h : n < 8) (ho : off = n) : d.c.set off (.int .u32 x) = (d.setR n x).c := by
  subst ho
  rcases case8 h with rfl | rfl | rfl | rfl | rfl | rfl | rfl | rfl <;> rfl
theorem Dm.ldPC : d.c[8]? = some (.int .u32 d.pc) := rfl
theorem Dm.stPC {x : Int} : d.c.set 8 (.int .u32 x) = (d.setPC x).c := rfl
theorem Dm.ldK (h : n < 16) (ho : off = 11 + n * 5) : takeK 5 (d.c.drop off) some = some (d.k n).l := by
  subst ho
  rcases case16 h with rfl | rfl | rfl | rfl | rfl | rfl | rfl | rfl | rfl | rfl | rfl | rfl | rfl | rfl | rfl | rfl <;> rfl
theorem Dm.stK {x : K} (h : n < 16) (ho : off = 11 + n * 5) : splice d.c off x.l = (d.setK n x).c := by
  subst ho
  rcases case16 h with rfl | rfl | rfl | rfl | rfl | rfl | rfl | rfl | rfl | rfl | rfl | rfl | rfl | rfl | rfl | rfl <;> rfl
theorem Dm.ldM : takeK 5 (d.c.drop 91) some = some d.mem.l := rfl
end
/-- What an instruction comes to. -/
structure Ev where
  kind : Int
  how : Int
  key : K
  ord : Int
  w0 : Int
  w1 : Int
  w2 : Int
  k0 : K
  k1 : K
  k2 : K
  fault : Int
  addr : Int
def Ev.l (e : Ev) : List Value := [.int .i64 e.kind, .int .i64 e.how] ++ (e.key.l ++ ([.int .u32 e.ord, .int .u32 e.w0, .int .u32 e.w1, .int .u32 e.w2] ++ (e.k0.l ++ (e.k1.l ++ (e.k2.l ++ [.int .i64 e.fault, .int .u32 e.addr])))))
def Ev.v (e : Ev) : Value := .agg e.l.toArray
def Ev.of (kind : Int) : Ev := ⟨kind, 0, K.void, 0, 0, 0, 0, K.void, K.void, K.void, 0, 0⟩
def Ev.bad (f : Nat) (a : Int) : Ev := ⟨4, 0, K.void, 0, 0, 0, 0, K.void, K.void, K.void, f, a⟩
/-- The key that is sent as the i-th. -/
def sentK (k : Nat → K) (fr : Int) (i : Nat) : K := if 0 ≤ fr ∧ fr < 16 then k (((fr + i) % 16).toNat) else K.void
theorem sIx {fr i : Int} {k : Nat} (h0 : 0 ≤ fr) (h1 : fr < 16) (hi : i = k) (hk : k < 3) : (IntKind.wrap .i64 (fr + i)).tmod 16 = ((((fr + k) % 16).toNat : Nat) : Int) := by
  rw [hi, wrap64_id (by omega) (by omega), Int.tmod_eq_emod_of_nonneg (by omega)]; omega
attribute [local irreducible] CW OpsW RetW Spec blk snap DrawP AnyW AnyM AnyN bits IntKind.wrap vec itr asc eA Dm.c nodesP pagesP cacheP mcP
section
variable {z w : World} {As : List HP} {ads : List Addr}
theorem splice_at : ∀ (m p l : List Value), l.length = m.length → splice (p ++ l) p.length m = p ++ m
  | [], p, l, h => by
    have : l = [] := List.eq_nil_of_length_eq_zero h
    subst this; rfl
  | v :: m, p, [], h => by cases h
  | v :: m, p, u :: l, h => by
    show splice ((p ++ u :: l).set p.length v) (p.length + 1) m = p ++ v :: m
    rw [List.set_append_right _ _ (Nat.le_refl _), Nat.sub_self]
    have := splice_at m (p ++ [v]) l (by simpa using h)
    rw [List.length_append, List.append_assoc, List.append_assoc] at this
    exact this
theorem splice_full {m l : List Value} (h : l.length = m.length) : splice l 0 m = m := splice_at m [] l h
theorem Ev.len (e : Ev) : e.l.length = 28 := rfl
theorem Ev.scl (e : Ev) : e.l.all scal = true := rfl
theorem Ev.all (e : Ev) : takeK 28 (e.l.drop 0) some = some e.l := rfl
attribute [local irreducible] Ev.l
theorem evF {z w : World} {Rs : List HP} {b E : Nat} {l : List Value} (e : Ev) (H : Sat z w (blk b E l :: Rs)) (h : l = e.l) : Sat z w (blk b E e.l :: Rs) := h ▸ H
theorem OpsW.strF {C : Cfg} {N : Nat} {gd : List (Option Nat)} {r : List Oper} {σ : Env} {w z : World} {Q : Env → World → Prop} {As Rs : List HP} {x y : Operand} {t b off E : Nat} {ty : TypeId} {pos : String} {af : Array Edge} {g : Option (Nat × Bool)} {l vs : List Value} (H : Sat z w As) (hp : As.Perm (blk b E l :: Rs)) (hg : wan gd σ g = some true) (ha : ev σ x = .pointer (some ⟨b, off, none⟩)) (hx : ev σ y = .agg vs.toArray) (hs : vs.all scal = true) (h0 : Nat.blt 0 (C.T.kind.getD t 0) = true)
    (hz : vs.length = C.T.size.getD t 0) (ho : off + vs.length ≤ l.length) (k : ∀ w', Sat z w' (blk b E (splice l off vs) :: Rs) → OpsW C N gd r σ w' Q) : OpsW C N gd (⟨none, .store t x y, ty, pos, af, g⟩ :: r) σ w Q :=
  OpsW.strA H hp hg ha (by rw [hx, forceL_eq]; rfl) hs h0 hz ho k
theorem OpsW.boxF {C : Cfg} {N : Nat} {gd : List (Option Nat)} {r : List Oper} {σ : Env} {w z : World} {Q : Env → World → Prop} {As : List HP} {x : Operand} {d E : Nat} {ty : TypeId} {pos : String} {af : Array Edge} {g : Option (Nat × Bool)} {l : List Value} (H : Sat z w As) (hg : wan gd σ g = some true) (hx : ev σ x = .agg l.toArray) (hd : Nat.blt d N = true)
    (k : ∀ b w', Sat z w' (blk b E l :: As) → OpsW C N gd r (upd σ d (.pointer (some ⟨b, 0, none⟩))) w' Q) : OpsW C N gd (⟨some d, .box E x, ty, pos, af, g⟩ :: r) σ w Q :=
  OpsW.box H hg (by rw [hx, forceL_eq]; rfl) hd k
theorem sent17_ (H : Sat z w As) (d : Dm) (fr : Int) : Spec cf 38 #[.agg d.c.toArray, .int .i64 fr] w fun e w' => e = .agg ((sentK d.k fr 0).l ++ ((sentK d.k fr 1).l ++ (sentK d.k fr 2).l)).toArray ∧ Sat z w' As := by
  refine enter (l := [.agg d.c.toArray, .int .i64 fr]) Tryd.func38 rfl rfl rfl rfl rfl ?_
  repeat' (first | (refine zA ?_; first | refine zB ?_ | refine zC H ?_ | refine zD H ?_ | refine zE H fun _ _ H => ?_ | refine zF H fun _ _ H => ?_ | refine zG H fun _ H => ?_ | refine zH H fun _ H => ?_) | (refine zI ?_; first | refine zJ ?_ | refine zK ?_ | refine zL ?_ | refine zM ?_ | refine zN ?_ | refine zO ?_ | refine zP ?_ | refine zQ ?_ | refine zR ?_) | refine zS ?_)
  refine OpsW.boxF H rfl rfl rfl fun b w H => ?_
  repeat' (first | (refine zA ?_; first | refine zB ?_ | refine zC H ?_ | refine zD H ?_ | refine zE H fun _ _ H => ?_ | refine zF H fun _ _ H => ?_ | refine zG H fun _ H => ?_ | refine zH H fun _ H => ?_) | (refine zI ?_; first | refine zJ ?_ | refine zK ?_ | refine zL ?_ | refine zM ?_ | refine zN ?_ | refine zO ?_ | refine zP ?_ | refine zQ ?_ | refine zR ?_) | refine zS ?_)
  refine OpsW.gs rfl rfl rfl (fun h => ?_) (fun h => ?_)
  · repeat' (first | (refine zA ?_; first | refine zB ?_ | refine zC H ?_ | refine zD H ?_ | refine zE H fun _ _ H => ?_ | refine zF H fun _ _ H => ?_ | refine zG H fun _ H => ?_ | refine zH H fun _ H => ?_) | (refine zI ?_; first | refine zJ ?_ | refine zK ?_ | refine zL ?_ | refine zM ?_ | refine zN ?_ | refine zO ?_ | refine zP ?_ | refine zQ ?_ | refine zR ?_) | refine zS ?_)
    refine ret1c (resA H (by (first | exact p0 | exact p1 | exact p2 | exact p3 | exact p4 | exact p5 | exact p6 | exact p7)) rfl rfl (by rfl)) ⟨?_, by (first | exact H | exact H.drop | exact H.d2 | exact H.d3 | exact H.d4 | exact H.d5 | exact H.d6 | exact H.d7)⟩
    rw [show sentK d.k fr 0 = K.void from if_neg (by simp at h; omega), show sentK d.k fr 1 = K.void from if_neg (by simp at h; omega), show sentK d.k fr 2 = K.void from if_neg (by simp at h; omega)]
    rfl
  · repeat' (first | (refine zA ?_; first | refine zB ?_ | refine zC H ?_ | refine zD H ?_ | refine zE H fun _ _ H => ?_ | refine zF H fun _ _ H => ?_ | refine zG H fun _ H => ?_ | refine zH H fun _ H => ?_) | (refine zI ?_; first | refine zJ ?_ | refine zK ?_ | refine zL ?_ | refine zM ?_ | refine zN ?_ | refine zO ?_ | refine zP ?_ | refine zQ ?_ | refine zR ?_) | refine zS ?_)
    refine CW.cond rfl (fun h1 => ?_) (fun h1 => ?_)
    · repeat' (first | (refine zA ?_; first | refine zB ?_ | refine zC H ?_ | refine zD H ?_ | refine zE H fun _ _ H => ?_ | refine zF H fun _ _ H => ?_ | refine zG H fun _ H => ?_ | refine zH H fun _ H => ?_) | (refine zI ?_; first | refine zJ ?_ | refine zK ?_ | refine zL ?_ | refine zM ?_ | refine zN ?_ | refine zO ?_ | refine zP ?_ | refine zQ ?_ | refine zR ?_) | refine zS ?_)
      refine ret1c (resA H (by (first | exact p0 | exact p1 | exact p2 | exact p3 | exact p4 | exact p5 | exact p6 | exact p7)) rfl rfl (by rfl)) ⟨?_, by (first | exact H | exact H.drop | exact H.d2 | exact H.d3 | exact H.d4 | exact H.d5 | exact H.d6 | exact H.d7)⟩
      rw [show sentK d.k fr 0 = K.void from if_neg (by simp at h1; omega), show sentK d.k fr 1 = K.void from if_neg (by simp at h1; omega), show sentK d.k fr 2 = K.void from if_neg (by simp at h1; omega)]
      rfl
    repeat' (first | (refine zA ?_; first | refine zB ?_ | refine zC H ?_ | refine zD H ?_ | refine zE H fun _ _ H => ?_ | refine zF H fun _ _ H => ?_ | refine zG H fun _ H => ?_ | refine zH H fun _ H => ?_) | (refine zI ?_; first | refine zJ ?_ | refine zK ?_ | refine zL ?_ | refine zM ?_ | refine zN ?_ | refine zO ?_ | refine zP ?_ | refine zQ ?_ | refine zR ?_) | refine zS ?_)
    refine CW.unroll 4 (Un.go ?_)
    repeat' (first | (refine zA ?_; first | refine zB ?_ | refine zC H ?_ | refine zD H ?_ | refine zE H fun _ _ H => ?_ | refine zF H fun _ _ H => ?_ | refine zG H fun _ H => ?_ | refine zH H fun _ H => ?_) | (refine zI ?_; first | refine zJ ?_ | refine zK ?_ | refine zL ?_ | refine zM ?_ | refine zN ?_ | refine zO ?_ | refine zP ?_ | refine zQ ?_ | refine zR ?_) | refine zS ?_)
    have h0 : 0 ≤ fr := by simp at h; omega
    have h2 : fr < 16 := by simp at h1; omega
    refine OpsW.ixA (n := ((fr + (0 : Nat)) % 16).toNat) rfl rfl rfl rfl rfl rfl (sIx h0 h2 rfl (by decide)) (by show _ < 16; omega) rfl ?_
    refine OpsW.ldA H p2 rfl rfl rfl (Dm.ldK (n := ((fr + (0 : Nat)) % 16).toNat) (by omega) (by omega)) rfl ?_
    repeat' (first | (refine zA ?_; first | refine zB ?_ | refine zC H ?_ | refine zD H ?_ | refine zE H fun _ _ H => ?_ | refine zF H fun _ _ H => ?_ | refine zG H fun _ H => ?_ | refine zH H fun _ H => ?_) | (refine zI ?_; first | refine zJ ?_ | refine zK ?_ | refine zL ?_ | refine zM ?_ | refine zN ?_ | refine zO ?_ | refine zP ?_ | refine zQ ?_ | refine zR ?_) | refine zS ?_)
    refine OpsW.ixA (n := 0) rfl rfl rfl rfl rfl rfl rfl (by decide +kernel) rfl ?_
    repeat' (first | (refine zA ?_; first | refine zB ?_ | refine zC H ?_ | refine zD H ?_ | refine zE H fun _ _ H => ?_ | refine zF H fun _ _ H => ?_ | refine zG H fun _ H => ?_ | refine zH H fun _ H => ?_) | (refine zI ?_; first | refine zJ ?_ | refine zK ?_ | refine zL ?_ | refine zM ?_ | refine zN ?_ | refine zO ?_ | refine zP ?_ | refine zQ ?_ | refine zR ?_) | refine zS ?_)
    rw [show IntKind.wrap .i64 (0 + 1) = 1 by decide +kernel]
    repeat' (first | (refine zA ?_; first | refine zB ?_ | refine zC H ?_ | refine zD H ?_ | refine zE H fun _ _ H => ?_ | refine zF H fun _ _ H => ?_ | refine zG H fun _ H => ?_ | refine zH H fun _ H => ?_) | (refine zI ?_; first | refine zJ ?_ | refine zK ?_ | refine zL ?_ | refine zM ?_ | refine zN ?_ | refine zO ?_ | refine zP ?_ | refine zQ ?_ | refine zR ?_) | refine zS ?_)
    replace H : Sat z _ (blk _ 75 ((d.k ((fr + (0 : Nat)) % 16).toNat).l ++ (K.void.l ++ K.void.l)) :: _) := H
    refine OpsW.ixA (n := ((fr + (1 : Nat)) % 16).toNat) rfl rfl rfl rfl rfl rfl (sIx h0 h2 rfl (by decide)) (by show _ < 16; omega) rfl ?_
    refine OpsW.ldA H p2 rfl rfl rfl (Dm.ldK (n := ((fr + (1 : Nat)) % 16).toNat) (by omega) (by omega)) rfl ?_
    repeat' (first | (refine zA ?_; first | refine zB ?_ | refine zC H ?_ | refine zD H ?_ | refine zE H fun _ _ H => ?_ | refine zF H fun _ _ H => ?_ | refine zG H fun _ H => ?_ | refine zH H fun _ H => ?_) | (refine zI ?_; first | refine zJ ?_ | refine zK ?_ | refine zL ?_ | refine zM ?_ | refine zN ?_ | refine zO ?_ | refine zP ?_ | refine zQ ?_ | refine zR ?_) | refine zS ?_)
    refine OpsW.ixA (n := 1) rfl rfl rfl rfl rfl rfl rfl (by decide +kernel) rfl ?_
    repeat' (first | (refine zA ?_; first | refine zB ?_ | refine zC H ?_ | refine zD H ?_ | refine zE H fun _ _ H => ?_ | refine zF H fun _ _ H => ?_ | refine zG H fun _ H => ?_ | refine zH H fun _ H => ?_) | (refine zI ?_; first | refine zJ ?_ | refine zK ?_ | refine zL ?_ | refine zM ?_ | refine zN ?_ | refine zO ?_ | refine zP ?_ | refine zQ ?_ | refine zR ?_) | refine zS ?_)
    rw [show IntKind.wrap .i64 (1 + 1) = 2 by decide +kernel]
    repeat' (first | (refine zA ?_; first | refine zB ?_ | refine zC H ?_ | refine zD H ?_ | refine zE H fun _ _ H => ?_ | refine zF H fun _ _ H => ?_ | refine zG H fun _ H => ?_ | refine zH H fun _ H => ?_) | (refine zI ?_; first | refine zJ ?_ | refine zK ?_ | refine zL ?_ | refine zM ?_ | refine zN ?_ | refine zO ?_ | refine zP ?_ | refine zQ ?_ | refine zR ?_) | refine zS ?_)
    replace H : Sat z _ (blk _ 75 ((d.k ((fr + (0 : Nat)) % 16).toNat).l ++ ((d.k ((fr + (1 : Nat)) % 16).toNat).l ++ K.void.l)) :: _) := H
    refine OpsW.ixA (n := ((fr + (2 : Nat)) % 16).toNat) rfl rfl rfl rfl rfl rfl (sIx h0 h2 rfl (by decide)) (by show _ < 16; omega) rfl ?_
    refine OpsW.ldA H p2 rfl rfl rfl (Dm.ldK (n := ((fr + (2 : Nat)) % 16).toNat) (by omega) (by omega)) rfl ?_
    repeat' (first | (refine zA ?_; first | refine zB ?_ | refine zC H ?_ | refine zD H ?_ | refine zE H fun _ _ H => ?_ | refine zF H fun _ _ H => ?_ | refine zG H fun _ H => ?_ | refine zH H fun _ H => ?_) | (refine zI ?_; first | refine zJ ?_ | refine zK ?_ | refine zL ?_ | refine zM ?_ | refine zN ?_ | refine zO ?_ | refine zP ?_ | refine zQ ?_ | refine zR ?_) | refine zS ?_)
    refine OpsW.ixA (n := 2) rfl rfl rfl rfl rfl rfl rfl (by decide +kernel) rfl ?_
    repeat' (first | (refine zA ?_; first | refine zB ?_ | refine zC H ?_ | refine zD H ?_ | refine zE H fun _ _ H => ?_ | refine zF H fun _ _ H => ?_ | refine zG H fun _ H => ?_ | refine zH H fun _ H => ?_) | (refine zI ?_; first | refine zJ ?_ | refine zK ?_ | refine zL ?_ | refine zM ?_ | refine zN ?_ | refine zO ?_ | refine zP ?_ | refine zQ ?_ | refine zR ?_) | refine zS ?_)
    rw [show IntKind.wrap .i64 (2 + 1) = 3 by decide +kernel]
    repeat' (first | (refine zA ?_; first | refine zB ?_ | refine zC H ?_ | refine zD H ?_ | refine zE H fun _ _ H => ?_ | refine zF H fun _ _ H => ?_ | refine zG H fun _ H => ?_ | refine zH H fun _ H => ?_) | (refine zI ?_; first | refine zJ ?_ | refine zK ?_ | refine zL ?_ | refine zM ?_ | refine zN ?_ | refine zO ?_ | refine zP ?_ | refine zQ ?_ | refine zR ?_) | refine zS ?_)
    refine ret1c (resA H (by (first | exact p0 | exact p1 | exact p2 | exact p3 | exact p4 | exact p5 | exact p6 | exact p7)) rfl rfl (by rfl)) ⟨?_, by (first | exact H | exact H.drop | exact H.d2 | exact H.d3 | exact H.d4 | exact H.d5 | exact H.d6 | exact H.d7)⟩
    unfold sentK
    rw [if_pos ⟨h0, h2⟩, if_pos ⟨h0, h2⟩, if_pos ⟨h0, h2⟩]
    rfl
end
/-- A memory, as one part. -/
def memP (bm : Nat) (size : Int) (s : St) (hb : Nat) : HP := fun h => ∃ bs : Nat, ∃ bn : Nat, ∃ bp : Nat, stars [blk bs 38 [.pointer (some ⟨bn, 0, none⟩), .pointer (some ⟨bp, 0, none⟩)], nodesP bn s, pagesP bp s, mcP bm bs size s hb] h
section
variable {z w : World} {As Rs : List HP} {ads : List Addr} {d : Dm} {bm bd hb : Nat} {size : Int} {s : St}
theorem memP_open (H : Sat z w (memP bm size s hb :: Rs)) : ∃ bs bn bp : Nat, Sat z w (blk bs 38 [.pointer (some ⟨bn, 0, none⟩), .pointer (some ⟨bp, 0, none⟩)] :: nodesP bn s :: pagesP bp s :: mcP bm bs size s hb :: Rs) := by
  obtain ⟨bs, H⟩ := H.ex
  obtain ⟨bn, H⟩ := H.ex
  obtain ⟨bp, H⟩ := H.ex
  exact ⟨bs, bn, bp, H.splits⟩
theorem memP_close {bs bn bp : Nat} (H : Sat z w (blk bs 38 [.pointer (some ⟨bn, 0, none⟩), .pointer (some ⟨bp, 0, none⟩)] :: nodesP bn s :: pagesP bp s :: mcP bm bs size s hb :: Rs)) : Sat z w (memP bm size s hb :: Rs) :=
  (Sat.joins (m := [blk bs 38 [.pointer (some ⟨bn, 0, none⟩), .pointer (some ⟨bp, 0, none⟩)], nodesP bn s, pagesP bp s, mcP bm bs size s hb]) H).imp fun h x => ⟨bs, bn, bp, x⟩
/-- What is asked of a memory that runs programs. -/
structure MOk (s : St) (hb : Nat) : Prop where
  ok : s.ok
  d0 : ∀ a c, 0 ≤ (s.nd a c).data
  w0 : ∀ a c, 0 ≤ s.pg a c
  w1 : ∀ a c, s.pg a c < 4294967296
  hb : hb ≤ 900000
theorem memP_load (H : Sat z w As) (hp : As.Perm (memP bm 4 s hb :: Rs)) (hm : MOk s hb) (k : K) (addr : Int) (hd : 0 ≤ k.data) (ha : 0 ≤ addr) (ha2 : addr < 4294967296) :
    Spec cf 23 #[.pointer (some ⟨bm, 0, none⟩), k.v, .int .u32 addr] w fun e w' => e = .tuple #[.int .u32 (s.load k addr).1, .int .i64 (s.load k addr).2] ∧ Sat z w' (memP bm 4 s (hb + 1) :: Rs) := by
  obtain ⟨bs, bn, bp, H⟩ := memP_open (H.perm hp)
  exact (mem_load H hm.ok k addr hd hm.d0 ha ha2 (by decide) (by decide) hm.hb).mono fun e w h => ⟨h.1, memP_close h.2⟩
theorem memP_save (H : Sat z w As) (hp : As.Perm (memP bm 4 s hb :: Rs)) (hm : MOk s hb) (k : K) (addr x : Int) (hd : 0 ≤ k.data) (ha : 0 ≤ addr) (ha2 : addr < 4294967296) :
    Spec cf 22 #[.pointer (some ⟨bm, 0, none⟩), k.v, .int .u32 addr, .int .u32 x] w fun e w' => e = .int .i64 (s.save k addr) ∧ Sat z w' (memP bm 4 (s.saveS k addr x) (hb + 1) :: Rs) := by
  obtain ⟨bs, bn, bp, H⟩ := memP_open (H.perm hp)
  exact (mem_save H hm.ok k addr x hd hm.d0 ha ha2 (by decide) (by decide) hm.hb).mono fun e w h => ⟨h.1, memP_close h.2⟩
theorem memP_more (H : Sat z w As) (hp : As.Perm (memP bm size s hb :: Rs)) : Sat z w (memP bm size s (hb + 1) :: Rs) := by
  obtain ⟨bs, bn, bp, H⟩ := memP_open (H.perm hp)
  exact memP_close ((((H.perm p3).imp (mc_imp (fun _ h => h) (Nat.le_succ hb)))).perm p3.symm)
attribute [local irreducible] memP Ev.l
theorem amiss_ (H : Sat z w As) (f : Nat) (a : Int) : Spec cf 69 #[.int .i64 f, .int .u32 a] w fun e w' => e = (Ev.bad f a).v ∧ Sat z w' As := by
  refine enter (l := [.int .i64 f, .int .u32 a]) Tryd.func69 rfl rfl rfl rfl rfl ?_
  repeat' (first | (refine zA ?_; first | refine zB ?_ | refine zC H ?_ | refine zD H ?_ | refine zE H fun _ _ H => ?_ | refine zF H fun _ _ H => ?_ | refine zG H fun _ H => ?_ | refine zH H fun _ H => ?_) | (refine zI ?_; first | refine zJ ?_ | refine zK ?_ | refine zL ?_ | refine zM ?_ | refine zN ?_ | refine zO ?_ | refine zP ?_ | refine zQ ?_ | refine zR ?_) | refine zS ?_)
  replace H := evF (Ev.bad f a) H (by with_unfolding_all rfl)
  exact ret1c (resA H (by (first | exact p0 | exact p1 | exact p2 | exact p3 | exact p4 | exact p5 | exact p6 | exact p7)) rfl rfl (Ev.all _)) ⟨rfl, by (first | exact H | exact H.drop | exact H.d2 | exact H.d3 | exact H.d4 | exact H.d5 | exact H.d6 | exact H.d7)⟩
theorem wsum_ (H : Sat z w As) (v : Value) (a b : Int) (hv : SlR As v 1 2 [.int .u32 a, .int .u32 b]) : Spec cf 130 #[v] w fun e w' => e = .int .u32 ((a + b) % 4294967296) ∧ Sat z w' As := by
  refine (sum_ z w As H [a, b] v (lit9 2) hv).mono fun e w h => ⟨?_, h.2⟩
  rw [h.1]
  show Value.int .u32 (((0 + a) % 4294967296 + b) % 4294967296) = _
  congr 1; omega
/-- What an instruction that moves a word comes to. -/
def moveP (s : St) (d : Dm) (i : Ins) : Ev × Dm × St :=
  if i.op = 7 then (if s.save d.mem ((d.r i.b.toNat + i.imm) % 4294967296) ≠ 0 then (Ev.bad (s.save d.mem ((d.r i.b.toNat + i.imm) % 4294967296)) ((d.r i.b.toNat + i.imm) % 4294967296), d, s) else (Ev.of 0, d, s.saveS d.mem ((d.r i.b.toNat + i.imm) % 4294967296) (d.r i.a.toNat)))
  else (if (s.load d.mem ((d.r i.b.toNat + i.imm) % 4294967296)).2 ≠ 0 then (Ev.bad (s.load d.mem ((d.r i.b.toNat + i.imm) % 4294967296)).2 ((d.r i.b.toNat + i.imm) % 4294967296), d, s) else (Ev.of 0, d.setR i.a.toNat (s.load d.mem ((d.r i.b.toNat + i.imm) % 4294967296)).1, s))
theorem saveS_no' {s : St} {k : K} {addr x : Int} (h : s.save k addr ≠ 0) : s.saveS k addr x = s := if_neg h
attribute [local irreducible] St.load St.save St.saveS
set_option maxHeartbeats 4000000 in
theorem move_ (H : Sat z w (blk bd 70 d.c :: memP bm 4 s hb :: Rs)) (hm : MOk s hb) (hk : 0 ≤ d.mem.data) (op : Int) (a b : Nat) (c imm : Int) (ha : a < 8) (hb8 : b < 8) (hop : op = 6 ∨ op = 7) (h0 : 0 ≤ imm) (h1 : imm < 4096) :
    Spec cf 106 #[.pointer (some ⟨bm, 0, none⟩), .pointer (some ⟨bd, 0, none⟩), Ins.v ⟨op, a, b, c, imm⟩] w fun e w' => e = (moveP s d ⟨op, a, b, c, imm⟩).1.v ∧ Sat z w' (memP bm 4 (moveP s d ⟨op, a, b, c, imm⟩).2.2 (hb + 1) :: blk bd 70 (moveP s d ⟨op, a, b, c, imm⟩).2.1.c :: Rs) := by
  refine enter (l := [.pointer (some ⟨bm, 0, none⟩), .pointer (some ⟨bd, 0, none⟩), Ins.v ⟨op, a, b, c, imm⟩]) Tryd.func106 rfl rfl rfl rfl rfl ?_
  repeat' (first | (refine zA ?_; first | refine zB ?_ | refine zC H ?_ | refine zD H ?_ | refine zE H fun _ _ H => ?_ | refine zF H fun _ _ H => ?_ | refine zG H fun _ H => ?_ | refine zH H fun _ H => ?_) | (refine zI ?_; first | refine zJ ?_ | refine zK ?_ | refine zL ?_ | refine CW.seqDc ?_ | refine CW.seqDb ?_ | refine CW.seqDl ?_ | refine CW.seqDs ?_ | refine CW.seqDk ?_ | refine zN ?_ | refine zO ?_ | refine zP ?_ | refine zQ ?_ | refine zR ?_) | refine zS ?_)
  (first | refine CW.seqDraw mo H [0, 0, 2, 1, 9, 25, 63, 127, 0, 256, 768, 2047, 4095, 8191] fun w H => ?_ | refine CW.draw mo H [0, 0, 2, 1, 9, 25, 63, 127, 0, 256, 768, 2047, 4095, 8191] fun w H => ?_); refine AnyW.seg (m := 11) (by kernel_rfl) (by kernel_rfl) H rfl ?_
  repeat' (first | (refine DrawP.nil ?_; intro w H) | (refine DrawP.go ?_; first | refine DrawP.cons rfl (fun τ w H => OpsW.st rfl (OpsW.nil ⟨rfl, H⟩)) ?_ | refine DrawP.cons rfl (fun τ w H => OpsW.ld H (by (first | exact p0 | exact p1 | exact p2 | exact p3 | exact p4 | exact p5 | exact p6 | exact p7)) rfl rfl rfl rfl (by rfl) rfl (OpsW.nil ⟨rfl, H⟩)) ?_ | refine DrawP.cons rfl (fun τ w H => OpsW.ldA H (by (first | exact p0 | exact p1 | exact p2 | exact p3 | exact p4 | exact p5 | exact p6 | exact p7)) rfl rfl rfl (by rfl) rfl (OpsW.nil ⟨rfl, H⟩)) ?_ | refine DrawP.cons rfl (fun τ w H => OpsW.ixA (n := b) rfl rfl rfl rfl rfl rfl rfl hb8 rfl (OpsW.nil ⟨rfl, H⟩)) ?_ | refine DrawP.cons rfl (fun τ w H => OpsW.ld H p2 rfl rfl rfl rfl (Dm.ldR hb8 (by omega)) rfl (OpsW.nil ⟨rfl, H⟩)) ?_ | refine DrawP.cons rfl (fun τ w H => OpsW.st rfl (OpsW.nil ⟨rfl, H⟩)) ?_) | refine DrawP.split (fun h => ?_) (fun h => ?_))
  rw [show IntKind.wrap .u32 (⟨op, a, b, c, imm⟩ : Ins).imm = imm by rw [wrapu32]; show imm % _ = imm; omega]
  refine AnyW.one (by kernel_rfl) (by kernel_rfl) rfl ?_
  refine OpsW.bsl H rfl rfl rfl rfl rfl rfl rfl rfl fun bb w H => ?_
  refine OpsW.nil ?_
  refine AnyW.one (by kernel_rfl) (by kernel_rfl) rfl ?_
  refine OpsW.call rfl rfl rfl (wsum_ H _ (d.r b) imm (SlR.of_blk (r := []) rfl (Nat.le_refl 2))) ?_
  rintro _ w ⟨rfl, H⟩
  obtain ⟨ad, had⟩ : ∃ ad, ad = (d.r b + imm) % 4294967296 := ⟨_, rfl⟩
  have hA : 0 ≤ ad ∧ ad < 4294967296 := by omega
  have eB : (⟨op, a, b, c, imm⟩ : Ins).b.toNat = b := by show ((b : Nat) : Int).toNat = b; omega
  have eA' : (⟨op, a, b, c, imm⟩ : Ins).a.toNat = a := by show ((a : Nat) : Int).toNat = a; omega
  unfold moveP
  rw [eB, eA']
  dsimp only
  rw [← had]
  refine OpsW.nil ?_
  refine AnyW.one (by kernel_rfl) (by kernel_rfl) rfl ?_
  refine OpsW.st rfl ?_
  refine OpsW.nil ?_
  refine AnyW.done ?_
  rcases hop with rfl | rfl
  · rw [if_neg (by decide)]
    repeat' (first | (refine zA ?_; first | refine zB ?_ | refine zC H ?_ | refine zD H ?_ | refine zE H fun _ _ H => ?_ | refine zF H fun _ _ H => ?_ | refine zG H fun _ H => ?_ | refine zH H fun _ H => ?_) | (refine zI ?_; first | refine zJ ?_ | refine zK ?_ | refine zL ?_ | refine CW.seqDc ?_ | refine CW.seqDb ?_ | refine CW.seqDl ?_ | refine CW.seqDs ?_ | refine CW.seqDk ?_ | refine zN ?_ | refine zO ?_ | refine zP ?_ | refine zQ ?_ | refine zR ?_) | refine zS ?_)
    refine OpsW.ldA H p3 rfl rfl rfl Dm.ldM rfl ?_
    repeat' (first | (refine zA ?_; first | refine zB ?_ | refine zC H ?_ | refine zD H ?_ | refine zE H fun _ _ H => ?_ | refine zF H fun _ _ H => ?_ | refine zG H fun _ H => ?_ | refine zH H fun _ H => ?_) | (refine zI ?_; first | refine zJ ?_ | refine zK ?_ | refine zL ?_ | refine CW.seqDc ?_ | refine CW.seqDb ?_ | refine CW.seqDl ?_ | refine CW.seqDs ?_ | refine CW.seqDk ?_ | refine zN ?_ | refine zO ?_ | refine zP ?_ | refine zQ ?_ | refine zR ?_) | refine zS ?_)
    refine OpsW.call rfl rfl rfl (memP_load H p4 hm d.mem ad hk hA.1 hA.2) ?_
    rintro _ w ⟨rfl, H⟩
    generalize s.load d.mem ad = y
    obtain ⟨x, f⟩ := y
    dsimp only
    by_cases hf : f = 0
    · subst hf
      rw [if_neg (by decide)]
      repeat' (first | (refine zA ?_; first | refine zB ?_ | refine zC H ?_ | refine zD H ?_ | refine zE H fun _ _ H => ?_ | refine zF H fun _ _ H => ?_ | refine zG H fun _ H => ?_ | refine zH H fun _ H => ?_) | (refine zI ?_; first | refine zJ ?_ | refine zK ?_ | refine zL ?_ | refine CW.seqDc ?_ | refine CW.seqDb ?_ | refine CW.seqDl ?_ | refine CW.seqDs ?_ | refine CW.seqDk ?_ | refine zN ?_ | refine zO ?_ | refine zP ?_ | refine zQ ?_ | refine zR ?_) | refine zS ?_)
      (first | refine CW.seqDraw mo H [0, 0, 2, 0, 1, 17, 49, 127, 255] fun w H => ?_ | refine CW.draw mo H [0, 0, 2, 0, 1, 17, 49, 127, 255] fun w H => ?_); refine AnyW.seg (m := 8) (by kernel_rfl) (by kernel_rfl) H rfl ?_
      repeat' (first | (refine DrawP.nil ?_; intro w H) | (refine DrawP.go ?_; first | refine DrawP.cons rfl (fun τ w H => OpsW.st rfl (OpsW.nil ⟨rfl, H⟩)) ?_ | refine DrawP.cons rfl (fun τ w H => OpsW.ld H (by (first | exact p0 | exact p1 | exact p2 | exact p3 | exact p4 | exact p5 | exact p6 | exact p7)) rfl rfl rfl rfl (by rfl) rfl (OpsW.nil ⟨rfl, H⟩)) ?_ | refine DrawP.cons rfl (fun τ w H => OpsW.ldA H (by (first | exact p0 | exact p1 | exact p2 | exact p3 | exact p4 | exact p5 | exact p6 | exact p7)) rfl rfl rfl (by rfl) rfl (OpsW.nil ⟨rfl, H⟩)) ?_ | refine DrawP.cons rfl (fun τ w H => OpsW.ixA (n := a) rfl rfl rfl rfl rfl rfl rfl ha rfl (OpsW.nil ⟨rfl, H⟩)) ?_) | refine DrawP.split (fun h => ?_) (fun h => ?_))
      refine AnyW.one (by kernel_rfl) (by kernel_rfl) rfl ?_
      refine OpsW.str H p4 rfl rfl rfl rfl rfl rfl (by rw [Dm.len]; omega) fun w H => ?_
      rw [Dm.stR ha (by omega)] at H
      refine OpsW.nil ?_
      refine AnyW.done ?_
      repeat' (first | (refine zA ?_; first | refine zB ?_ | refine zC H ?_ | refine zD H ?_ | refine zE H fun _ _ H => ?_ | refine zF H fun _ _ H => ?_ | refine zG H fun _ H => ?_ | refine zH H fun _ H => ?_) | (refine zI ?_; first | refine zJ ?_ | refine zK ?_ | refine zL ?_ | refine CW.seqDc ?_ | refine CW.seqDb ?_ | refine CW.seqDl ?_ | refine CW.seqDs ?_ | refine CW.seqDk ?_ | refine zN ?_ | refine zO ?_ | refine zP ?_ | refine zQ ?_ | refine zR ?_) | refine zS ?_)
      replace H := evF (Ev.of 0) H (by with_unfolding_all rfl)
      exact ret1c (resA H p0 rfl rfl (Ev.all _)) ⟨rfl, ((((H.drop.perm p2).drop).perm p2).drop).perm p1⟩
    · rw [if_pos hf]
      repeat' (first | (refine zA ?_; first | refine zB ?_ | refine zC H ?_ | refine zD H ?_ | refine zE H fun _ _ H => ?_ | refine zF H fun _ _ H => ?_ | refine zG H fun _ H => ?_ | refine zH H fun _ H => ?_) | (refine zI ?_; first | refine zJ ?_ | refine zK ?_ | refine zL ?_ | refine CW.seqDc ?_ | refine CW.seqDb ?_ | refine CW.seqDl ?_ | refine CW.seqDs ?_ | refine CW.seqDk ?_ | refine zN ?_ | refine zO ?_ | refine zP ?_ | refine zQ ?_ | refine zR ?_) | refine zS ?_)
      refine CW.cond rfl (fun h => ?_) (fun h => absurd h (by simp [hf]))
      repeat' (first | (refine zA ?_; first | refine zB ?_ | refine zC H ?_ | refine zD H ?_ | refine zE H fun _ _ H => ?_ | refine zF H fun _ _ H => ?_ | refine zG H fun _ H => ?_ | refine zH H fun _ H => ?_) | (refine zI ?_; first | refine zJ ?_ | refine zK ?_ | refine zL ?_ | refine CW.seqDc ?_ | refine CW.seqDb ?_ | refine CW.seqDl ?_ | refine CW.seqDs ?_ | refine CW.seqDk ?_ | refine zN ?_ | refine zO ?_ | refine zP ?_ | refine zQ ?_ | refine zR ?_) | refine zS ?_)
      refine OpsW.call rfl rfl rfl (amiss_ H f ad) ?_
      rintro _ w ⟨rfl, H⟩
      repeat' (first | (refine zA ?_; first | refine zB ?_ | refine zC H ?_ | refine zD H ?_ | refine zE H fun _ _ H => ?_ | refine zF H fun _ _ H => ?_ | refine zG H fun _ H => ?_ | refine zH H fun _ H => ?_) | (refine zI ?_; first | refine zJ ?_ | refine zK ?_ | refine zL ?_ | refine CW.seqDc ?_ | refine CW.seqDb ?_ | refine CW.seqDl ?_ | refine CW.seqDs ?_ | refine CW.seqDk ?_ | refine zN ?_ | refine zO ?_ | refine zP ?_ | refine zQ ?_ | refine zR ?_) | refine zS ?_)
      refine OpsW.strF H p2 rfl rfl rfl (Ev.scl _) rfl (Ev.len _) (by rw [Ev.len]; decide) fun w H => ?_
      rw [splice_full (by rw [Ev.len]; rfl)] at H
      repeat' (first | (refine zA ?_; first | refine zB ?_ | refine zC H ?_ | refine zD H ?_ | refine zE H fun _ _ H => ?_ | refine zF H fun _ _ H => ?_ | refine zG H fun _ H => ?_ | refine zH H fun _ H => ?_) | (refine zI ?_; first | refine zJ ?_ | refine zK ?_ | refine zL ?_ | refine CW.seqDc ?_ | refine CW.seqDb ?_ | refine CW.seqDl ?_ | refine CW.seqDs ?_ | refine CW.seqDk ?_ | refine zN ?_ | refine zO ?_ | refine zP ?_ | refine zQ ?_ | refine zR ?_) | refine zS ?_)
      exact ret1c (resA H p0 rfl rfl (Ev.all _)) ⟨rfl, ((((H.drop.perm p1).drop).perm p1).drop)⟩
  · rw [if_pos (show (7 : Int) = 7 from rfl)]
    repeat' (first | (refine zA ?_; first | refine zB ?_ | refine zC H ?_ | refine zD H ?_ | refine zE H fun _ _ H => ?_ | refine zF H fun _ _ H => ?_ | refine zG H fun _ H => ?_ | refine zH H fun _ H => ?_) | (refine zI ?_; first | refine zJ ?_ | refine zK ?_ | refine zL ?_ | refine CW.seqDc ?_ | refine CW.seqDb ?_ | refine CW.seqDl ?_ | refine CW.seqDs ?_ | refine CW.seqDk ?_ | refine zN ?_ | refine zO ?_ | refine zP ?_ | refine zQ ?_ | refine zR ?_) | refine zS ?_)
    (first | refine CW.seqDraw mo H [0, 0, 2, 6, 14, 0, 0, 0, 128, 64, 576, 1600, 4032, 8128, 16383, 32767] fun w H => ?_ | refine CW.draw mo H [0, 0, 2, 6, 14, 0, 0, 0, 128, 64, 576, 1600, 4032, 8128, 16383, 32767] fun w H => ?_); refine AnyW.seg (m := 14) (by kernel_rfl) (by kernel_rfl) H rfl ?_
    repeat' (first | (refine DrawP.nil ?_; intro w H) | (refine DrawP.go ?_; first | refine DrawP.cons rfl (fun τ w H => OpsW.st rfl (OpsW.nil ⟨rfl, H⟩)) ?_ | refine DrawP.cons rfl (fun τ w H => OpsW.ld H (by (first | exact p0 | exact p1 | exact p2 | exact p3 | exact p4 | exact p5 | exact p6 | exact p7)) rfl rfl rfl rfl (by rfl) rfl (OpsW.nil ⟨rfl, H⟩)) ?_ | refine DrawP.cons rfl (fun τ w H => OpsW.ldA H (by (first | exact p0 | exact p1 | exact p2 | exact p3 | exact p4 | exact p5 | exact p6 | exact p7)) rfl rfl rfl (by rfl) rfl (OpsW.nil ⟨rfl, H⟩)) ?_ | refine DrawP.cons rfl (fun τ w H => OpsW.ixA (n := a) rfl rfl rfl rfl rfl rfl rfl ha rfl (OpsW.nil ⟨rfl, H⟩)) ?_ | refine DrawP.cons rfl (fun τ w H => OpsW.ld H p3 rfl rfl rfl rfl (Dm.ldR ha (by omega)) rfl (OpsW.nil ⟨rfl, H⟩)) ?_ | refine DrawP.cons rfl (fun τ w H => OpsW.ldA H p3 rfl rfl rfl Dm.ldM rfl (OpsW.nil ⟨rfl, H⟩)) ?_) | refine DrawP.split (fun h => ?_) (fun h => ?_))
    refine AnyW.one (by kernel_rfl) (by kernel_rfl) rfl ?_
    refine OpsW.call rfl rfl rfl (memP_save H p4 hm d.mem ad (d.r a) hk hA.1 hA.2) ?_
    rintro _ w ⟨rfl, H⟩
    refine OpsW.nil ?_
    refine AnyW.one (by kernel_rfl) (by kernel_rfl) rfl ?_
    refine OpsW.st rfl ?_
    refine OpsW.nil ?_
    refine AnyW.done ?_
    have hno : s.save d.mem ad ≠ 0 → s.saveS d.mem ad (d.r a) = s := fun h => saveS_no' h
    generalize s.save d.mem ad = f at *
    generalize s.saveS d.mem ad (d.r a) = s' at *
    by_cases hf : f = 0
    · subst hf
      rw [if_neg (by decide)]
      repeat' (first | (refine zA ?_; first | refine zB ?_ | refine zC H ?_ | refine zD H ?_ | refine zE H fun _ _ H => ?_ | refine zF H fun _ _ H => ?_ | refine zG H fun _ H => ?_ | refine zH H fun _ H => ?_) | (refine zI ?_; first | refine zJ ?_ | refine zK ?_ | refine zL ?_ | refine CW.seqDc ?_ | refine CW.seqDb ?_ | refine CW.seqDl ?_ | refine CW.seqDs ?_ | refine CW.seqDk ?_ | refine zN ?_ | refine zO ?_ | refine zP ?_ | refine zQ ?_ | refine zR ?_) | refine zS ?_)
      replace H := evF (Ev.of 0) H (by with_unfolding_all rfl)
      exact ret1c (resA H p0 rfl rfl (Ev.all _)) ⟨rfl, ((((H.drop.perm p1).drop).perm p1).drop)⟩
    · rw [if_pos hf]
      rw [hno hf] at H
      repeat' (first | (refine zA ?_; first | refine zB ?_ | refine zC H ?_ | refine zD H ?_ | refine zE H fun _ _ H => ?_ | refine zF H fun _ _ H => ?_ | refine zG H fun _ H => ?_ | refine zH H fun _ H => ?_) | (refine zI ?_; first | refine zJ ?_ | refine zK ?_ | refine zL ?_ | refine CW.seqDc ?_ | refine CW.seqDb ?_ | refine CW.seqDl ?_ | refine CW.seqDs ?_ | refine CW.seqDk ?_ | refine zN ?_ | refine zO ?_ | refine zP ?_ | refine zQ ?_ | refine zR ?_) | refine zS ?_)
      refine CW.cond rfl (fun h => ?_) (fun h => absurd h (by simp [hf]))
      repeat' (first | (refine zA ?_; first | refine zB ?_ | refine zC H ?_ | refine zD H ?_ | refine zE H fun _ _ H => ?_ | refine zF H fun _ _ H => ?_ | refine zG H fun _ H => ?_ | refine zH H fun _ H => ?_) | (refine zI ?_; first | refine zJ ?_ | refine zK ?_ | refine zL ?_ | refine CW.seqDc ?_ | refine CW.seqDb ?_ | refine CW.seqDl ?_ | refine CW.seqDs ?_ | refine CW.seqDk ?_ | refine zN ?_ | refine zO ?_ | refine zP ?_ | refine zQ ?_ | refine zR ?_) | refine zS ?_)
      refine OpsW.call rfl rfl rfl (amiss_ H f ad) ?_
      rintro _ w ⟨rfl, H⟩
      repeat' (first | (refine zA ?_; first | refine zB ?_ | refine zC H ?_ | refine zD H ?_ | refine zE H fun _ _ H => ?_ | refine zF H fun _ _ H => ?_ | refine zG H fun _ H => ?_ | refine zH H fun _ H => ?_) | (refine zI ?_; first | refine zJ ?_ | refine zK ?_ | refine zL ?_ | refine CW.seqDc ?_ | refine CW.seqDb ?_ | refine CW.seqDl ?_ | refine CW.seqDs ?_ | refine CW.seqDk ?_ | refine zN ?_ | refine zO ?_ | refine zP ?_ | refine zQ ?_ | refine zR ?_) | refine zS ?_)
      refine OpsW.strF H p2 rfl rfl rfl (Ev.scl _) rfl (Ev.len _) (by rw [Ev.len]; decide) fun w H => ?_
      rw [splice_full (by rw [Ev.len]; rfl)] at H
      repeat' (first | (refine zA ?_; first | refine zB ?_ | refine zC H ?_ | refine zD H ?_ | refine zE H fun _ _ H => ?_ | refine zF H fun _ _ H => ?_ | refine zG H fun _ H => ?_ | refine zH H fun _ H => ?_) | (refine zI ?_; first | refine zJ ?_ | refine zK ?_ | refine zL ?_ | refine CW.seqDc ?_ | refine CW.seqDb ?_ | refine CW.seqDl ?_ | refine CW.seqDs ?_ | refine CW.seqDk ?_ | refine zN ?_ | refine zO ?_ | refine zP ?_ | refine zQ ?_ | refine zR ?_) | refine zS ?_)
      exact ret1c (resA H p0 rfl rfl (Ev.all _)) ⟨rfl, ((((H.drop.perm p1).drop).perm p1).drop)⟩
end
end Go.Proofs.YtnfefbhjdncccaaDoor.X
