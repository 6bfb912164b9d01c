/- Contracts of chapter 17: what a domain takes, in the program and in the document's account; conditions: none. -/
import Derived.Test.YtnfefbhjdncccaaDoorP17
import Derived.Test.YtnfefbhjdncccaaDoorA17e
namespace Go.Proofs.YtnfefbhjdncccaaDoor.X
open Go Go.Proofs
set_option linter.unusedSimpArgs false
set_option linter.unusedVariables false
/-- The document's domain, as cells. -/
def eD (d : Dm) : List Value := d.c ++ [.slice none 0 0]
/-- The frame of a domain. -/
def frL (d : Dm) : List Value := (X.mk 8 d.r).map (.int .u32) ++ [.int .u32 d.pc, .int .i64 d.st, .int .i64 d.ft]
def ksL (d : Dm) : List Value := (X.mk 16 d.k).flatMap K.l
theorem frL_ld (d : Dm) : takeK 11 (d.c.drop 0) some = some (frL d) := rfl
theorem ksL_ld (d : Dm) : takeK 80 (d.c.drop 11) some = some (ksL d) := by kernel_rfl
theorem eD_fr (d : Dm) : takeK 11 ((eD d).drop 0) some = some (frL d) := rfl
theorem eD_ks (d : Dm) : takeK 80 ((eD d).drop 11) some = some (ksL d) := by kernel_rfl
theorem dm_ld91 (d : Dm) : takeK 5 (d.c.drop 91) some = some d.mem.l := rfl
theorem dm_ld96 (d : Dm) : takeK 5 (d.c.drop 96) some = some d.meter.l := rfl
theorem dm_ld101 (d : Dm) : takeK 5 (d.c.drop 101) some = some d.keeper.l := rfl
theorem dm_ld106 (d : Dm) : d.c[106]? = some (.int .i64 d.wait) := rfl
theorem eD_ld91 (d : Dm) : takeK 5 ((eD d).drop 91) some = some d.mem.l := rfl
theorem eD_ld96 (d : Dm) : takeK 5 ((eD d).drop 96) some = some d.meter.l := rfl
theorem eD_ld101 (d : Dm) : takeK 5 ((eD d).drop 101) some = some d.keeper.l := rfl
theorem eD_ld106 (d : Dm) : (eD d)[106]? = some (.int .i64 d.wait) := rfl
theorem eD_len (d : Dm) : (eD d).length = 108 := rfl
theorem eD_scl (d : Dm) : (eD d).all scal = true := rfl
set_option maxRecDepth 100000 in
theorem eD_all (d : Dm) : takeK 108 ((eD d).drop 0) some = some (eD d) := by kernel_rfl
theorem eD_bld (d : Dm) : pureF cf.T 93 [(0, .agg (frL d).toArray), (1, .agg (ksL d).toArray), (2, .agg d.mem.l.toArray), (3, .agg d.meter.l.toArray), (4, .agg d.keeper.l.toArray), (5, .int .i64 d.wait)] = some (.agg (eD d).toArray) := by kernel_rfl
theorem eD_stR {d : Dm} {n off : Nat} {x : Int} (h : n < 8) (ho : off = n) : (eD d).set off (.int .u32 x) = eD (d.setR n x) := by
  unfold eD
  rw [List.set_append_left _ _ (by rw [Dm.len]; omega), Dm.stR h ho]
theorem splice_left : ∀ (m l r : List Value) (off : Nat), off + m.length ≤ l.length → splice (l ++ r) off m = splice l off m ++ r
  | [], l, r, off, h => rfl
  | v :: m, l, r, off, h => by
    have h' : off + (m.length + 1) ≤ l.length := h
    show splice ((l ++ r).set off v) (off + 1) m = splice (l.set off v) (off + 1) m ++ r
    rw [List.set_append_left _ _ (by omega)]
    exact splice_left m (l.set off v) r (off + 1) (by rw [List.length_set]; omega)
theorem eD_stK {d : Dm} {n off : Nat} {x : K} (h : n < 16) (ho : off = 11 + n * 5) : splice (eD d) off x.l = eD (d.setK n x) := by
  unfold eD
  rw [splice_left _ _ _ _ (by rw [Dm.len]; show off + 5 ≤ 107; omega), Dm.stK h ho]
theorem eD_ldK {d : Dm} {n off : Nat} (h : n < 16) (ho : off = 11 + n * 5) : takeK 5 ((eD d).drop off) some = some (d.k n).l := by
  subst ho
  rcases case16 h with rfl | rfl | rfl | rfl | rfl | rfl | rfl | rfl | rfl | rfl | rfl | rfl | rfl | rfl | rfl | rfl <;> rfl
section
variable {d : Dm}
theorem setR_set {d : Dm} {n : Nat} {x y : Int} : (d.setR n x).setR n y = d.setR n y := by
  unfold Dm.setR
  congr 1
  funext j
  dsimp only
  split <;> rfl
/-- A note, its parts. -/
theorem note_o (o w0 w1 w2 : Int) (k0 k1 k2 : K) : (noteL o w0 w1 w2 k0 k1 k2)[0]? = some (.int .u32 o) := rfl
theorem note_wl (o w0 w1 w2 : Int) (k0 k1 k2 : K) : (noteL o w0 w1 w2 k0 k1 k2)[1]? = some (.int .u32 w0) ∧ (noteL o w0 w1 w2 k0 k1 k2)[2]? = some (.int .u32 w1) ∧ (noteL o w0 w1 w2 k0 k1 k2)[3]? = some (.int .u32 w2) := ⟨rfl, rfl, rfl⟩
end
attribute [local irreducible] CW OpsW RetW Spec blk snap DrawP AnyW AnyM AnyN bits IntKind.wrap vec itr asc eA Dm.c eD frL ksL noteL
section
variable {z w : World} {As Rs : List HP} {d : Dm} {bd : Nat}
theorem other17_ (H : Sat z w As) (d : Dm) : Spec cf 37 #[.agg d.c.toArray] w fun e w' => e = .agg (eD d).toArray ∧ Sat z w' As := by
  refine enter (l := [.agg d.c.toArray]) Tryd.func37 rfl rfl rfl rfl rfl ?_
  repeat' (first | (refine zA ?_; first | refine zB ?_) | (refine zI ?_; first | refine zJ ?_ | refine zK ?_ | refine zL ?_ | refine zM ?_ | refine zN ?_ | refine zO ?_ | refine zP ?_ | refine zQ ?_ | refine zR ?_) | refine zS ?_)
  refine OpsW.boxF H rfl rfl rfl fun b w H => ?_
  repeat' (first | (refine zA ?_; first | refine zB ?_ | refine zC H ?_ | refine zD H ?_ | refine zE H fun _ _ H => ?_ | refine zF H fun _ _ H => ?_ | refine zG H fun _ H => ?_ | refine zH H fun _ H => ?_) | (refine zI ?_; first | refine zJ ?_ | refine zK ?_ | refine zL ?_ | refine zM ?_ | refine zN ?_ | refine zO ?_ | refine zP ?_ | refine zQ ?_ | refine zR ?_) | refine zS ?_)
  refine OpsW.ldA H p1 rfl rfl rfl (frL_ld d) rfl ?_
  repeat' (refine zA ?_; refine zB ?_)
  refine OpsW.ldA H p1 rfl rfl rfl (ksL_ld d) rfl ?_
  repeat' (refine zA ?_; refine zB ?_)
  refine OpsW.ldA H p1 rfl rfl rfl (dm_ld91 d) rfl ?_
  repeat' (refine zA ?_; refine zB ?_)
  refine OpsW.ldA H p1 rfl rfl rfl (dm_ld96 d) rfl ?_
  repeat' (refine zA ?_; refine zB ?_)
  refine OpsW.ldA H p1 rfl rfl rfl (dm_ld101 d) rfl ?_
  repeat' (refine zA ?_; refine zB ?_)
  refine OpsW.ld H p1 rfl rfl rfl rfl (dm_ld106 d) rfl ?_
  repeat' (refine zA ?_; refine zB ?_)
  refine OpsW.bld rfl rfl (eD_bld d) rfl ?_
  refine OpsW.strF H p0 rfl rfl rfl (eD_scl d) rfl (eD_len d) (by rw [eD_len]; decide) fun w H => ?_
  rw [splice_full (by rw [eD_len]; rfl)] at H
  repeat' (first | (refine zA ?_; first | refine zB ?_) | (refine zI ?_; first | refine zJ ?_ | refine zK ?_ | refine zL ?_ | refine zM ?_ | refine zN ?_ | refine zO ?_ | refine zP ?_ | refine zQ ?_ | refine zR ?_) | refine zS ?_)
  exact ret1c (resA H p0 rfl rfl (eD_all d)) ⟨rfl, by (first | exact H | exact H.drop | exact H.d2 | exact H.d3 | exact H.d4 | exact H.d5 | exact H.d6 | exact H.d7)⟩
theorem sentR17_ (H : Sat z w (blk bd 93 (eD d) :: Rs)) (fr : Int) : Spec cf 39 #[.pointer (some ⟨bd, 0, none⟩), .int .i64 fr] w fun e w' => e = .agg ((sentK d.k fr 0).l ++ ((sentK d.k fr 1).l ++ (sentK d.k fr 2).l)).toArray ∧ Sat z w' (blk bd 93 (eD d) :: Rs) := by
  refine enter (l := [.pointer (some ⟨bd, 0, none⟩), .int .i64 fr]) Tryd.func39 rfl rfl rfl rfl rfl ?_
  repeat' (first | (refine zA ?_; first | refine zB ?_ | refine zC H ?_ | refine zD H ?_ | refine zE H fun _ _ H => ?_ | refine zF H fun _ _ H => ?_ | refine zG H fun _ H => ?_ | refine zH H fun _ H => ?_) | (refine zI ?_; first | refine zJ ?_ | refine zK ?_ | refine zL ?_ | refine zM ?_ | refine zN ?_ | refine zO ?_ | refine zP ?_ | refine zQ ?_ | refine zR ?_) | refine zS ?_)
  refine OpsW.gs rfl rfl rfl (fun h => ?_) (fun h => ?_)
  · repeat' (first | (refine zA ?_; first | refine zB ?_ | refine zC H ?_ | refine zD H ?_ | refine zE H fun _ _ H => ?_ | refine zF H fun _ _ H => ?_ | refine zG H fun _ H => ?_ | refine zH H fun _ H => ?_) | (refine zI ?_; first | refine zJ ?_ | refine zK ?_ | refine zL ?_ | refine zM ?_ | refine zN ?_ | refine zO ?_ | refine zP ?_ | refine zQ ?_ | refine zR ?_) | refine zS ?_)
    refine ret1c (resA H (by (first | exact p0 | exact p1 | exact p2 | exact p3 | exact p4 | exact p5 | exact p6 | exact p7)) rfl rfl (by rfl)) ⟨?_, H.drop.drop⟩
    rw [show sentK d.k fr 0 = K.void from if_neg (by simp at h; omega), show sentK d.k fr 1 = K.void from if_neg (by simp at h; omega), show sentK d.k fr 2 = K.void from if_neg (by simp at h; omega)]
    rfl
  · repeat' (first | (refine zA ?_; first | refine zB ?_ | refine zC H ?_ | refine zD H ?_ | refine zE H fun _ _ H => ?_ | refine zF H fun _ _ H => ?_ | refine zG H fun _ H => ?_ | refine zH H fun _ H => ?_) | (refine zI ?_; first | refine zJ ?_ | refine zK ?_ | refine zL ?_ | refine zM ?_ | refine zN ?_ | refine zO ?_ | refine zP ?_ | refine zQ ?_ | refine zR ?_) | refine zS ?_)
    refine CW.cond rfl (fun h1 => ?_) (fun h1 => ?_)
    · repeat' (first | (refine zA ?_; first | refine zB ?_ | refine zC H ?_ | refine zD H ?_ | refine zE H fun _ _ H => ?_ | refine zF H fun _ _ H => ?_ | refine zG H fun _ H => ?_ | refine zH H fun _ H => ?_) | (refine zI ?_; first | refine zJ ?_ | refine zK ?_ | refine zL ?_ | refine zM ?_ | refine zN ?_ | refine zO ?_ | refine zP ?_ | refine zQ ?_ | refine zR ?_) | refine zS ?_)
      refine ret1c (resA H (by (first | exact p0 | exact p1 | exact p2 | exact p3 | exact p4 | exact p5 | exact p6 | exact p7)) rfl rfl (by rfl)) ⟨?_, H.drop.drop⟩
      rw [show sentK d.k fr 0 = K.void from if_neg (by simp at h1; omega), show sentK d.k fr 1 = K.void from if_neg (by simp at h1; omega), show sentK d.k fr 2 = K.void from if_neg (by simp at h1; omega)]
      rfl
    repeat' (first | (refine zA ?_; first | refine zB ?_ | refine zC H ?_ | refine zD H ?_ | refine zE H fun _ _ H => ?_ | refine zF H fun _ _ H => ?_ | refine zG H fun _ H => ?_ | refine zH H fun _ H => ?_) | (refine zI ?_; first | refine zJ ?_ | refine zK ?_ | refine zL ?_ | refine zM ?_ | refine zN ?_ | refine zO ?_ | refine zP ?_ | refine zQ ?_ | refine zR ?_) | refine zS ?_)
    refine CW.unroll 4 (Un.go ?_)
    repeat' (first | (refine zA ?_; first | refine zB ?_) | (refine zI ?_; first | refine zJ ?_ | refine zK ?_ | refine zL ?_ | refine zM ?_ | refine zN ?_ | refine zO ?_ | refine zP ?_ | refine zQ ?_ | refine zR ?_) | refine zS ?_)
    have h0 : 0 ≤ fr := by simp at h; omega
    have h2 : fr < 16 := by simp at h1; omega
    refine OpsW.ixA (n := ((fr + (0 : Nat)) % 16).toNat) rfl rfl rfl rfl rfl rfl (sIx h0 h2 rfl (by decide)) (by show _ < 16; omega) rfl ?_
    refine OpsW.ldA H p2 rfl rfl rfl (eD_ldK (n := ((fr + (0 : Nat)) % 16).toNat) (by omega) (by omega)) rfl ?_
    repeat' (first | (refine zA ?_; first | refine zB ?_) | (refine zI ?_; first | refine zJ ?_ | refine zK ?_ | refine zL ?_ | refine zM ?_ | refine zN ?_ | refine zO ?_ | refine zP ?_ | refine zQ ?_ | refine zR ?_) | refine zS ?_)
    refine OpsW.ixA (n := 0) rfl rfl rfl rfl rfl rfl rfl (by decide +kernel) rfl ?_
    refine .strA H p0 rfl rfl rfl rfl rfl rfl (by show _ + 5 ≤ 15; decide) fun _ H => ?_
    repeat' (first | (refine zA ?_; first | refine zB ?_) | (refine zI ?_; first | refine zJ ?_ | refine zK ?_ | refine zL ?_ | refine zM ?_ | refine zN ?_ | refine zO ?_ | refine zP ?_ | refine zQ ?_ | refine zR ?_) | refine zS ?_)
    rw [show IntKind.wrap .i64 (0 + 1) = 1 by decide +kernel]
    repeat' (first | (refine zA ?_; first | refine zB ?_) | (refine zI ?_; first | refine zJ ?_ | refine zK ?_ | refine zL ?_ | refine zM ?_ | refine zN ?_ | refine zO ?_ | refine zP ?_ | refine zQ ?_ | refine zR ?_) | refine zS ?_)
    replace H : Sat z _ (blk _ 75 ((d.k ((fr + (0 : Nat)) % 16).toNat).l ++ (K.void.l ++ K.void.l)) :: _) := H
    refine OpsW.ixA (n := ((fr + (1 : Nat)) % 16).toNat) rfl rfl rfl rfl rfl rfl (sIx h0 h2 rfl (by decide)) (by show _ < 16; omega) rfl ?_
    refine OpsW.ldA H p2 rfl rfl rfl (eD_ldK (n := ((fr + (1 : Nat)) % 16).toNat) (by omega) (by omega)) rfl ?_
    repeat' (first | (refine zA ?_; first | refine zB ?_) | (refine zI ?_; first | refine zJ ?_ | refine zK ?_ | refine zL ?_ | refine zM ?_ | refine zN ?_ | refine zO ?_ | refine zP ?_ | refine zQ ?_ | refine zR ?_) | refine zS ?_)
    refine OpsW.ixA (n := 1) rfl rfl rfl rfl rfl rfl rfl (by decide +kernel) rfl ?_
    refine .strA H p0 rfl rfl rfl rfl rfl rfl (by show _ + 5 ≤ 15; decide) fun _ H => ?_
    repeat' (first | (refine zA ?_; first | refine zB ?_) | (refine zI ?_; first | refine zJ ?_ | refine zK ?_ | refine zL ?_ | refine zM ?_ | refine zN ?_ | refine zO ?_ | refine zP ?_ | refine zQ ?_ | refine zR ?_) | refine zS ?_)
    rw [show IntKind.wrap .i64 (1 + 1) = 2 by decide +kernel]
    repeat' (first | (refine zA ?_; first | refine zB ?_) | (refine zI ?_; first | refine zJ ?_ | refine zK ?_ | refine zL ?_ | refine zM ?_ | refine zN ?_ | refine zO ?_ | refine zP ?_ | refine zQ ?_ | refine zR ?_) | refine zS ?_)
    replace H : Sat z _ (blk _ 75 ((d.k ((fr + (0 : Nat)) % 16).toNat).l ++ ((d.k ((fr + (1 : Nat)) % 16).toNat).l ++ K.void.l)) :: _) := H
    refine OpsW.ixA (n := ((fr + (2 : Nat)) % 16).toNat) rfl rfl rfl rfl rfl rfl (sIx h0 h2 rfl (by decide)) (by show _ < 16; omega) rfl ?_
    refine OpsW.ldA H p2 rfl rfl rfl (eD_ldK (n := ((fr + (2 : Nat)) % 16).toNat) (by omega) (by omega)) rfl ?_
    repeat' (first | (refine zA ?_; first | refine zB ?_) | (refine zI ?_; first | refine zJ ?_ | refine zK ?_ | refine zL ?_ | refine zM ?_ | refine zN ?_ | refine zO ?_ | refine zP ?_ | refine zQ ?_ | refine zR ?_) | refine zS ?_)
    refine OpsW.ixA (n := 2) rfl rfl rfl rfl rfl rfl rfl (by decide +kernel) rfl ?_
    refine .strA H p0 rfl rfl rfl rfl rfl rfl (by show _ + 5 ≤ 15; decide) fun _ H => ?_
    repeat' (first | (refine zA ?_; first | refine zB ?_) | (refine zI ?_; first | refine zJ ?_ | refine zK ?_ | refine zL ?_ | refine zM ?_ | refine zN ?_ | refine zO ?_ | refine zP ?_ | refine zQ ?_ | refine zR ?_) | refine zS ?_)
    rw [show IntKind.wrap .i64 (2 + 1) = 3 by decide +kernel]
    repeat' (first | (refine zA ?_; first | refine zB ?_ | refine zC H ?_ | refine zD H ?_ | refine zE H fun _ _ H => ?_ | refine zF H fun _ _ H => ?_ | refine zG H fun _ H => ?_ | refine zH H fun _ H => ?_) | (refine zI ?_; first | refine zJ ?_ | refine zK ?_ | refine zL ?_ | refine zM ?_ | refine zN ?_ | refine zO ?_ | refine zP ?_ | refine zQ ?_ | refine zR ?_) | refine zS ?_)
    refine ret1c (resA H (by (first | exact p0 | exact p1 | exact p2 | exact p3 | exact p4 | exact p5 | exact p6 | exact p7)) rfl rfl (by rfl)) ⟨?_, H.drop.drop⟩
    unfold sentK
    rw [if_pos ⟨h0, h2⟩, if_pos ⟨h0, h2⟩, if_pos ⟨h0, h2⟩]
    rfl
end
end Go.Proofs.YtnfefbhjdncccaaDoor.X
