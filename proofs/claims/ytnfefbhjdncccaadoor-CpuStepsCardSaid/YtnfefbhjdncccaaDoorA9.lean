/- Contracts of chapter 9 (path); conditions: none. -/
import Derived.Test.YtnfefbhjdncccaaDoorA8t
import Derived.Test.YtnfefbhjdncccaaDoorGC
namespace Go.Proofs.YtnfefbhjdncccaaDoor.X
open Go Go.Proofs
set_option linter.unusedSimpArgs false
set_option linter.unusedVariables false
def K.mem (k : K) : Bool := k.kind == 3 || (k.kind == 2 && (decide (k.data ≥ 1) && decide (k.data ≤ 4)))
def K.hgt (k : K) : Int := if k.kind = 3 then 0 else k.data
def psz (h : Int) : Int := if h = 0 then 32 else if h = 1 then 512 else if h = 2 then 8192 else if h = 3 then 131072 else 2097152
theorem psz_pos (h : Int) : 0 < psz h := by unfold psz; (repeat' split) <;> decide
theorem psz_le (h : Int) : psz h ≤ 2097152 := by unfold psz; (repeat' split) <;> decide
/-- A place: the page, the word, whether it may not be written. -/
structure Plc where
  page : Int
  at_ : Int
  ro : Bool
def Plc.z : Plc := ⟨0, 0, false⟩
abbrev Plc.l (p : Plc) : List Value := [.int .i64 p.page, .int .i64 p.at_, .bool p.ro]
abbrev Plc.v (p : Plc) : Value := .agg #[.int .i64 p.page, .int .i64 p.at_, .bool p.ro]
/-- The walk: so many steps at most; above: lower than this; the nodes so far. -/
def St.wk (s : St) : Nat → Int → K → Int → Bool → List Int → Plc × Nat × List Int
  | 0, _, _, _, _, ns => (Plc.z, 0, ns)
  | n + 1, above, k, addr, ro, ns =>
    if k.mem = false ∨ s.live k = false then (Plc.z, 2, ns)
    else if above ≤ k.hgt then (Plc.z, 5, ns)
    else if psz k.hgt ≤ addr then (Plc.z, 3, ns)
    else if k.kind = 3 then (⟨k.id, addr, ro || bits .and .i64 k.rights 5 != 0⟩, 0, ns)
    else s.wk n k.hgt (s.key k.id (addr / psz (k.hgt - 1))) (addr % psz (k.hgt - 1)) (ro || bits .and .i64 k.rights 5 != 0) (ns ++ [k.id])
def St.walk (s : St) (k : K) (addr : Int) : Plc × Nat × List Int := s.wk 6 5 k addr false []
attribute [local irreducible] CW OpsW RetW Spec blk snap DrawP AnyW AnyM AnyN bits IntKind.wrap vec arena kds nds wds pgs eA nodesP pagesP
section
variable {z w : World} {Rs As : List HP} {bn bp bs ba b : Nat} {s : St} {ads : List Addr}
theorem memory_ (H : Sat z w As) (k : K) : Spec cf 94 #[k.v] w fun e w' => e = .bool k.mem ∧ Sat z w' As := by
  refine enter (l := [k.v]) Tryd.func94 rfl rfl rfl rfl rfl ?_
  repeat' (first | (refine zA ?_; first | refine zB ?_ | refine zC H ?_ | refine zD H ?_ | refine zE H fun _ _ H => ?_ | refine zF H fun _ _ H => ?_ | refine zG H fun _ H => ?_ | refine zH H fun _ H => ?_ | (refine OpsW.gs rfl rfl rfl (fun h => ?_) (fun h => ?_); fail_if_success (with_reducible have h2 : true = true := h); fail_if_success (with_reducible have h2 : false = true := h))) | (refine zI ?_; first | refine zJ ?_ | refine zK ?_ | refine zL ?_ | refine zM ?_ | refine zN ?_ | refine zO ?_ | refine zP ?_ | refine zQ ?_ | refine zR ?_ | (refine CW.cond rfl (fun h => ?_) (fun h => ?_))) | refine zS ?_)
  all_goals
    refine ret1 rfl ⟨?_, by (first | exact H | exact H.drop | exact H.d2 | exact H.d3 | exact H.d4 | exact H.d5 | exact H.d6 | exact H.d7)⟩
    clear H
    first | (simp_all [K.mem]; done) | (simp_all [K.mem]; omega)
theorem height_ (H : Sat z w As) (k : K) : Spec cf 96 #[k.v] w fun e w' => e = .int .u32 k.hgt ∧ Sat z w' As := by
  refine enter (l := [k.v]) Tryd.func96 rfl rfl rfl rfl rfl ?_
  repeat' (first | (refine zA ?_; first | refine zB ?_ | refine zC H ?_ | refine zD H ?_ | refine zE H fun _ _ H => ?_ | refine zF H fun _ _ H => ?_ | refine zG H fun _ H => ?_ | refine zH H fun _ H => ?_ | (refine OpsW.gs rfl rfl rfl (fun h => ?_) (fun h => ?_); fail_if_success (with_reducible have h2 : true = true := h); fail_if_success (with_reducible have h2 : false = true := h))) | (refine zI ?_; first | refine zJ ?_ | refine zK ?_ | refine zL ?_ | refine zM ?_ | refine zN ?_ | refine zO ?_ | refine zP ?_ | refine zQ ?_ | refine zR ?_ | (refine CW.cond rfl (fun h => ?_) (fun h => ?_))) | refine zS ?_)
  all_goals
    refine ret1 rfl ⟨?_, by (first | exact H | exact H.drop | exact H.d2 | exact H.d3 | exact H.d4 | exact H.d5 | exact H.d6 | exact H.d7)⟩
    clear H
    simp_all [K.hgt]
theorem size_ (H : Sat z w As) (h : Int) (h0 : 0 ≤ h) (h4 : h ≤ 4) : Spec cf 97 #[.int .u32 h] w fun e w' => e = .int .u32 (psz h) ∧ Sat z w' As := by
  refine enter (l := [.int .u32 h]) Tryd.func97 rfl rfl rfl rfl rfl ?_
  repeat' (first | (refine zA ?_; first | refine zB ?_ | refine zC H ?_ | refine zD H ?_ | refine zE H fun _ _ H => ?_ | refine zF H fun _ _ H => ?_ | refine zG H fun _ H => ?_ | refine zH H fun _ H => ?_) | (refine zI ?_; first | refine zJ ?_ | refine zK ?_ | refine zL ?_ | refine zM ?_ | refine zN ?_ | refine zO ?_ | refine zP ?_ | refine zQ ?_ | refine zR ?_) | refine zS ?_)
  rw [show IntKind.wrap .u32 (4 * h) = 4 * h by rw [wrapu32]; omega]
  rcases (show h = 0 ∨ h = 1 ∨ h = 2 ∨ h = 3 ∨ h = 4 by omega) with rfl | rfl | rfl | rfl | rfl
  all_goals
    repeat' (first | (refine zA ?_; first | refine zB ?_ | refine zC H ?_ | refine zD H ?_ | refine zE H fun _ _ H => ?_ | refine zF H fun _ _ H => ?_ | refine zG H fun _ H => ?_ | refine zH H fun _ H => ?_) | (refine zI ?_; first | refine zJ ?_ | refine zK ?_ | refine zL ?_ | refine zM ?_ | refine zN ?_ | refine zO ?_ | refine zP ?_ | refine zQ ?_ | refine zR ?_) | refine zS ?_)
    exact ret1 rfl ⟨by rw [wrapu32]; rfl, H⟩
set_option maxHeartbeats 4000000 in
set_option maxRecDepth 20000 in
theorem walkG_ (G : List Int → HP) {fid : FuncId} {cap : Array Value} (hby : ∀ (w : World) (l : List Int) (n : Int) (As : List HP), l.length ≤ 6 → Sat z w (G l :: As) → Spec cf fid ((.int .i64 n :: cap.toList).toArray) w fun e w' => Sat z w' (G (l ++ [n]) :: As))
    (H : Sat z w (blk bs 38 [.pointer (some ⟨bn, 0, none⟩), .pointer (some ⟨bp, 0, none⟩)] :: nodesP bn s :: pagesP bp s :: G [] :: Rs)) (hs : s.ok) (k : K) (addr : Int) (hd : 0 ≤ k.data) (hk : ∀ a c, 0 ≤ (s.nd a c).data) (ha : 0 ≤ addr) (ha2 : addr < 4294967296) :
    Spec cf 60 #[.pointer (some ⟨bs, 0, none⟩), k.v, .int .u32 addr, .func (.func fid) #[] cap] w fun e w' => e = .tuple #[(s.walk k addr).1.v, .int .i64 (s.walk k addr).2.1] ∧ Sat z w' (blk bs 38 [.pointer (some ⟨bn, 0, none⟩), .pointer (some ⟨bp, 0, none⟩)] :: nodesP bn s :: pagesP bp s :: G (s.walk k addr).2.2 :: Rs) := by
  refine enter (l := [.pointer (some ⟨bs, 0, none⟩), k.v, .int .u32 addr, .func (.func fid) #[] cap]) Tryd.func60 rfl rfl rfl rfl rfl ?_
  repeat' (first | (refine zA ?_; first | refine zB ?_ | refine zC H ?_ | refine zD H ?_ | refine zE H fun _ _ H => ?_ | refine zF H fun _ _ H => ?_ | refine zG H fun _ H => ?_ | refine zH H fun _ H => ?_) | (refine zI ?_; first | refine zJ ?_ | refine zK ?_ | refine zL ?_ | refine zM ?_ | refine zN ?_ | refine zO ?_ | refine zP ?_ | refine zQ ?_ | refine zR ?_) | refine zS ?_)
  rename_i br _ _ rz _ _ kb _ _ _
  obtain ⟨R, hR⟩ : ∃ R, R = s.walk k addr := ⟨_, rfl⟩
  rw [← hR]
  replace H : Sat z _ (blk kb 43 k.l :: blk rz 54 Plc.z.l :: blk br 43 k.l :: blk bs 38 [.pointer (some ⟨bn, 0, none⟩), .pointer (some ⟨bp, 0, none⟩)] :: nodesP bn s :: pagesP bp s :: G [] :: Rs) := H
  refine CW.loopF (X := Nat × Int × K × Int × Bool × List Int) (fun j => Nat.beq j 2 || Nat.beq j 11 || Nat.beq j 12 || Nat.ble 13 j) (fun x => [(2, .int .u32 x.2.2.2.1), (11, .bool x.2.2.2.2.1), (12, .int .u32 x.2.1)]) (fun x w => (s.wk x.1 x.2.1 x.2.2.1 x.2.2.2.1 x.2.2.2.2.1 x.2.2.2.2.2 = R ∧ 0 ≤ x.2.1 ∧ x.2.1 ≤ 5 ∧ x.2.1 < x.1 ∧ 0 ≤ x.2.2.1.data ∧ 0 ≤ x.2.2.2.1 ∧ x.2.2.2.1 < 4294967296 ∧ x.2.2.2.2.2.length + x.1 ≤ 6) ∧ Sat z w (blk kb 43 x.2.2.1.l :: blk rz 54 Plc.z.l :: blk br 43 k.l :: blk bs 38 [.pointer (some ⟨bn, 0, none⟩), .pointer (some ⟨bp, 0, none⟩)] :: nodesP bn s :: pagesP bp s :: G x.2.2.2.2.2 :: Rs)) (fun x => x.1) (6, 5, k, addr, false, []) ⟨rfl, rfl, rfl, trivial⟩ ⟨⟨hR.symm, by show (0 : Int) ≤ 5; decide, by show (5 : Int) ≤ 5; decide, by show (5 : Int) < 6; decide, hd, ha, ha2, Nat.le_refl 6⟩, H⟩ ?_
  clear H hR ha ha2 hd
  rintro ⟨n, above, q, a, ro, ns⟩ τ w ⟨⟨hw, h0, h5, hn, hd, ha, ha2, hln⟩, H⟩
  dsimp only at hw h0 h5 hn hd ha ha2 hln H
  obtain ⟨m, rfl⟩ : ∃ m, n = m + 1 := ⟨n - 1, by omega⟩
  rw [St.wk] at hw
  repeat' (first | (refine zA ?_; first | refine zB ?_ | refine zC H ?_ | refine zD H ?_ | refine zE H fun _ _ H => ?_ | refine zF H fun _ _ H => ?_ | refine zG H fun _ H => ?_ | refine zH H fun _ H => ?_) | (refine zI ?_; first | refine zJ ?_ | refine zK ?_ | refine zL ?_ | refine zM ?_ | refine zN ?_ | refine zO ?_ | refine zP ?_ | refine zQ ?_ | refine zR ?_) | refine zS ?_)
  refine OpsW.call rfl rfl rfl (memory_ H q) ?_
  rintro _ w ⟨rfl, H⟩
  cases hm : q.mem
  · repeat' (first | (refine zA ?_; first | refine zB ?_ | refine zC H ?_ | refine zD H ?_ | refine zE H fun _ _ H => ?_ | refine zF H fun _ _ H => ?_ | refine zG H fun _ H => ?_ | refine zH H fun _ H => ?_) | (refine zI ?_; first | refine zJ ?_ | refine zK ?_ | refine zL ?_ | refine zM ?_ | refine zN ?_ | refine zO ?_ | refine zP ?_ | refine zQ ?_ | refine zR ?_) | refine zS ?_)
    rw [if_pos (.inl hm)] at hw
    rw [← hw]
    exact ret2c (resA H (by (first | exact p0 | exact p1 | exact p2 | exact p3 | exact p4 | exact p5 | exact p6 | exact p7)) rfl rfl (by rfl)) rfl ⟨rfl, by (first | exact H | exact H.drop | exact H.d2 | exact H.d3 | exact H.d4 | exact H.d5 | exact H.d6 | exact H.d7)⟩
  repeat' (first | (refine zA ?_; first | refine zB ?_ | refine zC H ?_ | refine zD H ?_ | refine zE H fun _ _ H => ?_ | refine zF H fun _ _ H => ?_ | refine zG H fun _ H => ?_ | refine zH H fun _ H => ?_) | (refine zI ?_; first | refine zJ ?_ | refine zK ?_ | refine zL ?_ | refine zM ?_ | refine zN ?_ | refine zO ?_ | refine zP ?_ | refine zQ ?_ | refine zR ?_) | refine zS ?_)
  refine OpsW.call rfl rfl rfl (via H (by exact r3) fun H => store_live H hs q) ?_
  rintro _ w ⟨rfl, H⟩
  cases hl : s.live q
  · repeat' (first | (refine zA ?_; first | refine zB ?_ | refine zC H ?_ | refine zD H ?_ | refine zE H fun _ _ H => ?_ | refine zF H fun _ _ H => ?_ | refine zG H fun _ H => ?_ | refine zH H fun _ H => ?_) | (refine zI ?_; first | refine zJ ?_ | refine zK ?_ | refine zL ?_ | refine zM ?_ | refine zN ?_ | refine zO ?_ | refine zP ?_ | refine zQ ?_ | refine zR ?_) | refine zS ?_)
    rw [if_pos (.inr hl)] at hw
    rw [← hw]
    exact ret2c (resA H (by (first | exact p0 | exact p1 | exact p2 | exact p3 | exact p4 | exact p5 | exact p6 | exact p7)) rfl rfl (by rfl)) rfl ⟨rfl, by (first | exact H | exact H.drop | exact H.d2 | exact H.d3 | exact H.d4 | exact H.d5 | exact H.d6 | exact H.d7)⟩
  rw [if_neg (by rw [hm, hl]; simp)] at hw
  repeat' (first | (refine zA ?_; first | refine zB ?_ | refine zC H ?_ | refine zD H ?_ | refine zE H fun _ _ H => ?_ | refine zF H fun _ _ H => ?_ | refine zG H fun _ H => ?_ | refine zH H fun _ H => ?_) | (refine zI ?_; first | refine zJ ?_ | refine zK ?_ | refine zL ?_ | refine zM ?_ | refine zN ?_ | refine zO ?_ | refine zP ?_ | refine zQ ?_ | refine zR ?_) | refine zS ?_)
  refine OpsW.call rfl rfl rfl (height_ H q) ?_
  rintro _ w ⟨rfl, H⟩
  have hh : 0 ≤ q.hgt ∧ q.hgt ≤ 4 := by
    unfold K.mem at hm; unfold K.hgt
    split
    · omega
    · simp_all
  repeat' (first | (refine zA ?_; first | refine zB ?_ | refine zC H ?_ | refine zD H ?_ | refine zE H fun _ _ H => ?_ | refine zF H fun _ _ H => ?_ | refine zG H fun _ H => ?_ | refine zH H fun _ H => ?_) | (refine zI ?_; first | refine zJ ?_ | refine zK ?_ | refine zL ?_ | refine zM ?_ | refine zN ?_ | refine zO ?_ | refine zP ?_ | refine zQ ?_ | refine zR ?_) | refine zS ?_)
  refine CW.cond rfl (fun h1 => ?_) (fun h1 => ?_)
  · repeat' (first | (refine zA ?_; first | refine zB ?_ | refine zC H ?_ | refine zD H ?_ | refine zE H fun _ _ H => ?_ | refine zF H fun _ _ H => ?_ | refine zG H fun _ H => ?_ | refine zH H fun _ H => ?_) | (refine zI ?_; first | refine zJ ?_ | refine zK ?_ | refine zL ?_ | refine zM ?_ | refine zN ?_ | refine zO ?_ | refine zP ?_ | refine zQ ?_ | refine zR ?_) | refine zS ?_)
    rw [if_pos (of_decide_eq_true h1)] at hw
    rw [← hw]
    exact ret2c (resA H (by (first | exact p0 | exact p1 | exact p2 | exact p3 | exact p4 | exact p5 | exact p6 | exact p7)) rfl rfl (by rfl)) rfl ⟨rfl, by (first | exact H | exact H.drop | exact H.d2 | exact H.d3 | exact H.d4 | exact H.d5 | exact H.d6 | exact H.d7)⟩
  have h1' := of_decide_eq_false h1
  dsimp only at h1'
  rw [if_neg (by omega)] at hw
  repeat' (first | (refine zA ?_; first | refine zB ?_ | refine zC H ?_ | refine zD H ?_ | refine zE H fun _ _ H => ?_ | refine zF H fun _ _ H => ?_ | refine zG H fun _ H => ?_ | refine zH H fun _ H => ?_) | (refine zI ?_; first | refine zJ ?_ | refine zK ?_ | refine zL ?_ | refine zM ?_ | refine zN ?_ | refine zO ?_ | refine zP ?_ | refine zQ ?_ | refine zR ?_) | refine zS ?_)
  refine OpsW.call rfl rfl rfl (size_ H q.hgt hh.1 hh.2) ?_
  rintro _ w ⟨rfl, H⟩
  repeat' (first | (refine zA ?_; first | refine zB ?_ | refine zC H ?_ | refine zD H ?_ | refine zE H fun _ _ H => ?_ | refine zF H fun _ _ H => ?_ | refine zG H fun _ H => ?_ | refine zH H fun _ H => ?_) | (refine zI ?_; first | refine zJ ?_ | refine zK ?_ | refine zL ?_ | refine zM ?_ | refine zN ?_ | refine zO ?_ | refine zP ?_ | refine zQ ?_ | refine zR ?_) | refine zS ?_)
  refine CW.cond rfl (fun h2 => ?_) (fun h2 => ?_)
  · repeat' (first | (refine zA ?_; first | refine zB ?_ | refine zC H ?_ | refine zD H ?_ | refine zE H fun _ _ H => ?_ | refine zF H fun _ _ H => ?_ | refine zG H fun _ H => ?_ | refine zH H fun _ H => ?_) | (refine zI ?_; first | refine zJ ?_ | refine zK ?_ | refine zL ?_ | refine zM ?_ | refine zN ?_ | refine zO ?_ | refine zP ?_ | refine zQ ?_ | refine zR ?_) | refine zS ?_)
    rw [if_pos (of_decide_eq_true h2)] at hw
    rw [← hw]
    exact ret2c (resA H (by (first | exact p0 | exact p1 | exact p2 | exact p3 | exact p4 | exact p5 | exact p6 | exact p7)) rfl rfl (by rfl)) rfl ⟨rfl, by (first | exact H | exact H.drop | exact H.d2 | exact H.d3 | exact H.d4 | exact H.d5 | exact H.d6 | exact H.d7)⟩
  have h2' := of_decide_eq_false h2
  dsimp only at h2'
  rw [if_neg (by omega)] at hw
  cases ro
  all_goals
    repeat' (first | (refine zA ?_; first | refine zB ?_ | refine zC H ?_ | refine zD H ?_ | refine zE H fun _ _ H => ?_ | refine zF H fun _ _ H => ?_ | refine zG H fun _ H => ?_ | refine zH H fun _ H => ?_) | (refine zI ?_; first | refine zJ ?_ | refine zK ?_ | refine zL ?_ | refine zM ?_ | refine zN ?_ | refine zO ?_ | refine zP ?_ | refine zQ ?_ | refine zR ?_) | refine zS ?_)
    refine CW.cond rfl (fun h3 => ?_) (fun h3 => ?_)
    · repeat' (first | (refine zA ?_; first | refine zB ?_ | refine zC H ?_ | refine zD H ?_ | refine zE H fun _ _ H => ?_ | refine zF H fun _ _ H => ?_ | refine zG H fun _ H => ?_ | refine zH H fun _ H => ?_) | (refine zI ?_; first | refine zJ ?_ | refine zK ?_ | refine zL ?_ | refine zM ?_ | refine zN ?_ | refine zO ?_ | refine zP ?_ | refine zQ ?_ | refine zR ?_) | refine zS ?_)
      rw [if_pos (eq_of_beq h3)] at hw
      rw [← hw]
      exact ret2c (resA H (by (first | exact p0 | exact p1 | exact p2 | exact p3 | exact p4 | exact p5 | exact p6 | exact p7)) rfl rfl (by rfl)) rfl ⟨by rw [wrap64_id (n := a) (by omega) (by omega)]; rfl, by (first | exact H | exact H.drop | exact H.d2 | exact H.d3 | exact H.d4 | exact H.d5 | exact H.d6 | exact H.d7)⟩
    rw [if_neg (ne_of_beq_false h3)] at hw
    repeat' (first | (refine zA ?_; first | refine zB ?_ | refine zC H ?_ | refine zD H ?_ | refine zE H fun _ _ H => ?_ | refine zF H fun _ _ H => ?_ | refine zG H fun _ H => ?_ | refine zH H fun _ H => ?_) | (refine zI ?_; first | refine zJ ?_ | refine zK ?_ | refine zL ?_ | refine zM ?_ | refine zN ?_ | refine zO ?_ | refine zP ?_ | refine zQ ?_ | refine zR ?_) | refine zS ?_)
    refine OpsW.callv (f := fid) (vs := .int .i64 q.id :: cap.toList) rfl rfl (by rw [forceL_eq]; rfl) rfl (hby _ ns q.id (blk kb 43 q.l :: blk rz 54 Plc.z.l :: blk br 43 k.l :: blk bs 38 [.pointer (some ⟨bn, 0, none⟩), .pointer (some ⟨bp, 0, none⟩)] :: nodesP bn s :: pagesP bp s :: Rs) (by omega) (H.perm (by repeat' (first | (with_reducible exact List.Perm.refl _) | (with_reducible refine List.Perm.trans p0 (List.Perm.cons _ ?_)) | (with_reducible refine List.Perm.trans p1 (List.Perm.cons _ ?_)) | (with_reducible refine List.Perm.trans p2 (List.Perm.cons _ ?_)) | (with_reducible refine List.Perm.trans p3 (List.Perm.cons _ ?_)) | (with_reducible refine List.Perm.trans p4 (List.Perm.cons _ ?_)) | (with_reducible refine List.Perm.trans p5 (List.Perm.cons _ ?_)) | (with_reducible refine List.Perm.trans p6 (List.Perm.cons _ ?_)) | (with_reducible refine List.Perm.trans p7 (List.Perm.cons _ ?_)) | (with_reducible refine List.Perm.trans p8 (List.Perm.cons _ ?_)) | (with_reducible refine List.Perm.trans p9 (List.Perm.cons _ ?_)) | (with_reducible refine List.Perm.trans p10 (List.Perm.cons _ ?_)) | (with_reducible refine List.Perm.trans p11 (List.Perm.cons _ ?_)))))) ?_
    intro _ w H
    replace H : Sat z w (blk kb 43 q.l :: blk rz 54 Plc.z.l :: blk br 43 k.l :: blk bs 38 [.pointer (some ⟨bn, 0, none⟩), .pointer (some ⟨bp, 0, none⟩)] :: nodesP bn s :: pagesP bp s :: G (ns ++ [q.id]) :: Rs) := H.perm (by repeat' (first | (with_reducible exact List.Perm.refl _) | (with_reducible refine List.Perm.trans p0 (List.Perm.cons _ ?_)) | (with_reducible refine List.Perm.trans p1 (List.Perm.cons _ ?_)) | (with_reducible refine List.Perm.trans p2 (List.Perm.cons _ ?_)) | (with_reducible refine List.Perm.trans p3 (List.Perm.cons _ ?_)) | (with_reducible refine List.Perm.trans p4 (List.Perm.cons _ ?_)) | (with_reducible refine List.Perm.trans p5 (List.Perm.cons _ ?_)) | (with_reducible refine List.Perm.trans p6 (List.Perm.cons _ ?_)) | (with_reducible refine List.Perm.trans p7 (List.Perm.cons _ ?_)) | (with_reducible refine List.Perm.trans p8 (List.Perm.cons _ ?_)) | (with_reducible refine List.Perm.trans p9 (List.Perm.cons _ ?_)) | (with_reducible refine List.Perm.trans p10 (List.Perm.cons _ ?_)) | (with_reducible refine List.Perm.trans p11 (List.Perm.cons _ ?_))))
    repeat' (first | (refine zA ?_; first | refine zB ?_ | refine zC H ?_ | refine zD H ?_ | refine zE H fun _ _ H => ?_ | refine zF H fun _ _ H => ?_ | refine zG H fun _ H => ?_ | refine zH H fun _ H => ?_) | (refine zI ?_; first | refine zJ ?_ | refine zK ?_ | refine zL ?_ | refine zM ?_ | refine zN ?_ | refine zO ?_ | refine zP ?_ | refine zQ ?_ | refine zR ?_) | refine zS ?_)
    have hk3 : q.kind ≠ 3 := ne_of_beq_false h3
    have hg1 : 1 ≤ q.hgt ∧ q.hgt = q.data := by
      unfold K.mem at hm; unfold K.hgt
      rw [if_neg hk3]
      simp_all
    rw [show IntKind.wrap .u32 (q.hgt - 1) = q.hgt - 1 by rw [wrapu32]; omega]
    refine OpsW.call rfl rfl rfl (size_ H (q.hgt - 1) (by omega) (by omega)) ?_
    rintro _ w ⟨rfl, H⟩
    have hpp := psz_pos (q.hgt - 1)
    have hI : IntKind.wrap .i64 (IntKind.wrap .u32 (a.tdiv (psz (q.hgt - 1)))) = a / psz (q.hgt - 1) := by
      have h6 : a.tdiv (psz (q.hgt - 1)) = a / psz (q.hgt - 1) := Int.tdiv_eq_ediv_of_nonneg ha
      have h7 : 0 ≤ a / psz (q.hgt - 1) := Int.ediv_nonneg ha (by omega)
      have h8 : a / psz (q.hgt - 1) ≤ a := Int.ediv_le_self _ ha
      rw [h6, wrapu32, Int.emod_eq_of_lt h7 (by omega), wrap64_id (n := a / psz (q.hgt - 1)) (by omega) (by omega)]
    have hM : a.tmod (psz (q.hgt - 1)) = a % psz (q.hgt - 1) := Int.tmod_eq_emod_of_nonneg ha
    have hM0 := Int.emod_nonneg a (b := psz (q.hgt - 1)) (by omega)
    have hM1 := Int.emod_lt_of_pos a hpp
    have hpl := psz_le (q.hgt - 1)
    have hx5 : q.hgt ≤ 5 := by omega
    have hxl : (ns ++ [q.id]).length + m ≤ 6 := by rw [List.length_append, List.length_singleton]; omega
    have hxm : q.hgt < (m : Int) := by omega
    have hxa : a % psz (q.hgt - 1) < 4294967296 := by omega
    repeat' (first | (refine zA ?_; first | refine zB ?_ | refine zC H ?_ | refine zD H ?_ | refine zE H fun _ _ H => ?_ | refine zF H fun _ _ H => ?_ | refine zG H fun _ H => ?_ | refine zH H fun _ H => ?_) | (refine zI ?_; first | refine zJ ?_ | refine zK ?_ | refine zL ?_ | refine zM ?_ | refine zN ?_ | refine zO ?_ | refine zP ?_ | refine zQ ?_ | refine zR ?_) | refine zS ?_)
    (first | refine CW.seqDraw mo H [0, 1, 3, 7, 0, 16, 0, 0, 192, 448, 1023, 2047, 4095, 4095, 8191] fun w H => ?_ | refine CW.draw mo H [0, 1, 3, 7, 0, 16, 0, 0, 192, 448, 1023, 2047, 4095, 4095, 8191] fun w H => ?_); refine AnyW.seg (m := 12) (by kernel_rfl) (by kernel_rfl) H rfl ?_
    repeat' (first | (refine DrawP.nil ?_; intro w H) | (refine DrawP.go ?_; first | refine DrawP.cons rfl (fun τ w H => OpsW.st rfl (OpsW.nil ⟨rfl, H⟩)) ?_ | refine DrawP.cons rfl (fun τ w H => OpsW.ld H (by (first | exact p0 | exact p1 | exact p2 | exact p3 | exact p4 | exact p5 | exact p6 | exact p7)) rfl rfl rfl rfl (by rfl) rfl (OpsW.nil ⟨rfl, H⟩)) ?_ | refine DrawP.cons rfl (fun τ w H => OpsW.ldA H (by (first | exact p0 | exact p1 | exact p2 | exact p3 | exact p4 | exact p5 | exact p6 | exact p7)) rfl rfl rfl (by rfl) rfl (OpsW.nil ⟨rfl, H⟩)) ?_ | (refine DrawP.goCall ?_; first | refine DrawP.cons rfl (fun τ w H => OpsW.call rfl rfl rfl (via H (by exact pS (pS (pS (pS p0)))) (fun H => nodeP_get (bn := bn) H hs q.id (IntKind.wrap .i64 (IntKind.wrap .u32 (a.tdiv (psz (q.hgt - 1))))))) fun _ w h => by obtain ⟨rfl, H⟩ := h; exact OpsW.nil ⟨rfl, H⟩) ?_) | refine DrawP.cons rfl (fun τ w H => OpsW.quo rfl rfl rfl (by omega) rfl (OpsW.nil ⟨rfl, H⟩)) ?_) | refine DrawP.split (fun h => ?_) (fun h => ?_))
    rw [hI]
    refine AnyW.ofN ?_
    repeat' (first | refine AnyN.take (i := 0) rfl rfl rfl (by decide +kernel) ?_ | refine AnyN.take (i := 1) rfl rfl rfl (by decide +kernel) ?_ | refine AnyN.take (i := 2) rfl rfl rfl (by decide +kernel) ?_ | refine AnyN.take (i := 3) rfl rfl rfl (by decide +kernel) ?_ | refine AnyN.take (i := 4) rfl rfl rfl (by decide +kernel) ?_ | refine AnyN.take (i := 5) rfl rfl rfl (by decide +kernel) ?_ | refine AnyN.take (i := 6) rfl rfl rfl (by decide +kernel) ?_ | refine AnyN.take (i := 7) rfl rfl rfl (by decide +kernel) ?_ | refine AnyN.take (i := 8) rfl rfl rfl (by decide +kernel) ?_ | refine AnyN.take (i := 9) rfl rfl rfl (by decide +kernel) ?_ | refine AnyN.take (i := 10) rfl rfl rfl (by decide +kernel) ?_ | refine AnyN.take (i := 11) rfl rfl rfl (by decide +kernel) ?_ | refine AnyN.take (i := 12) rfl rfl rfl (by decide +kernel) ?_ | refine AnyN.take (i := 13) rfl rfl rfl (by decide +kernel) ?_ | refine AnyN.take (i := 14) rfl rfl rfl (by decide +kernel) ?_ | refine AnyN.take (i := 15) rfl rfl rfl (by decide +kernel) ?_ | refine AnyN.take (i := 16) rfl rfl rfl (by decide +kernel) ?_ | refine AnyN.take (i := 17) rfl rfl rfl (by decide +kernel) ?_ | refine AnyN.take (i := 18) rfl rfl rfl (by decide +kernel) ?_ | refine AnyN.take (i := 19) rfl rfl rfl (by decide +kernel) ?_ | refine AnyN.take (i := 20) rfl rfl rfl (by decide +kernel) ?_ | refine AnyN.take (i := 21) rfl rfl rfl (by decide +kernel) ?_ | refine AnyN.take (i := 22) rfl rfl rfl (by decide +kernel) ?_ | refine AnyN.take (i := 23) rfl rfl rfl (by decide +kernel) ?_ | refine AnyN.take (i := 24) rfl rfl rfl (by decide +kernel) ?_ | refine AnyN.take (i := 25) rfl rfl rfl (by decide +kernel) ?_ | refine AnyN.take (i := 26) rfl rfl rfl (by decide +kernel) ?_ | refine AnyN.take (i := 27) rfl rfl rfl (by decide +kernel) ?_)
    repeat' (first | exact AllI.nil' rfl | refine AllI.cons' rfl rfl ?_ ?_ | refine AnyN.step rfl rfl ?_ | (first | (refine zA ?_; first | refine zB ?_ | refine zC H ?_ | refine zD H ?_ | refine zE H fun _ _ H => ?_ | refine zF H fun _ _ H => ?_ | refine zG H fun _ H => ?_ | refine zH H fun _ H => ?_) | (refine zI ?_; first | refine zJ ?_ | refine zK ?_ | refine zL ?_ | refine zM ?_ | refine zN ?_ | refine zO ?_ | refine zP ?_ | refine zQ ?_ | refine zR ?_) | refine zS ?_))
    refine AnyN.done rfl ?_
    repeat' (first | (refine zA ?_; first | refine zB ?_ | refine zC H ?_ | refine zD H ?_ | refine zE H fun _ _ H => ?_ | refine zF H fun _ _ H => ?_ | refine zG H fun _ H => ?_ | refine zH H fun _ H => ?_) | (refine zI ?_; first | refine zJ ?_ | refine zK ?_ | refine zL ?_ | refine zM ?_ | refine zN ?_ | refine zO ?_ | refine zP ?_ | refine zQ ?_ | refine zR ?_) | refine zS ?_)
    refine OpsW.rem rfl rfl rfl (by omega) rfl ?_
    rw [hM]
    repeat' (first | (refine zA ?_; first | refine zB ?_ | refine zC H ?_ | refine zD H ?_ | refine zE H fun _ _ H => ?_ | refine zF H fun _ _ H => ?_ | refine zG H fun _ H => ?_ | refine zH H fun _ H => ?_) | (refine zI ?_; first | refine zJ ?_ | refine zK ?_ | refine zL ?_ | refine zM ?_ | refine zN ?_ | refine zO ?_ | refine zP ?_ | refine zQ ?_ | refine zR ?_) | refine zS ?_)
    refine ⟨(m, q.hgt, s.key q.id (a / psz (q.hgt - 1)), a % psz (q.hgt - 1), _, ns ++ [q.id]), (by (repeat (first | (with_reducible exact Agree.refl _ _) | (with_reducible refine Agree.trim (by assumption) ?_) | refine Agree.upd ?_ rfl | exact Agree.mix' | refine Agree.mixL ?_ (fun j h => by simp only [Bool.or_eq_true, Bool.and_eq_true, Nat.beq_eq, Nat.ble_eq] at h ⊢; omega) rfl))), ⟨rfl, rfl, rfl, trivial⟩, ⟨⟨hw, hh.1, hx5, hxm, ?_, hM0, hxa, hxl⟩, H⟩, Nat.lt_succ_self m⟩
    show 0 ≤ (s.key q.id (a / psz (q.hgt - 1))).data
    unfold St.key
    split
    · exact hk _ _
    · decide
theorem walk_ (H : Sat z w (blk bs 38 [.pointer (some ⟨bn, 0, none⟩), .pointer (some ⟨bp, 0, none⟩)] :: nodesP bn s :: pagesP bp s :: Rs)) (hs : s.ok) (k : K) (addr : Int) (hd : 0 ≤ k.data) (hk : ∀ a c, 0 ≤ (s.nd a c).data) (ha : 0 ≤ addr) (ha2 : addr < 4294967296) :
    Spec cf 25 #[.pointer (some ⟨bs, 0, none⟩), k.v, .int .u32 addr] w fun e w' => e = .tuple #[(s.walk k addr).1.v, .int .i64 (s.walk k addr).2.1] ∧ Sat z w' (blk bs 38 [.pointer (some ⟨bn, 0, none⟩), .pointer (some ⟨bp, 0, none⟩)] :: nodesP bn s :: pagesP bp s :: Rs) := by
  have hby : ∀ (w : World) (l : List Int) (n : Int) (As : List HP), l.length ≤ 6 → Sat z w ((fun _ : List Int => pur True) l :: As) → Spec cf 61 ((.int .i64 n :: (#[] : Array Value).toList).toArray) w fun e w' => Sat z w' ((fun _ : List Int => pur True) (l ++ [n]) :: As) := fun w l n As _ H => by
    refine enter (l := [.int .i64 n]) Tryd.func61 rfl rfl rfl rfl rfl ?_
    repeat' (first | (refine zA ?_; first | refine zB ?_ | refine zC H ?_ | refine zD H ?_ | refine zE H fun _ _ H => ?_ | refine zF H fun _ _ H => ?_ | refine zG H fun _ H => ?_ | refine zH H fun _ H => ?_) | (refine zI ?_; first | refine zJ ?_ | refine zK ?_ | refine zL ?_ | refine zM ?_ | refine zN ?_ | refine zO ?_ | refine zP ?_ | refine zQ ?_ | refine zR ?_) | refine zS ?_)
    exact ret0 H
  refine enter (l := [.pointer (some ⟨bs, 0, none⟩), k.v, .int .u32 addr]) Tryd.func25 rfl rfl rfl rfl rfl ?_
  repeat' (first | (refine zA ?_; first | refine zB ?_ | refine zC H ?_ | refine zD H ?_ | refine zE H fun _ _ H => ?_ | refine zF H fun _ _ H => ?_ | refine zG H fun _ H => ?_ | refine zH H fun _ H => ?_) | (refine zI ?_; first | refine zJ ?_ | refine zK ?_ | refine zL ?_ | refine zM ?_ | refine zN ?_ | refine zO ?_ | refine zP ?_ | refine zQ ?_ | refine zR ?_) | refine zS ?_)
  have H2 := ((H.perm r2).mkpur (p := True) trivial).perm r1
  refine OpsW.call rfl rfl rfl ((walkG_ (fun _ => pur True) hby H2 hs k addr hd hk ha ha2).mono fun e w h => (⟨h.1, (h.2.perm r1.symm).drop⟩ : e = .tuple #[(s.walk k addr).1.v, .int .i64 (s.walk k addr).2.1] ∧ Sat z w _)) ?_
  rintro _ w ⟨rfl, H⟩
  repeat' (first | (refine zA ?_; first | refine zB ?_ | refine zC H ?_ | refine zD H ?_ | refine zE H fun _ _ H => ?_ | refine zF H fun _ _ H => ?_ | refine zG H fun _ H => ?_ | refine zH H fun _ H => ?_) | (refine zI ?_; first | refine zJ ?_ | refine zK ?_ | refine zL ?_ | refine zM ?_ | refine zN ?_ | refine zO ?_ | refine zP ?_ | refine zQ ?_ | refine zR ?_) | refine zS ?_)
  exact ret2c (resA H (by (first | exact p0 | exact p1 | exact p2 | exact p3 | exact p4 | exact p5 | exact p6 | exact p7)) rfl rfl (by rfl)) rfl ⟨rfl, (H.drop.perm r1.symm).drop⟩
end
end Go.Proofs.YtnfefbhjdncccaaDoor.X
