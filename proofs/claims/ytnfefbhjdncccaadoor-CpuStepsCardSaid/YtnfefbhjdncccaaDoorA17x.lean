/- The document's walk to a word, over a store as plain data; conditions: none. -/
import Derived.Test.YtnfefbhjdncccaaDoorA17w
import Derived.Test.YtnfefbhjdncccaaDoorA17
namespace Go.Proofs.YtnfefbhjdncccaaDoor.X
open Go Go.Proofs
set_option linter.unusedSimpArgs false
set_option linter.unusedVariables false
/-- The document's way: a place, a fault, the nodes. -/
def wayL (p : Plc) (f : Nat) (v : Value) : List Value := [.int .i64 p.page, .int .i64 p.at_, .bool p.ro, .int .i64 f, v]
theorem way_all (p : Plc) (f : Nat) (a : Option Addr) (n c : Nat) : takeK 5 ((wayL p f (.slice a n c)).drop 0) some = some (wayL p f (.slice a n c)) := rfl
theorem way_scl (p : Plc) (f : Nat) (a : Option Addr) (n c : Nat) : (wayL p f (.slice a n c)).all scal = true := rfl
theorem nds_key_ {N i j : Nat} {nd : Nat → Nat → K} (hi : i < N) (hj : j < 16) : takeK 5 ((nds N nd).drop (0 + i * 80 + j * 5)) some = some (nd i j).l := by
  have := takeK_key (N := N) (nd := nd) (rest := []) (j := i) (i := j) hi hj
  rwa [List.append_nil] at this
theorem psz_16 {d : Int} (h : 1 ≤ d ∧ d ≤ 4) : psz d = 16 * psz (d - 1) ∧ IntKind.wrap .u32 ((psz d).tdiv 16) = psz (d - 1) := by
  have : d = 1 ∨ d = 2 ∨ d = 3 ∨ d = 4 := by omega
  rcases this with rfl | rfl | rfl | rfl <;> decide +kernel
attribute [local irreducible] CW OpsW RetW Spec blk snap DrawP AnyW AnyM AnyN bits IntKind.wrap vec arena kds nds wds pgs eA nodesP pagesP slo8 St.wk
section
variable {z w : World} {As : List HP} {bx : Nat} {s : St} {p : SyV}
set_option maxHeartbeats 2000000 in
set_option maxRecDepth 20000 in
theorem sy_walk (H : Sat z w (syP bx s :: As)) (k : K) (addr : Int) (hd : 0 ≤ k.data) (hk : ∀ a c, 0 ≤ (s.nd a c).data) (ha : 0 ≤ addr) (ha2 : addr < 4294967296) :
    Spec cf 109 #[.pointer (some ⟨bx, 0, none⟩), k.v, .int .u32 addr] w fun e w' => ∃ va vn vc, e = .agg (wayL (s.walk k addr).1 (s.walk k addr).2.1 (.slice va vn vc)).toArray ∧ Sat z w' (syP bx s :: As) := by
  refine enter (l := [.pointer (some ⟨bx, 0, none⟩), k.v, .int .u32 addr]) Tryd.func109 rfl rfl rfl rfl rfl ?_
  repeat' (first | (refine zA ?_; first | refine zB ?_ | refine zC H ?_ | refine zD H ?_ | refine zE H fun _ _ H => ?_ | refine zF H fun _ _ H => ?_ | refine zG H fun _ H => ?_ | refine zH H fun _ H => ?_) | (refine zI ?_; first | refine zJ ?_ | refine zK ?_ | refine zL ?_ | refine zM ?_ | refine zN ?_ | refine zO ?_ | refine zP ?_ | refine zQ ?_ | refine zR ?_) | refine zS ?_)
  rename_i b4 _ _ b6 _ _ bw _ _ bk _ _ _
  obtain ⟨R, hR⟩ : ∃ R, R = s.walk k addr := ⟨_, rfl⟩
  rw [← hR]
  replace H : Sat z _ (blk bk 43 k.l :: blk bw 204 (wayL Plc.z 0 (.slice none 0 0)) :: blk b6 204 (wayL Plc.z 0 (.slice none 0 0)) :: syP bx s :: As) := (((H.perm p3).drop).perm (by repeat' (first | (with_reducible exact List.Perm.refl _) | (with_reducible refine List.Perm.trans p0 (List.Perm.cons _ ?_)) | (with_reducible refine List.Perm.trans p1 (List.Perm.cons _ ?_)) | (with_reducible refine List.Perm.trans p2 (List.Perm.cons _ ?_)) | (with_reducible refine List.Perm.trans p3 (List.Perm.cons _ ?_)) | (with_reducible refine List.Perm.trans p4 (List.Perm.cons _ ?_)) | (with_reducible refine List.Perm.trans p5 (List.Perm.cons _ ?_)) | (with_reducible refine List.Perm.trans p6 (List.Perm.cons _ ?_)) | (with_reducible refine List.Perm.trans p7 (List.Perm.cons _ ?_)) | (with_reducible refine List.Perm.trans p8 (List.Perm.cons _ ?_)) | (with_reducible refine List.Perm.trans p9 (List.Perm.cons _ ?_)) | (with_reducible refine List.Perm.trans p10 (List.Perm.cons _ ?_)) | (with_reducible refine List.Perm.trans p11 (List.Perm.cons _ ?_)))))
  refine CW.loopF (X := Nat × Int × K × Int × Bool × List Int × Option Addr × Nat) (fun j => Nat.beq j 2 || Nat.ble 9 j) (fun x => [(2, .int .u32 x.2.2.2.1), (9, .int .u32 x.2.1)])
    (fun x w => (s.wk x.1 x.2.1 x.2.2.1 x.2.2.2.1 x.2.2.2.2.1 x.2.2.2.2.2.1 = R ∧ 1 ≤ x.2.1 ∧ x.2.1 ≤ 5 ∧ x.2.1 < x.1 ∧ 0 ≤ x.2.2.1.data ∧ 0 ≤ x.2.2.2.1 ∧ x.2.2.2.1 < 4294967296 ∧ x.2.2.2.2.2.1.length + x.1 ≤ 6) ∧ Sat z w (blk bk 43 x.2.2.1.l :: blk bw 204 (wayL ⟨0, 0, x.2.2.2.2.1⟩ 0 (.slice x.2.2.2.2.2.2.1 x.2.2.2.2.2.1.length x.2.2.2.2.2.2.2)) :: vec 3 x.2.2.2.2.2.2.1 x.2.2.2.2.2.1.length x.2.2.2.2.2.2.2 1 (x.2.2.2.2.2.1.map (.int .i64)) :: blk b6 204 (wayL Plc.z 0 (.slice none 0 0)) :: syP bx s :: As))
    (fun x => x.1) (6, 5, k, addr, false, [], none, 0) ⟨rfl, rfl, trivial⟩ ⟨⟨hR.symm, by show (1 : Int) ≤ 5; decide, by show (5 : Int) ≤ 5; decide, by show (5 : Int) < 6; decide, hd, ha, ha2, by show 0 + 6 ≤ 6; decide⟩, ((Sat.vnil (E := 3) (sz := 1) H).perm (by repeat' (first | (with_reducible exact List.Perm.refl _) | (with_reducible refine List.Perm.trans p0 (List.Perm.cons _ ?_)) | (with_reducible refine List.Perm.trans p1 (List.Perm.cons _ ?_)) | (with_reducible refine List.Perm.trans p2 (List.Perm.cons _ ?_)) | (with_reducible refine List.Perm.trans p3 (List.Perm.cons _ ?_)) | (with_reducible refine List.Perm.trans p4 (List.Perm.cons _ ?_)) | (with_reducible refine List.Perm.trans p5 (List.Perm.cons _ ?_)) | (with_reducible refine List.Perm.trans p6 (List.Perm.cons _ ?_)) | (with_reducible refine List.Perm.trans p7 (List.Perm.cons _ ?_)) | (with_reducible refine List.Perm.trans p8 (List.Perm.cons _ ?_)) | (with_reducible refine List.Perm.trans p9 (List.Perm.cons _ ?_)) | (with_reducible refine List.Perm.trans p10 (List.Perm.cons _ ?_)) | (with_reducible refine List.Perm.trans p11 (List.Perm.cons _ ?_)))))⟩ ?_
  clear H hR ha ha2 hd
  rintro ⟨n, above, q, a, ro, ns, sa, sc⟩ τ w ⟨⟨hw, h1, h5, hn, hd, ha, ha2, hln⟩, H⟩
  dsimp only at hw h1 h5 hn hd ha ha2 hln H
  obtain ⟨m, rfl⟩ : ∃ m, n = m + 1 := ⟨n - 1, by omega⟩
  unfold St.wk at hw
  repeat' (first | (refine zA ?_; first | refine zB ?_ | refine zC H ?_ | refine zD H ?_ | refine zE H fun _ _ H => ?_ | refine zF H fun _ _ H => ?_ | refine zG H fun _ H => ?_ | refine zH H fun _ H => ?_) | (refine zI ?_; first | refine zJ ?_ | refine zK ?_ | refine zL ?_ | refine zM ?_ | refine zN ?_ | refine zO ?_ | refine zP ?_ | refine zQ ?_ | refine zR ?_) | refine zS ?_)
  refine OpsW.call rfl rfl rfl (size8_ H q hd) ?_
  rintro _ w ⟨rfl, H⟩
  cases hm : q.mem
  · rw [if_pos (.inl hm)] at hw
    rw [← hw]
    repeat' (first | (refine zA ?_; first | refine zB ?_ | refine zC H ?_ | refine zD H ?_ | refine zE H fun _ _ H => ?_ | refine zF H fun _ _ H => ?_ | refine zG H fun _ H => ?_ | refine zH H fun _ H => ?_) | (refine zI ?_; first | refine zJ ?_ | refine zK ?_ | refine zL ?_ | refine zM ?_ | refine zN ?_ | refine zO ?_ | refine zP ?_ | refine zQ ?_ | refine zR ?_) | refine zS ?_)
    refine OpsW.strF (vs := wayL Plc.z 2 (.slice sa ns.length sc)) H p3 rfl rfl rfl rfl rfl rfl (Nat.le_refl 5) fun w H => ?_
    rw [splice_full (by rfl)] at H
    repeat' (first | (refine zA ?_; first | refine zB ?_ | refine zC H ?_ | refine zD H ?_ | refine zE H fun _ _ H => ?_ | refine zF H fun _ _ H => ?_ | refine zG H fun _ H => ?_ | refine zH H fun _ H => ?_) | (refine zI ?_; first | refine zJ ?_ | refine zK ?_ | refine zL ?_ | refine zM ?_ | refine zN ?_ | refine zO ?_ | refine zP ?_ | refine zQ ?_ | refine zR ?_) | refine zS ?_)
    exact ret1c (resA H p0 rfl rfl (way_all _ _ _ _ _)) ⟨_, _, _, rfl, H.drop.drop.drop.drop⟩
  have hkd : q.kind = 2 ∨ q.kind = 3 := by
    unfold K.mem at hm
    simp at hm; omega
  repeat' (first | (refine zA ?_; first | refine zB ?_ | refine zC H ?_ | refine zD H ?_ | refine zE H fun _ _ H => ?_ | refine zF H fun _ _ H => ?_ | refine zG H fun _ H => ?_ | refine zH H fun _ H => ?_) | (refine zI ?_; first | refine zJ ?_ | refine zK ?_ | refine zL ?_ | refine zM ?_ | refine zN ?_ | refine zO ?_ | refine zP ?_ | refine zQ ?_ | refine zR ?_) | refine zS ?_)
  refine OpsW.call rfl rfl rfl (via H (by exact p4) fun H => sy_live H q hkd) ?_
  rintro _ w ⟨rfl, H⟩
  cases hl : s.live q
  · rw [if_pos (.inr hl)] at hw
    rw [← hw]
    repeat' (first | (refine zA ?_; first | refine zB ?_ | refine zC H ?_ | refine zD H ?_ | refine zE H fun _ _ H => ?_ | refine zF H fun _ _ H => ?_ | refine zG H fun _ H => ?_ | refine zH H fun _ H => ?_) | (refine zI ?_; first | refine zJ ?_ | refine zK ?_ | refine zL ?_ | refine zM ?_ | refine zN ?_ | refine zO ?_ | refine zP ?_ | refine zQ ?_ | refine zR ?_) | refine zS ?_)
    refine OpsW.strF (vs := wayL Plc.z 2 (.slice sa ns.length sc)) H p3 rfl rfl rfl rfl rfl rfl (Nat.le_refl 5) fun w H => ?_
    rw [splice_full (by rfl)] at H
    repeat' (first | (refine zA ?_; first | refine zB ?_ | refine zC H ?_ | refine zD H ?_ | refine zE H fun _ _ H => ?_ | refine zF H fun _ _ H => ?_ | refine zG H fun _ H => ?_ | refine zH H fun _ H => ?_) | (refine zI ?_; first | refine zJ ?_ | refine zK ?_ | refine zL ?_ | refine zM ?_ | refine zN ?_ | refine zO ?_ | refine zP ?_ | refine zQ ?_ | refine zR ?_) | refine zS ?_)
    exact ret1c (resA H p0 rfl rfl (way_all _ _ _ _ _)) ⟨_, _, _, rfl, H.drop.drop.drop.drop⟩
  rw [if_neg (by rw [hm, hl]; simp)] at hw
  obtain ⟨kd, id, ver, rt, dt⟩ := q
  replace hkd : kd = 2 ∨ kd = 3 := hkd
  rcases hkd with rfl | rfl
  · have hdt : 1 ≤ dt ∧ dt ≤ 4 := by
      unfold K.mem at hm
      simp at hm; omega
    replace hw : (if above ≤ dt then (Plc.z, 5, ns) else if psz dt ≤ a then (Plc.z, 3, ns) else if (2 : Int) = 3 then (⟨id, a, ro || bits .and .i64 rt 5 != 0⟩, 0, ns) else s.wk m dt (s.key id (a / psz (dt - 1))) (a % psz (dt - 1)) (ro || bits .and .i64 rt 5 != 0) (ns ++ [id])) = R := hw
    repeat' (first | (refine zA ?_; first | refine zB ?_ | refine zC H ?_ | refine zD H ?_ | refine zE H fun _ _ H => ?_ | refine zF H fun _ _ H => ?_ | refine zG H fun _ H => ?_ | refine zH H fun _ H => ?_) | (refine zI ?_; first | refine zJ ?_ | refine zK ?_ | refine zL ?_ | refine zM ?_ | refine zN ?_ | refine zO ?_ | refine zP ?_ | refine zQ ?_ | refine zR ?_) | refine zS ?_)
    refine CW.cond rfl (fun h => ?_) (fun h => ?_)
    · rw [if_pos (of_decide_eq_true h)] at hw
      rw [← hw]
      repeat' (first | (refine zA ?_; first | refine zB ?_ | refine zC H ?_ | refine zD H ?_ | refine zE H fun _ _ H => ?_ | refine zF H fun _ _ H => ?_ | refine zG H fun _ H => ?_ | refine zH H fun _ H => ?_) | (refine zI ?_; first | refine zJ ?_ | refine zK ?_ | refine zL ?_ | refine zM ?_ | refine zN ?_ | refine zO ?_ | refine zP ?_ | refine zQ ?_ | refine zR ?_) | refine zS ?_)
      refine OpsW.strF (vs := wayL Plc.z 5 (.slice sa ns.length sc)) H p3 rfl rfl rfl rfl rfl rfl (Nat.le_refl 5) fun w H => ?_
      rw [splice_full (by rfl)] at H
      repeat' (first | (refine zA ?_; first | refine zB ?_ | refine zC H ?_ | refine zD H ?_ | refine zE H fun _ _ H => ?_ | refine zF H fun _ _ H => ?_ | refine zG H fun _ H => ?_ | refine zH H fun _ H => ?_) | (refine zI ?_; first | refine zJ ?_ | refine zK ?_ | refine zL ?_ | refine zM ?_ | refine zN ?_ | refine zO ?_ | refine zP ?_ | refine zQ ?_ | refine zR ?_) | refine zS ?_)
      exact ret1c (resA H p0 rfl rfl (way_all _ _ _ _ _)) ⟨_, _, _, rfl, H.drop.drop.drop.drop⟩
    rw [if_neg (of_decide_eq_false h)] at hw
    repeat' (first | (refine zA ?_; first | refine zB ?_ | refine zC H ?_ | refine zD H ?_ | refine zE H fun _ _ H => ?_ | refine zF H fun _ _ H => ?_ | refine zG H fun _ H => ?_ | refine zH H fun _ H => ?_) | (refine zI ?_; first | refine zJ ?_ | refine zK ?_ | refine zL ?_ | refine zM ?_ | refine zN ?_ | refine zO ?_ | refine zP ?_ | refine zQ ?_ | refine zR ?_) | refine zS ?_)
    refine CW.cond rfl (fun h => ?_) (fun h => ?_)
    · rw [if_pos (show psz dt ≤ a from of_decide_eq_true h)] at hw
      rw [← hw]
      repeat' (first | (refine zA ?_; first | refine zB ?_ | refine zC H ?_ | refine zD H ?_ | refine zE H fun _ _ H => ?_ | refine zF H fun _ _ H => ?_ | refine zG H fun _ H => ?_ | refine zH H fun _ H => ?_) | (refine zI ?_; first | refine zJ ?_ | refine zK ?_ | refine zL ?_ | refine zM ?_ | refine zN ?_ | refine zO ?_ | refine zP ?_ | refine zQ ?_ | refine zR ?_) | refine zS ?_)
      refine OpsW.strF (vs := wayL Plc.z 3 (.slice sa ns.length sc)) H p3 rfl rfl rfl rfl rfl rfl (Nat.le_refl 5) fun w H => ?_
      rw [splice_full (by rfl)] at H
      repeat' (first | (refine zA ?_; first | refine zB ?_ | refine zC H ?_ | refine zD H ?_ | refine zE H fun _ _ H => ?_ | refine zF H fun _ _ H => ?_ | refine zG H fun _ H => ?_ | refine zH H fun _ H => ?_) | (refine zI ?_; first | refine zJ ?_ | refine zK ?_ | refine zL ?_ | refine zM ?_ | refine zN ?_ | refine zO ?_ | refine zP ?_ | refine zQ ?_ | refine zR ?_) | refine zS ?_)
      exact ret1c (resA H p0 rfl rfl (way_all _ _ _ _ _)) ⟨_, _, _, rfl, H.drop.drop.drop.drop⟩
    rw [if_neg (show ¬ psz dt ≤ a from of_decide_eq_false h), if_neg (by decide)] at hw
    obtain ⟨ro', hro⟩ : ∃ r, r = (ro || bits .and .i64 rt 5 != 0) := ⟨_, rfl⟩
    rw [← hro] at hw
    cases ro
    all_goals
      repeat' (first | (refine zA ?_; first | refine zB ?_ | refine zC H ?_ | refine zD H ?_ | refine zE H fun _ _ H => ?_ | refine zF H fun _ _ H => ?_ | refine zG H fun _ H => ?_ | refine zH H fun _ H => ?_) | (refine zI ?_; first | refine zJ ?_ | refine zK ?_ | refine zL ?_ | refine zM ?_ | refine zN ?_ | refine zO ?_ | refine zP ?_ | refine zQ ?_ | refine zR ?_) | refine zS ?_)
      refine OpsW.str H p1 rfl rfl rfl rfl rfl rfl (by show 2 < 5; decide) fun w H => ?_
      replace H : Sat z w (blk bw 204 (wayL ⟨0, 0, ro'⟩ 0 (.slice sa ns.length sc)) :: blk bk 43 (K.l ⟨2, id, ver, rt, dt⟩) :: vec 3 sa ns.length sc 1 (ns.map (.int .i64)) :: blk b6 204 (wayL Plc.z 0 (.slice none 0 0)) :: syP bx s :: As) := by rw [hro]; exact H
      repeat' (first | (refine zA ?_; first | refine zB ?_ | refine zC H ?_ | refine zD H ?_ | refine zE H fun _ _ H => ?_ | refine zF H fun _ _ H => ?_ | refine zG H fun _ H => ?_ | refine zH H fun _ H => ?_) | (refine zI ?_; first | refine zJ ?_ | refine zK ?_ | refine zL ?_ | refine zM ?_ | refine zN ?_ | refine zO ?_ | refine zP ?_ | refine zQ ?_ | refine zR ?_) | refine zS ?_)
      refine OpsW.bsl H rfl rfl rfl rfl rfl rfl rfl rfl fun bb w H => ?_
      repeat' (first | (refine zA ?_; first | refine zB ?_ | refine zC H ?_ | refine zD H ?_ | refine zE H fun _ _ H => ?_ | refine zF H fun _ _ H => ?_ | refine zG H fun _ H => ?_ | refine zH H fun _ H => ?_) | (refine zI ?_; first | refine zJ ?_ | refine zK ?_ | refine zL ?_ | refine zM ?_ | refine zN ?_ | refine zO ?_ | refine zP ?_ | refine zQ ?_ | refine zR ?_) | refine zS ?_)
      refine OpsW.vapp (n2 := 1) (c2 := [.int .i64 id]) H p3 (SlR.of_blk (r := []) rfl (Nat.le_refl 1)) rfl (by decide) (by omega) rfl rfl rfl rfl rfl rfl rfl rfl rfl fun a2 cap2 w H => ?_
      replace H := (H.perm p1).drop
      rw [show ns.map (Value.int .i64) ++ [.int .i64 id] = (ns ++ [id]).map (.int .i64) by rw [List.map_append]; rfl] at H
      repeat' (first | (refine zA ?_; first | refine zB ?_ | refine zC H ?_ | refine zD H ?_ | refine zE H fun _ _ H => ?_ | refine zF H fun _ _ H => ?_ | refine zG H fun _ H => ?_ | refine zH H fun _ H => ?_) | (refine zI ?_; first | refine zJ ?_ | refine zK ?_ | refine zL ?_ | refine zM ?_ | refine zN ?_ | refine zO ?_ | refine zP ?_ | refine zQ ?_ | refine zR ?_) | refine zS ?_)
      refine OpsW.str H p1 rfl rfl rfl rfl rfl rfl (by show 4 < 5; decide) fun w H => ?_
      replace H : Sat z w (blk bw 204 (wayL ⟨0, 0, ro'⟩ 0 (.slice a2 (ns.length + 1) cap2)) :: vec 3 a2 (ns.length + 1) cap2 1 ((ns ++ [id]).map (.int .i64)) :: blk bk 43 (K.l ⟨2, id, ver, rt, dt⟩) :: blk b6 204 (wayL Plc.z 0 (.slice none 0 0)) :: syP bx s :: As) := H
      repeat' (first | (refine zA ?_; first | refine zB ?_ | refine zC H ?_ | refine zD H ?_ | refine zE H fun _ _ H => ?_ | refine zF H fun _ _ H => ?_ | refine zG H fun _ H => ?_ | refine zH H fun _ H => ?_) | (refine zI ?_; first | refine zJ ?_ | refine zK ?_ | refine zL ?_ | refine zM ?_ | refine zN ?_ | refine zO ?_ | refine zP ?_ | refine zQ ?_ | refine zR ?_) | refine zS ?_)
      obtain ⟨hp16, hpq⟩ := psz_16 hdt
      rw [show IntKind.u32.wrap ((if true = true then psz (K.hgt ⟨2, id, ver, rt, dt⟩) else 0).tdiv 16) = psz (dt - 1) from hpq]
      have hpp := psz_pos (dt - 1)
      have haq : a < psz dt := by
        have h9 : ¬ psz dt ≤ a := of_decide_eq_false ‹decide (a ≥ psz dt) = false›
        omega
      have hj0 : 0 ≤ a / psz (dt - 1) := Int.ediv_nonneg ha (by omega)
      have hj1 : a / psz (dt - 1) < 16 := Int.ediv_lt_of_lt_mul hpp (by omega)
      obtain ⟨j, hj⟩ := Int.eq_ofNat_of_zero_le hj0
      have hj16 : j < 16 := by omega
      have hq : IntKind.wrap .u32 (a.tdiv (psz (dt - 1))) = (j : Int) := by
        rw [Int.tdiv_eq_ediv_of_nonneg ha, hj, wrapu32]; omega
      have hon : onN s.N s.f id = true := by
        have : liveAt s.N s.f id ver = true := hl
        unfold liveAt at this
        exact (Bool.and_eq_true_iff.1 this).1
      have hid : 0 ≤ id ∧ id < s.N := by
        unfold onN at hon
        simp at hon
        exact ⟨hon.1, hon.2.1⟩
      have hkey : s.key id (a / psz (dt - 1)) = s.nd id.toNat j := by
        unfold St.key St.hasN
        rw [hon, hj, show (true && (decide (0 ≤ (j : Int)) && decide ((j : Int) < 16))) = true by simp; omega, if_pos rfl]
        rfl
      rw [hkey] at hw
      obtain ⟨i, rfl⟩ := Int.eq_ofNat_of_zero_le hid.1
      have hi : i < s.N := by omega
      obtain ⟨p, H2⟩ := sy_open (H.perm p4)
      replace H := H2
      clear H2
      (first | refine CW.seqDraw mo H [0, 1, 3, 7, 0, 16, 0, 0, 192, 63, 1023, 2047, 4095] fun w H => ?_ | refine CW.draw mo H [0, 1, 3, 7, 0, 16, 0, 0, 192, 63, 1023, 2047, 4095] fun w H => ?_); refine AnyW.seg (m := 12) (by kernel_rfl) (by kernel_rfl) H rfl ?_
      refine .cons rfl (fun τ w H => .st rfl (.nil ⟨rfl, H⟩)) ?_
      refine .cons rfl (fun τ w H => .st rfl (.nil ⟨rfl, H⟩)) ?_
      refine .cons rfl (fun τ w H => .st rfl (.nil ⟨rfl, H⟩)) ?_
      refine .cons rfl (fun τ w H => .ld H p0 rfl rfl rfl rfl (by rfl) rfl (.nil ⟨rfl, H⟩)) ?_
      refine .cons rfl (fun τ w H => .st rfl (.nil ⟨rfl, H⟩)) ?_
      refine .cons rfl (fun τ w H => .ld H p7 rfl rfl rfl rfl (by rfl) rfl (.nil ⟨rfl, H⟩)) ?_
      refine .cons rfl (fun τ w H => .st rfl (.nil ⟨rfl, H⟩)) ?_
      refine .cons rfl (fun τ w H => .st rfl (.nil ⟨rfl, H⟩)) ?_
      refine .cons rfl (fun τ w H => OpsW.quo rfl rfl rfl (by omega) rfl (.nil ⟨rfl, H⟩)) ?_
      refine .cons rfl (fun τ w H => OpsW.ix (n := i) rfl rfl rfl rfl rfl rfl rfl hi rfl (.nil ⟨rfl, H⟩)) ?_
      refine .cons rfl (fun τ w H => OpsW.ixA (n := j) rfl rfl rfl rfl rfl rfl hq hj16 rfl (.nil ⟨rfl, H⟩)) ?_
      refine .cons rfl (fun τ w H => .ldA H p4 rfl rfl rfl (nds_key_ hi hj16) rfl (.nil ⟨rfl, H⟩)) ?_
      refine DrawP.nil fun w H => ?_
      refine AnyW.one (by kernel_rfl) (by kernel_rfl) rfl ?_
      refine OpsW.strF (vs := (s.nd i j).l) H p7 rfl rfl rfl rfl rfl rfl (Nat.le_refl 5) fun w H => ?_
      rw [splice_full (by rfl)] at H
      refine OpsW.nil ?_
      refine AnyW.done ?_
      have H2 : Sat z w (syP bx s :: blk bk 43 (s.nd i j).l :: blk bw 204 (wayL ⟨0, 0, ro'⟩ 0 (.slice a2 (ns.length + 1) cap2)) :: vec 3 a2 (ns.length + 1) cap2 1 ((ns ++ [(i : Int)]).map (.int .i64)) :: blk b6 204 (wayL Plc.z 0 (.slice none 0 0)) :: As) := sy_close (p := p) (H.perm (by repeat' (first | (with_reducible exact List.Perm.refl _) | (with_reducible refine List.Perm.trans p0 (List.Perm.cons _ ?_)) | (with_reducible refine List.Perm.trans p1 (List.Perm.cons _ ?_)) | (with_reducible refine List.Perm.trans p2 (List.Perm.cons _ ?_)) | (with_reducible refine List.Perm.trans p3 (List.Perm.cons _ ?_)) | (with_reducible refine List.Perm.trans p4 (List.Perm.cons _ ?_)) | (with_reducible refine List.Perm.trans p5 (List.Perm.cons _ ?_)) | (with_reducible refine List.Perm.trans p6 (List.Perm.cons _ ?_)) | (with_reducible refine List.Perm.trans p7 (List.Perm.cons _ ?_)) | (with_reducible refine List.Perm.trans p8 (List.Perm.cons _ ?_)) | (with_reducible refine List.Perm.trans p9 (List.Perm.cons _ ?_)) | (with_reducible refine List.Perm.trans p10 (List.Perm.cons _ ?_)) | (with_reducible refine List.Perm.trans p11 (List.Perm.cons _ ?_)))))
      clear H
      replace H := H2
      clear H2
      repeat' (first | (refine zA ?_; first | refine zB ?_ | refine zC H ?_ | refine zD H ?_ | refine zE H fun _ _ H => ?_ | refine zF H fun _ _ H => ?_ | refine zG H fun _ H => ?_ | refine zH H fun _ H => ?_) | (refine zI ?_; first | refine zJ ?_ | refine zK ?_ | refine zL ?_ | refine zM ?_ | refine zN ?_ | refine zO ?_ | refine zP ?_ | refine zQ ?_ | refine zR ?_) | refine zS ?_)
      refine OpsW.rem rfl rfl rfl (by omega) rfl ?_
      rw [show a.tmod (psz (dt - 1)) = a % psz (dt - 1) from Int.tmod_eq_emod_of_nonneg ha]
      have hm0 := Int.emod_nonneg a (b := psz (dt - 1)) (by omega)
      have hm1 := Int.emod_lt_of_pos a hpp
      have hpl := psz_le (dt - 1)
      have hln2 : (ns ++ [(i : Int)]).length = ns.length + 1 := by rw [List.length_append, List.length_singleton]
      have hab : dt < above := by
        have h9 : ¬ above ≤ dt := of_decide_eq_false ‹decide (dt ≥ above) = false›
        omega
      repeat' (first | (refine zA ?_; first | refine zB ?_ | refine zC H ?_ | refine zD H ?_ | refine zE H fun _ _ H => ?_ | refine zF H fun _ _ H => ?_ | refine zG H fun _ H => ?_ | refine zH H fun _ H => ?_) | (refine zI ?_; first | refine zJ ?_ | refine zK ?_ | refine zL ?_ | refine zM ?_ | refine zN ?_ | refine zO ?_ | refine zP ?_ | refine zQ ?_ | refine zR ?_) | refine zS ?_)
      rw [← hln2] at H
      exact ⟨(m, dt, s.nd i j, a % psz (dt - 1), ro', ns ++ [(i : Int)], a2, cap2), (by (repeat (first | (with_reducible exact Agree.refl _ _) | (with_reducible refine Agree.trim (by assumption) ?_) | refine Agree.upd ?_ rfl | exact Agree.mix' | refine Agree.mixL ?_ (fun j h => by simp only [Bool.or_eq_true, Bool.and_eq_true, Nat.beq_eq, Nat.ble_eq] at h ⊢; omega) rfl))), ⟨rfl, rfl, trivial⟩, ⟨⟨hw, hdt.1, by show dt ≤ 5; omega, by show dt < (m : Int); omega, hk _ _, hm0, by show a % psz (dt - 1) < 4294967296; omega, by show (ns ++ [(i : Int)]).length + m ≤ 6; rw [hln2]; omega⟩, H.perm (p1.trans ((p1.trans ((p1.trans (p1.cons _)).cons _)).cons _) |>.trans (.refl _))⟩, Nat.lt_succ_self m⟩
  · replace hw : (if above ≤ 0 then (Plc.z, 5, ns) else if psz 0 ≤ a then (Plc.z, 3, ns) else if (3 : Int) = 3 then (⟨id, a, ro || bits .and .i64 rt 5 != 0⟩, 0, ns) else s.wk m 0 (s.key id (a / psz (0 - 1))) (a % psz (0 - 1)) (ro || bits .and .i64 rt 5 != 0) (ns ++ [id])) = R := hw
    rw [if_neg (by omega)] at hw
    repeat' (first | (refine zA ?_; first | refine zB ?_ | refine zC H ?_ | refine zD H ?_ | refine zE H fun _ _ H => ?_ | refine zF H fun _ _ H => ?_ | refine zG H fun _ H => ?_ | refine zH H fun _ H => ?_) | (refine zI ?_; first | refine zJ ?_ | refine zK ?_ | refine zL ?_ | refine zM ?_ | refine zN ?_ | refine zO ?_ | refine zP ?_ | refine zQ ?_ | refine zR ?_) | refine zS ?_)
    refine CW.cond rfl (fun h => ?_) (fun h => ?_)
    · rw [if_pos (show psz 0 ≤ a from of_decide_eq_true h)] at hw
      rw [← hw]
      repeat' (first | (refine zA ?_; first | refine zB ?_ | refine zC H ?_ | refine zD H ?_ | refine zE H fun _ _ H => ?_ | refine zF H fun _ _ H => ?_ | refine zG H fun _ H => ?_ | refine zH H fun _ H => ?_) | (refine zI ?_; first | refine zJ ?_ | refine zK ?_ | refine zL ?_ | refine zM ?_ | refine zN ?_ | refine zO ?_ | refine zP ?_ | refine zQ ?_ | refine zR ?_) | refine zS ?_)
      refine OpsW.strF (vs := wayL Plc.z 3 (.slice sa ns.length sc)) H p3 rfl rfl rfl rfl rfl rfl (Nat.le_refl 5) fun w H => ?_
      rw [splice_full (by rfl)] at H
      repeat' (first | (refine zA ?_; first | refine zB ?_ | refine zC H ?_ | refine zD H ?_ | refine zE H fun _ _ H => ?_ | refine zF H fun _ _ H => ?_ | refine zG H fun _ H => ?_ | refine zH H fun _ H => ?_) | (refine zI ?_; first | refine zJ ?_ | refine zK ?_ | refine zL ?_ | refine zM ?_ | refine zN ?_ | refine zO ?_ | refine zP ?_ | refine zQ ?_ | refine zR ?_) | refine zS ?_)
      exact ret1c (resA H p0 rfl rfl (way_all _ _ _ _ _)) ⟨_, _, _, rfl, H.drop.drop.drop.drop⟩
    rw [if_neg (show ¬ psz 0 ≤ a from of_decide_eq_false h), if_pos rfl] at hw
    obtain ⟨ro', hro⟩ : ∃ r, r = (ro || bits .and .i64 rt 5 != 0) := ⟨_, rfl⟩
    rw [← hro] at hw
    cases ro
    all_goals
      repeat' (first | (refine zA ?_; first | refine zB ?_ | refine zC H ?_ | refine zD H ?_ | refine zE H fun _ _ H => ?_ | refine zF H fun _ _ H => ?_ | refine zG H fun _ H => ?_ | refine zH H fun _ H => ?_) | (refine zI ?_; first | refine zJ ?_ | refine zK ?_ | refine zL ?_ | refine zM ?_ | refine zN ?_ | refine zO ?_ | refine zP ?_ | refine zQ ?_ | refine zR ?_) | refine zS ?_)
      refine OpsW.str H p1 rfl rfl rfl rfl rfl rfl (by show 2 < 5; decide) fun w H => ?_
      replace H : Sat z w (blk bw 204 (wayL ⟨0, 0, ro'⟩ 0 (.slice sa ns.length sc)) :: blk bk 43 (K.l ⟨3, id, ver, rt, dt⟩) :: vec 3 sa ns.length sc 1 (ns.map (.int .i64)) :: blk b6 204 (wayL Plc.z 0 (.slice none 0 0)) :: syP bx s :: As) := by rw [hro]; exact H
      repeat' (first | (refine zA ?_; first | refine zB ?_ | refine zC H ?_ | refine zD H ?_ | refine zE H fun _ _ H => ?_ | refine zF H fun _ _ H => ?_ | refine zG H fun _ H => ?_ | refine zH H fun _ H => ?_) | (refine zI ?_; first | refine zJ ?_ | refine zK ?_ | refine zL ?_ | refine zM ?_ | refine zN ?_ | refine zO ?_ | refine zP ?_ | refine zQ ?_ | refine zR ?_) | refine zS ?_)
      refine OpsW.str H p0 rfl rfl rfl rfl rfl rfl (by show 0 < 5; decide) fun w H => ?_
      repeat' (first | (refine zA ?_; first | refine zB ?_ | refine zC H ?_ | refine zD H ?_ | refine zE H fun _ _ H => ?_ | refine zF H fun _ _ H => ?_ | refine zG H fun _ H => ?_ | refine zH H fun _ H => ?_) | (refine zI ?_; first | refine zJ ?_ | refine zK ?_ | refine zL ?_ | refine zM ?_ | refine zN ?_ | refine zO ?_ | refine zP ?_ | refine zQ ?_ | refine zR ?_) | refine zS ?_)
      rw [show IntKind.wrap .i64 a = a from wrap64_id (by omega) (by omega)]
      repeat' (first | (refine zA ?_; first | refine zB ?_ | refine zC H ?_ | refine zD H ?_ | refine zE H fun _ _ H => ?_ | refine zF H fun _ _ H => ?_ | refine zG H fun _ H => ?_ | refine zH H fun _ H => ?_) | (refine zI ?_; first | refine zJ ?_ | refine zK ?_ | refine zL ?_ | refine zM ?_ | refine zN ?_ | refine zO ?_ | refine zP ?_ | refine zQ ?_ | refine zR ?_) | refine zS ?_)
      refine OpsW.str H p0 rfl rfl rfl rfl rfl rfl (by show 1 < 5; decide) fun w H => ?_
      replace H : Sat z w (blk bw 204 (wayL ⟨id, a, ro'⟩ 0 (.slice sa ns.length sc)) :: blk bk 43 (K.l ⟨3, id, ver, rt, dt⟩) :: vec 3 sa ns.length sc 1 (ns.map (.int .i64)) :: blk b6 204 (wayL Plc.z 0 (.slice none 0 0)) :: syP bx s :: As) := H
      repeat' (first | (refine zA ?_; first | refine zB ?_ | refine zC H ?_ | refine zD H ?_ | refine zE H fun _ _ H => ?_ | refine zF H fun _ _ H => ?_ | refine zG H fun _ H => ?_ | refine zH H fun _ H => ?_) | (refine zI ?_; first | refine zJ ?_ | refine zK ?_ | refine zL ?_ | refine zM ?_ | refine zN ?_ | refine zO ?_ | refine zP ?_ | refine zQ ?_ | refine zR ?_) | refine zS ?_)
      refine OpsW.strF (vs := wayL ⟨id, a, ro'⟩ 0 (.slice sa ns.length sc)) H p3 rfl rfl rfl rfl rfl rfl (Nat.le_refl 5) fun w H => ?_
      rw [splice_full (by rfl)] at H
      repeat' (first | (refine zA ?_; first | refine zB ?_ | refine zC H ?_ | refine zD H ?_ | refine zE H fun _ _ H => ?_ | refine zF H fun _ _ H => ?_ | refine zG H fun _ H => ?_ | refine zH H fun _ H => ?_) | (refine zI ?_; first | refine zJ ?_ | refine zK ?_ | refine zL ?_ | refine zM ?_ | refine zN ?_ | refine zO ?_ | refine zP ?_ | refine zQ ?_ | refine zR ?_) | refine zS ?_)
      rw [← hw]
      exact ret1c (resA H p0 rfl rfl (way_all _ _ _ _ _)) ⟨_, _, _, rfl, H.drop.drop.drop.drop⟩
end
end Go.Proofs.YtnfefbhjdncccaaDoor.X
