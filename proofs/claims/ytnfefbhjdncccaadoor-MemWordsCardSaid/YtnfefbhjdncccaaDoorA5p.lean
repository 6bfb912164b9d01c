/- More contracts of chapter 5 (page): a copy, the same words; conditions: none. -/
import Derived.Test.YtnfefbhjdncccaaDoorA5
import Derived.Test.YtnfefbhjdncccaaDoorSM
--AUTODROP
namespace Go.Proofs.YtnfefbhjdncccaaDoor.X
open Go Go.Proofs
set_option linter.unusedSimpArgs false
set_option linter.unusedVariables false
theorem pgs_scal {N : Nat} {pg : Nat → Nat → Int} : (pgs N pg).all scal = true := by
  rw [List.all_eq_true]; intro x hx
  obtain ⟨p, _, hp⟩ := List.mem_flatMap.1 hx
  obtain ⟨y, _, rfl⟩ := List.mem_map.1 hp; rfl
theorem slr_pgs {As : List HP} {b : Nat} {E : TypeId} {N j : Nat} {pg : Nat → Nat → Int} (hj : j < N) (rest : List Value) : SlR (blk b E (pgs N pg ++ rest) :: As) (.slice (some ⟨b, 0 + j * 32, none⟩) 32 32) 1 32 (wds (pg j)) := by
  refine ⟨wds_len _, _, _, rfl, Nat.le_refl _, .inr ⟨b, 0 + j * 32, _, E, _, rfl, Has.head, fun i hi => ?_⟩⟩
  have := pgs_get (pg := pg) (i := i) hj (by omega)
  rw [List.getElem?_toArray, List.getElem?_append_left (by rw [pgs_len]; omega), ← Nat.mul_one i, this, Nat.mul_one, wds_get (by omega)]
theorem slr_pgsA {As : List HP} {b : Nat} {E : TypeId} {N cap : Nat} {pg : Nat → Nat → Int} (rest : List Value) (hc : N ≤ cap) : SlR (blk b E (pgs N pg ++ rest) :: As) (.slice (some ⟨b, 0, none⟩) N cap) 32 N (pgs N pg) :=
  SlR.of_blk pgs_len hc
attribute [local irreducible] CW OpsW RetW Spec blk snap DrawP AnyW AnyM AnyN bits IntKind.wrap vec arena wds pgs
section
variable {z w : World} {Rs As : List HP} {bp ba b N cap : Nat} {f : Nat → Pl} {pg : Nat → Nat → Int} {rest : List Value}
theorem page_wordsR (H : Sat z w (blk bp 133 [.pointer (some ⟨ba, 0, none⟩), .slice (some ⟨b, 0, none⟩) N cap] :: arena ba (mk N f) :: blk b 106 (pgs N pg ++ rest) :: Rs)) (hN : N ≤ 256) (k : Nat) (hk : k < N) (hon : (f k).there = true) :
    Spec cf 45 #[.pointer (some ⟨bp, 0, none⟩), .int .i64 k] w fun e w' => ∃ a cap2, e = .slice a 32 cap2 ∧ Sat z w' (vec 23 a 32 cap2 1 (wds (pg k)) :: blk bp 133 [.pointer (some ⟨ba, 0, none⟩), .slice (some ⟨b, 0, none⟩) N cap] :: arena ba (mk N f) :: blk b 106 (pgs N pg ++ rest) :: Rs) := by
  refine enter (l := [.pointer (some ⟨bp, 0, none⟩), .int .i64 k]) Tryd.func45 rfl rfl rfl rfl rfl ?_
  have htk : takeK 32 ((pgs N pg ++ rest).drop (0 + k * 32)) some = some (wds (pg k)) := by
    rw [takeK_run 32 _ _ (by rw [List.length_drop, List.length_append, pgs_len]; omega)]
    rw [List.drop_append_of_le_length (by rw [pgs_len]; omega), List.take_append_of_le_length (by rw [List.length_drop, pgs_len]; omega), pgs_take hk]
  repeat' (first | (refine OpsW.go ?_; first | refine OpsW.st rfl ?_ | refine OpsW.ld H (by (first | exact p0 | exact p1 | exact p2 | exact p3 | exact p4 | exact p5 | exact p6 | exact p7)) rfl rfl rfl rfl (by rfl) rfl ?_ | refine OpsW.ldA H (by (first | exact p0 | exact p1 | exact p2 | exact p3 | exact p4 | exact p5 | exact p6 | exact p7)) rfl rfl rfl (by rfl) rfl ?_ | refine OpsW.box H rfl rfl rfl fun _ _ H => ?_ | refine OpsW.alloc H rfl rfl rfl rfl fun _ _ H => ?_ | refine OpsW.str H (by (first | exact p0 | exact p1 | exact p2 | exact p3 | exact p4 | exact p5 | exact p6 | exact p7)) rfl rfl rfl rfl rfl rfl (by first | decide | (simp; done) | (simp; omega)) fun _ H => ?_ | refine OpsW.strA H (by (first | exact p0 | exact p1 | exact p2 | exact p3 | exact p4 | exact p5 | exact p6 | exact p7)) rfl rfl rfl rfl rfl rfl (by first | decide | (simp; done) | (simp; omega)) fun _ H => ?_) | (refine CW.go ?_; first | refine CW.condT rfl ?_ | refine CW.condF rfl ?_ | refine CW.seqR ?_ | refine CW.seqD ?_ | refine CW.block ?_ | refine CW.region ?_ | refine CW.ret ?_ | refine CW.exit ?_ | refine CW.skip ?_) | refine OpsW.nil ?_)
  refine OpsW.call rfl rfl rfl (arenaN_there_at (H.perm (pS p0)) hN k hk true hon) ?_
  rintro _ w ⟨rfl, H⟩
  replace H := H.perm (pS p0)
  repeat' (first | (refine OpsW.go ?_; first | refine OpsW.st rfl ?_ | refine OpsW.ld H (by (first | exact p0 | exact p1 | exact p2 | exact p3 | exact p4 | exact p5 | exact p6 | exact p7)) rfl rfl rfl rfl (by rfl) rfl ?_ | refine OpsW.ldA H (by (first | exact p0 | exact p1 | exact p2 | exact p3 | exact p4 | exact p5 | exact p6 | exact p7)) rfl rfl rfl (by rfl) rfl ?_ | refine OpsW.box H rfl rfl rfl fun _ _ H => ?_ | refine OpsW.alloc H rfl rfl rfl rfl fun _ _ H => ?_ | refine OpsW.str H (by (first | exact p0 | exact p1 | exact p2 | exact p3 | exact p4 | exact p5 | exact p6 | exact p7)) rfl rfl rfl rfl rfl rfl (by first | decide | (simp; done) | (simp; omega)) fun _ H => ?_ | refine OpsW.strA H (by (first | exact p0 | exact p1 | exact p2 | exact p3 | exact p4 | exact p5 | exact p6 | exact p7)) rfl rfl rfl rfl rfl rfl (by first | decide | (simp; done) | (simp; omega)) fun _ H => ?_) | (refine CW.go ?_; first | refine CW.condT rfl ?_ | refine CW.condF rfl ?_ | refine CW.seqR ?_ | refine CW.seqD ?_ | refine CW.block ?_ | refine CW.region ?_ | refine CW.ret ?_ | refine CW.exit ?_ | refine CW.skip ?_) | refine OpsW.nil ?_)
  refine OpsW.ix (n := k) rfl rfl rfl rfl rfl rfl rfl hk rfl ?_
  refine OpsW.ldA H (pS (pS p0)) rfl rfl rfl htk rfl ?_
  repeat' (first | (refine OpsW.go ?_; first | refine OpsW.st rfl ?_ | refine OpsW.ld H (by (first | exact p0 | exact p1 | exact p2 | exact p3 | exact p4 | exact p5 | exact p6 | exact p7)) rfl rfl rfl rfl (by rfl) rfl ?_ | refine OpsW.ldA H (by (first | exact p0 | exact p1 | exact p2 | exact p3 | exact p4 | exact p5 | exact p6 | exact p7)) rfl rfl rfl (by rfl) rfl ?_ | refine OpsW.box H rfl rfl rfl fun _ _ H => ?_ | refine OpsW.alloc H rfl rfl rfl rfl fun _ _ H => ?_ | refine OpsW.str H (by (first | exact p0 | exact p1 | exact p2 | exact p3 | exact p4 | exact p5 | exact p6 | exact p7)) rfl rfl rfl rfl rfl rfl (by first | decide | (simp; done) | (simp; omega)) fun _ H => ?_ | refine OpsW.strA H (by (first | exact p0 | exact p1 | exact p2 | exact p3 | exact p4 | exact p5 | exact p6 | exact p7)) rfl rfl rfl rfl rfl rfl (by first | decide | (simp; done) | (simp; omega)) fun _ H => ?_) | (refine CW.go ?_; first | refine CW.condT rfl ?_ | refine CW.condF rfl ?_ | refine CW.seqR ?_ | refine CW.seqD ?_ | refine CW.block ?_ | refine CW.region ?_ | refine CW.ret ?_ | refine CW.exit ?_ | refine CW.skip ?_) | refine OpsW.nil ?_)
  rw [wds0] at *
  refine OpsW.strA (vs := wds (pg k)) H p0 rfl rfl (forceL_eq _ _) (wds_scal _) rfl (wds_len _) (by rw [wds_len, wds_len]; decide) fun w H => ?_
  rw [wds_over] at H
  repeat' (first | (refine OpsW.go ?_; first | refine OpsW.st rfl ?_ | refine OpsW.ld H (by (first | exact p0 | exact p1 | exact p2 | exact p3 | exact p4 | exact p5 | exact p6 | exact p7)) rfl rfl rfl rfl (by rfl) rfl ?_ | refine OpsW.ldA H (by (first | exact p0 | exact p1 | exact p2 | exact p3 | exact p4 | exact p5 | exact p6 | exact p7)) rfl rfl rfl (by rfl) rfl ?_ | refine OpsW.box H rfl rfl rfl fun _ _ H => ?_ | refine OpsW.alloc H rfl rfl rfl rfl fun _ _ H => ?_ | refine OpsW.str H (by (first | exact p0 | exact p1 | exact p2 | exact p3 | exact p4 | exact p5 | exact p6 | exact p7)) rfl rfl rfl rfl rfl rfl (by first | decide | (simp; done) | (simp; omega)) fun _ H => ?_ | refine OpsW.strA H (by (first | exact p0 | exact p1 | exact p2 | exact p3 | exact p4 | exact p5 | exact p6 | exact p7)) rfl rfl rfl rfl rfl rfl (by first | decide | (simp; done) | (simp; omega)) fun _ H => ?_) | (refine CW.go ?_; first | refine CW.condT rfl ?_ | refine CW.condF rfl ?_ | refine CW.seqR ?_ | refine CW.seqD ?_ | refine CW.block ?_ | refine CW.region ?_ | refine CW.ret ?_ | refine CW.exit ?_ | refine CW.skip ?_) | refine OpsW.nil ?_)
  refine OpsW.slcA rfl rfl rfl rfl rfl rfl ?_
  repeat' (first | (refine OpsW.go ?_; first | refine OpsW.st rfl ?_ | refine OpsW.ld H (by (first | exact p0 | exact p1 | exact p2 | exact p3 | exact p4 | exact p5 | exact p6 | exact p7)) rfl rfl rfl rfl (by rfl) rfl ?_ | refine OpsW.ldA H (by (first | exact p0 | exact p1 | exact p2 | exact p3 | exact p4 | exact p5 | exact p6 | exact p7)) rfl rfl rfl (by rfl) rfl ?_ | refine OpsW.box H rfl rfl rfl fun _ _ H => ?_ | refine OpsW.alloc H rfl rfl rfl rfl fun _ _ H => ?_ | refine OpsW.str H (by (first | exact p0 | exact p1 | exact p2 | exact p3 | exact p4 | exact p5 | exact p6 | exact p7)) rfl rfl rfl rfl rfl rfl (by first | decide | (simp; done) | (simp; omega)) fun _ H => ?_ | refine OpsW.strA H (by (first | exact p0 | exact p1 | exact p2 | exact p3 | exact p4 | exact p5 | exact p6 | exact p7)) rfl rfl rfl rfl rfl rfl (by first | decide | (simp; done) | (simp; omega)) fun _ H => ?_) | (refine CW.go ?_; first | refine CW.condT rfl ?_ | refine CW.condF rfl ?_ | refine CW.seqR ?_ | refine CW.seqD ?_ | refine CW.block ?_ | refine CW.region ?_ | refine CW.ret ?_ | refine CW.exit ?_ | refine CW.skip ?_) | refine OpsW.nil ?_)
  refine OpsW.call rfl rfl rfl (cloneWds_ H (slr_wds _)) ?_
  rintro _ w ⟨a2, cap2, rfl, H⟩
  repeat' (first | (refine OpsW.go ?_; first | refine OpsW.st rfl ?_ | refine OpsW.ld H (by (first | exact p0 | exact p1 | exact p2 | exact p3 | exact p4 | exact p5 | exact p6 | exact p7)) rfl rfl rfl rfl (by rfl) rfl ?_ | refine OpsW.ldA H (by (first | exact p0 | exact p1 | exact p2 | exact p3 | exact p4 | exact p5 | exact p6 | exact p7)) rfl rfl rfl (by rfl) rfl ?_ | refine OpsW.box H rfl rfl rfl fun _ _ H => ?_ | refine OpsW.alloc H rfl rfl rfl rfl fun _ _ H => ?_ | refine OpsW.str H (by (first | exact p0 | exact p1 | exact p2 | exact p3 | exact p4 | exact p5 | exact p6 | exact p7)) rfl rfl rfl rfl rfl rfl (by first | decide | (simp; done) | (simp; omega)) fun _ H => ?_ | refine OpsW.strA H (by (first | exact p0 | exact p1 | exact p2 | exact p3 | exact p4 | exact p5 | exact p6 | exact p7)) rfl rfl rfl rfl rfl rfl (by first | decide | (simp; done) | (simp; omega)) fun _ H => ?_) | (refine CW.go ?_; first | refine CW.condT rfl ?_ | refine CW.condF rfl ?_ | refine CW.seqR ?_ | refine CW.seqD ?_ | refine CW.block ?_ | refine CW.region ?_ | refine CW.ret ?_ | refine CW.exit ?_ | refine CW.skip ?_) | refine OpsW.nil ?_)
  exact ret1 rfl ⟨a2, cap2, rfl, (H.perm (pS p0)).drop⟩
theorem page_words_noR (H : Sat z w (blk bp 133 [.pointer (some ⟨ba, 0, none⟩), .slice (some ⟨b, 0, none⟩) N cap] :: arena ba (mk N f) :: blk b 106 (pgs N pg ++ rest) :: Rs)) (hN : N ≤ 256) (id : Int) (hno : onN N f id = false) :
    Spec cf 45 #[.pointer (some ⟨bp, 0, none⟩), .int .i64 id] w fun e w' => e = .slice none 0 0 ∧ Sat z w' (blk bp 133 [.pointer (some ⟨ba, 0, none⟩), .slice (some ⟨b, 0, none⟩) N cap] :: arena ba (mk N f) :: blk b 106 (pgs N pg ++ rest) :: Rs) := by
  refine enter (l := [.pointer (some ⟨bp, 0, none⟩), .int .i64 id]) Tryd.func45 rfl rfl rfl rfl rfl ?_
  repeat' (first | (refine OpsW.go ?_; first | refine OpsW.st rfl ?_ | refine OpsW.ld H (by (first | exact p0 | exact p1 | exact p2 | exact p3 | exact p4 | exact p5 | exact p6 | exact p7)) rfl rfl rfl rfl (by rfl) rfl ?_ | refine OpsW.ldA H (by (first | exact p0 | exact p1 | exact p2 | exact p3 | exact p4 | exact p5 | exact p6 | exact p7)) rfl rfl rfl (by rfl) rfl ?_ | refine OpsW.box H rfl rfl rfl fun _ _ H => ?_ | refine OpsW.alloc H rfl rfl rfl rfl fun _ _ H => ?_ | refine OpsW.str H (by (first | exact p0 | exact p1 | exact p2 | exact p3 | exact p4 | exact p5 | exact p6 | exact p7)) rfl rfl rfl rfl rfl rfl (by first | decide | (simp; done) | (simp; omega)) fun _ H => ?_ | refine OpsW.strA H (by (first | exact p0 | exact p1 | exact p2 | exact p3 | exact p4 | exact p5 | exact p6 | exact p7)) rfl rfl rfl rfl rfl rfl (by first | decide | (simp; done) | (simp; omega)) fun _ H => ?_) | (refine CW.go ?_; first | refine CW.condT rfl ?_ | refine CW.condF rfl ?_ | refine CW.seqR ?_ | refine CW.seqD ?_ | refine CW.block ?_ | refine CW.region ?_ | refine CW.ret ?_ | refine CW.exit ?_ | refine CW.skip ?_) | refine OpsW.nil ?_)
  refine OpsW.call rfl rfl rfl (arenaN_there (H.perm (pS p0)) hN id) ?_
  rintro _ w ⟨rfl, H⟩
  rw [hno]
  replace H := H.perm (pS p0)
  repeat' (first | (refine OpsW.go ?_; first | refine OpsW.st rfl ?_ | refine OpsW.ld H (by (first | exact p0 | exact p1 | exact p2 | exact p3 | exact p4 | exact p5 | exact p6 | exact p7)) rfl rfl rfl rfl (by rfl) rfl ?_ | refine OpsW.ldA H (by (first | exact p0 | exact p1 | exact p2 | exact p3 | exact p4 | exact p5 | exact p6 | exact p7)) rfl rfl rfl (by rfl) rfl ?_ | refine OpsW.box H rfl rfl rfl fun _ _ H => ?_ | refine OpsW.alloc H rfl rfl rfl rfl fun _ _ H => ?_ | refine OpsW.str H (by (first | exact p0 | exact p1 | exact p2 | exact p3 | exact p4 | exact p5 | exact p6 | exact p7)) rfl rfl rfl rfl rfl rfl (by first | decide | (simp; done) | (simp; omega)) fun _ H => ?_ | refine OpsW.strA H (by (first | exact p0 | exact p1 | exact p2 | exact p3 | exact p4 | exact p5 | exact p6 | exact p7)) rfl rfl rfl rfl rfl rfl (by first | decide | (simp; done) | (simp; omega)) fun _ H => ?_) | (refine CW.go ?_; first | refine CW.condT rfl ?_ | refine CW.condF rfl ?_ | refine CW.seqR ?_ | refine CW.seqD ?_ | refine CW.block ?_ | refine CW.region ?_ | refine CW.ret ?_ | refine CW.exit ?_ | refine CW.skip ?_) | refine OpsW.nil ?_)
  exact ret1 rfl ⟨rfl, H⟩
/-- The words of a page, none if it is not there. -/
def wl (N : Nat) (f : Nat → Pl) (pg : Nat → Nat → Int) (id : Int) : List Int := if onN N f id then mk 32 (pg id.toNat) else []
theorem wl_len (N : Nat) (f : Nat → Pl) (pg : Nat → Nat → Int) (id : Int) : (wl N f pg id).length ≤ 32 := by
  unfold wl; split
  · rw [mk_length]; exact Nat.le_refl _
  · simp
theorem page_words_any (H : Sat z w (blk bp 133 [.pointer (some ⟨ba, 0, none⟩), .slice (some ⟨b, 0, none⟩) N cap] :: arena ba (mk N f) :: blk b 106 (pgs N pg ++ rest) :: Rs)) (hN : N ≤ 256) (id : Int) :
    Spec cf 45 #[.pointer (some ⟨bp, 0, none⟩), .int .i64 id] w fun e w' => ∃ a cap2, e = .slice a (wl N f pg id).length cap2 ∧ Sat z w' (vec 23 a (wl N f pg id).length cap2 1 ((wl N f pg id).map (.int .u32)) :: blk bp 133 [.pointer (some ⟨ba, 0, none⟩), .slice (some ⟨b, 0, none⟩) N cap] :: arena ba (mk N f) :: blk b 106 (pgs N pg ++ rest) :: Rs) := by
  cases e : onN N f id
  · rw [show wl N f pg id = [] by rw [wl, e]; rfl]
    refine (page_words_noR H hN id e).mono ?_
    rintro _ w ⟨rfl, H⟩
    exact ⟨none, 0, rfl, Sat.vnil H⟩
  · obtain ⟨k, rfl, hk, hon⟩ := onN_at e
    rw [show wl N f pg k = mk 32 (pg k) by rw [wl, e]; rfl]
    refine (page_wordsR H hN k hk hon).mono ?_
    rintro _ w ⟨a, cap2, rfl, H⟩
    have e1 : (mk 32 (pg k)).map (Value.int .u32) = wds (pg k) := by unfold wds; rfl
    refine ⟨a, cap2, by rw [mk_length], ?_⟩
    rw [mk_length, e1]; exact H
theorem page_words_all (H : Sat z w (blk bp 133 [.pointer (some ⟨ba, 0, none⟩), .slice (some ⟨b, 0, none⟩) N N] :: arena ba (mk N f) :: blk b 106 (pgs N pg) :: Rs)) (hN : N ≤ 256) (id : Int) :
    Spec cf 45 #[.pointer (some ⟨bp, 0, none⟩), .int .i64 id] w fun e w' => ∃ a cap2, e = .slice a (wl N f pg id).length cap2 ∧ Sat z w' (vec 23 a (wl N f pg id).length cap2 1 ((wl N f pg id).map (.int .u32)) :: blk bp 133 [.pointer (some ⟨ba, 0, none⟩), .slice (some ⟨b, 0, none⟩) N N] :: arena ba (mk N f) :: blk b 106 (pgs N pg) :: Rs) := by
  have := page_words_any (cap := N) (rest := []) (Rs := Rs) (by rw [List.append_nil]; exact H) hN id
  rw [List.append_nil] at this
  exact this
end
end Go.Proofs.YtnfefbhjdncccaaDoor.X
