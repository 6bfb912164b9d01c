/- The law MemSets of chapter 11, walked; conditions: none. -/
import Derived.Test.YtnfefbhjdncccaaDoorL11
import Derived.Test.YtnfefbhjdncccaaDoorR2
import Derived.Test.YtnfefbhjdncccaaDoorA8e
namespace Go.Proofs.YtnfefbhjdncccaaDoor.X
open Go Go.Proofs
set_option linter.unusedSimpArgs false
set_option linter.unusedVariables false
def kN : K := ⟨2, 0, 0, 0, 1⟩
theorem mc3 {z w : World} {Rs : List HP} {bm bs bc : Nat} {size hits : Int} {s : St} {hb : Nat} {ws : List Wy} {S1 S2 S3 : HP} (e : good s ws ∧ (ws.length : Int) ≤ size ∧ 0 ≤ hits ∧ hits ≤ hb) (H : Sat z w (S1 :: S2 :: S3 :: blk bm 34 [.pointer (some ⟨bs, 0, none⟩), .int .i64 size, .pointer (some ⟨bc, 0, none⟩)] :: cacheP bc size ws hits :: Rs)) : Sat z w (S1 :: S2 :: S3 :: mcP bm bs size s hb :: Rs) :=
  (mc_close e (H.perm ((List.perm_append_comm (l₁ := [S1, S2, S3]) (l₂ := [_, _])).append_right Rs))).perm p3.symm
def qQ (i : Nat) : K := ⟨3, i, 0, 0, 0⟩
def sQp : Nat → St
  | 0 => St.new 1 8
  | i + 1 => (sQp i).newP i [((100 + i : Nat) : Int)]
def sQ0 : St := (sQp 8).newN 0 []
/-- The keys of the node's first slots: pages, or none. -/
def nQm (hv : Nat → Int) (c : Nat) : K := if c < 4 ∧ 0 ≤ hv c then qQ (hv c).toNat else K.void
def sQ (hv : Nat → Int) : St := { sQ0 with nd := fun a => if a = 0 then nQm hv else sQ0.nd a }
def setH (hv : Nat → Int) (j : Nat) (p : Int) : Nat → Int := fun k => if k = j then p else hv k
theorem sQp_ok : ∀ i, (sQp i).ok
  | 0 => ok_new (by decide) (by decide) (by decide) (by decide)
  | i + 1 => (sQp_ok i).newP
theorem sQ0_ok : sQ0.ok := (sQp_ok 8).newN
theorem sQ_ok (hv : Nat → Int) : (sQ hv).ok := ⟨sQ0_ok.n0, sQ0_ok.n1, sQ0_ok.m0, sQ0_ok.m1⟩
theorem nQm_d (hv : Nat → Int) (c : Nat) : 0 ≤ (nQm hv c).data := by
  unfold nQm; split <;> exact Int.le_refl 0
theorem sQp_d : ∀ i a c, 0 ≤ ((sQp i).nd a c).data
  | 0, _, _ => Int.le_refl 0
  | i + 1, a, c => sQp_d i a c
theorem sQ0_nd (a c : Nat) : sQ0.nd a c = if a = 0 then K.void else (sQp 8).nd a c := by
  show (if a = 0 then (fun i => ([] : List K).getD i K.void) else (sQp 8).nd a) c = _
  split <;> rfl
theorem sQ_d (hv : Nat → Int) (a c : Nat) : 0 ≤ ((sQ hv).nd a c).data := by
  show 0 ≤ ((if a = 0 then nQm hv else sQ0.nd a) c).data
  split
  · exact nQm_d hv c
  · rw [sQ0_nd]
    split
    · exact Int.le_refl 0
    · exact sQp_d 8 a c
theorem sQ_start : sQ0 = sQ fun _ => -1 := by
  have : sQ0.nd = fun a => if a = 0 then nQm (fun _ => -1) else sQ0.nd a := by
    funext a c
    split
    · rename_i h
      rw [sQ0_nd, if_pos h, nQm, if_neg (by omega)]
    · rfl
  show sQ0 = { sQ0 with nd := fun a => if a = 0 then nQm (fun _ => -1) else sQ0.nd a }
  rw [← this]
theorem sQp_fst : ∀ i : Nat, i < 8 → fst_ (sQp i).M (sQp i).g = some i := by decide +kernel
theorem sQ_fstN : fst_ (sQp 8).N (sQp 8).f = some 0 := by kernel_rfl
theorem sQ_nk (hv : Nat → Int) : (sQ hv).nodeKey 0 1 = kN := by
  have : sQ0.nodeKey 0 1 = kN := by kernel_rfl
  exact this
theorem sQ_pk0 : ∀ p : Nat, p < 8 → (sQ0.pageKey p).same (qQ p) = true := by decide +kernel
theorem sQ_pk (hv : Nat → Int) (p : Nat) (h : p < 8) : (sQ hv).pageKey p = qQ p := (K.same_iff _ _).1 (sQ_pk0 p h)
theorem qQ_ec : ∀ p : Nat, p < 8 → (qQ p).ec = 0 := by decide +kernel
theorem sQ_on (hv : Nat → Int) : onN (sQ hv).N (sQ hv).f 0 = true := by
  have : onN sQ0.N sQ0.f 0 = true := by kernel_rfl
  exact this
theorem sQ_liveN (hv : Nat → Int) : (sQ hv).live kN = true := by
  have : sQ0.live kN = true := by kernel_rfl
  exact this
theorem sQ_liveP0 : ∀ p : Nat, p < 8 → sQ0.live (qQ p) = true := by decide +kernel
theorem sQ_put (hv : Nat → Int) (j p : Nat) (hj : j < 4) : (sQ hv).put 0 j (qQ p) = sQ (setH hv j p) := by
  have : (fun a' => if a' = 0 then (fun c' => if c' = j then qQ p else (sQ hv).nd 0 c') else (sQ hv).nd a') = fun a => if a = 0 then nQm (setH hv j p) else sQ0.nd a := by
    funext a c
    by_cases ha : a = 0
    · rw [if_pos ha, if_pos ha]
      show (if c = j then qQ p else nQm hv c) = nQm (setH hv j p) c
      unfold nQm setH
      by_cases hc : c = j
      · rw [if_pos hc, if_pos hc, if_pos ⟨by omega, by omega⟩]
        show qQ p = qQ ((p : Int)).toNat
        rfl
      · rw [if_neg hc, if_neg hc]
    · rw [if_neg ha, if_neg ha]
      show (if a = 0 then nQm hv else sQ0.nd a) c = _
      rw [if_neg ha]
  show ({ sQ hv with nd := fun a' => if a' = 0 then (fun c' => if c' = j then qQ p else (sQ hv).nd 0 c') else (sQ hv).nd a' } : St) = { sQ0 with nd := fun a => if a = 0 then nQm (setH hv j p) else sQ0.nd a }
  rw [this]; rfl
theorem sQ_setE (hv : Nat → Int) (j p : Nat) (hj : j < 4) (hp : p < 8) : (sQ hv).setE 0 j (qQ p) = 0 ∧ (sQ hv).setN 0 j (qQ p) = sQ (setH hv j p) := by
  have e : (sQ hv).setE 0 j (qQ p) = 0 := by
    rw [St.setE, if_neg (by rw [sQ_on]; simp), if_neg (by omega), qQ_ec p hp]
  exact ⟨e, by rw [St.setN, if_pos e]; exact sQ_put hv j p hj⟩
theorem sQ_key (hv : Nat → Int) (j : Nat) (hj : j < 4) : (sQ hv).key 0 j = if 0 ≤ hv j then qQ (hv j).toNat else K.void := by
  rw [St.key, if_pos (by rw [St.hasN, sQ_on, Bool.true_and, Bool.and_eq_true]; exact ⟨decide_eq_true (by omega), decide_eq_true (by omega)⟩)]
  show nQm hv j = _
  unfold nQm
  by_cases h : 0 ≤ hv j
  · rw [if_pos ⟨hj, h⟩, if_pos h]
  · rw [if_neg (fun e => h e.2), if_neg h]
theorem sQ_walk (hv : Nat → Int) (j : Nat) (hj : j < 4) (hb : hv j < 8) : (sQ hv).walk kN (32 * (j : Int)) = if 0 ≤ hv j then (⟨hv j, 0, false⟩, 0, [0]) else (Plc.z, 2, [0]) := by
  have b0 : bits .and .i64 0 5 = 0 := by decide +kernel
  have hd : (32 * (j : Int)) / psz ((1 : Int) - 1) = j := by show (32 * (j : Int)) / 32 = j; omega
  have hm : (32 * (j : Int)) % psz ((1 : Int) - 1) = 0 := by show (32 * (j : Int)) % 32 = 0; omega
  rw [St.walk, St.wk, if_neg (by rw [sQ_liveN]; decide), show (kN : K).hgt = 1 from rfl, if_neg (by decide), show psz 1 = 512 from rfl, if_neg (by omega), if_neg (by decide), hd, hm]
  show (sQ hv).wk 5 1 ((sQ hv).key 0 (j : Int)) 0 (false || bits .and .i64 0 5 != 0) ([] ++ [0]) = _
  rw [sQ_key hv j hj]
  by_cases h : 0 ≤ hv j
  · rw [if_pos h, if_pos h]
    have hl : (sQ hv).live (qQ (hv j).toNat) = true := sQ_liveP0 (hv j).toNat (by omega)
    rw [St.wk, if_neg (by rw [hl, show (qQ (hv j).toNat).mem = true from rfl]; decide), show (qQ (hv j).toNat).hgt = 0 from rfl, if_neg (by decide), show psz 0 = 32 from rfl, if_neg (by decide), if_pos (show (qQ (hv j).toNat).kind = 3 from rfl)]
    show ((⟨(((hv j).toNat : Nat) : Int), 0, false || bits .and .i64 0 5 != 0 || bits .and .i64 0 5 != 0⟩ : Plc), (0 : Nat), ([] ++ [0] : List Int)) = _
    rw [b0, show (((hv j).toNat : Nat) : Int) = hv j by omega]; rfl
  · rw [if_neg h, if_neg h, St.wk, if_pos (.inl rfl)]; rfl
theorem sQ_word0 : ∀ p : Nat, p < 8 → sQ0.word p 0 = 100 + p := by decide +kernel
theorem sQ_load (hv : Nat → Int) (j : Nat) (hj : j < 4) (hb : hv j < 8) : (sQ hv).load kN (32 * (j : Int)) = if 0 ≤ hv j then (100 + hv j, 0) else (0, 2) := by
  unfold St.load
  rw [sQ_walk hv j hj hb]
  by_cases h : 0 ≤ hv j
  · rw [if_pos h, if_pos h]
    show (if (0 : Nat) ≠ 0 then _ else ((sQ hv).word (hv j) 0, 0)) = _
    rw [if_neg (by decide)]
    have := sQ_word0 (hv j).toNat (by omega)
    rw [show (((hv j).toNat : Nat) : Int) = hv j by omega] at this
    show (sQ0.word (hv j) 0, 0) = _
    rw [this]
  · rw [if_neg h, if_neg h]
    exact if_pos (by decide)
theorem sQ_may (hv : Nat → Int) : (sQ hv).may kN 2 true = 0 := by
  have : sQ0.may kN 2 true = 0 := by decide +kernel
  exact this
theorem sQ_swap (hv : Nat → Int) (j p : Nat) (hj : j < 4) (hp : p < 8) : (sQ hv).swap kN j (qQ p) = (if 0 ≤ hv j then qQ (hv j).toNat else K.void, 0) ∧ (sQ hv).swapS kN j (qQ p) = sQ (setH hv j p) := by
  have hh : (sQ hv).hasN kN.id j = true := by
    rw [show kN.id = 0 from rfl, St.hasN, sQ_on, Bool.true_and, Bool.and_eq_true]; exact ⟨decide_eq_true (by omega), decide_eq_true (by omega)⟩
  have e : (sQ hv).swap kN j (qQ p) = (if 0 ≤ hv j then qQ (hv j).toNat else K.void, 0) := by
    unfold St.swap
    rw [if_neg (by rw [sQ_may]; decide), if_neg (by rw [hh]; decide), if_neg (by rw [qQ_ec p hp]; decide), ← sQ_key hv j hj]; rfl
  refine ⟨e, ?_⟩
  unfold St.swapS; rw [e, if_pos rfl]
  exact sQ_put hv j p hj
def hl4 (h : Nat → Int) : List Value := [.int .i64 (h 0), .int .i64 (h 1), .int .i64 (h 2), .int .i64 (h 3)]
def hlA (h : Nat → Int) (j : Nat) (x : Int) : List Value := [.int .i64 (if 0 = j then x else h 0), .int .i64 (if 1 = j then x else h 1), .int .i64 (if 2 = j then x else h 2), .int .i64 (if 3 = j then x else h 3)]
theorem hl4_at {h : Nat → Int} {j : Nat} {x : Int} (e : h j = x) : hl4 h = hlA h j x := by
  unfold hl4 hlA
  subst e
  congr 1 <;> (try congr 1) <;> (try split) <;> simp_all
theorem mcE {z w : World} {Rs : List HP} {bm bs bc : Nat} {size hits : Int} {s : St} {hb : Nat} {ws : List Wy} {A B S1 S2 S3 : HP} (e : good s ws ∧ (ws.length : Int) ≤ size ∧ 0 ≤ hits ∧ hits ≤ hb) (H : Sat z w (A :: B :: S1 :: S2 :: S3 :: blk bm 34 [.pointer (some ⟨bs, 0, none⟩), .int .i64 size, .pointer (some ⟨bc, 0, none⟩)] :: cacheP bc size ws hits :: Rs)) : Sat z w (S1 :: S2 :: S3 :: mcP bm bs size s hb :: B :: A :: Rs) := by
  have h : Sat z w (mcP bm bs size s hb :: A :: B :: S1 :: S2 :: S3 :: Rs) := mc_close e (H.perm ((List.perm_append_comm (l₁ := [A, B, S1, S2, S3]) (l₂ := [_, _])).append_right Rs))
  exact h.perm (by repeat' (first | (with_reducible exact List.Perm.refl _) | (with_reducible refine List.Perm.trans p0 (List.Perm.cons _ ?_)) | (with_reducible refine List.Perm.trans p1 (List.Perm.cons _ ?_)) | (with_reducible refine List.Perm.trans p2 (List.Perm.cons _ ?_)) | (with_reducible refine List.Perm.trans p3 (List.Perm.cons _ ?_)) | (with_reducible refine List.Perm.trans p4 (List.Perm.cons _ ?_)) | (with_reducible refine List.Perm.trans p5 (List.Perm.cons _ ?_)) | (with_reducible refine List.Perm.trans p6 (List.Perm.cons _ ?_)) | (with_reducible refine List.Perm.trans p7 (List.Perm.cons _ ?_)) | (with_reducible refine List.Perm.trans p8 (List.Perm.cons _ ?_)) | (with_reducible refine List.Perm.trans p9 (List.Perm.cons _ ?_)) | (with_reducible refine List.Perm.trans p10 (List.Perm.cons _ ?_)) | (with_reducible refine List.Perm.trans p11 (List.Perm.cons _ ?_))))
theorem E6_app {As : List HP} {ads : List Addr} : ∀ R : List HP, E6 As ads → E6 (R ++ As) ads
  | [], h => h
  | _ :: R, h => (E6_app R h).tail
theorem sQp_there : ∀ i : Nat, i < 8 → ((sQp i).g i).there = false := by decide +kernel
theorem sQp_thereN : ((sQp 8).f 0).there = false := by kernel_rfl
attribute [local irreducible] CW OpsW RetW Spec blk snap DrawP AnyW AnyM AnyN bits IntKind.wrap vec arena kds nds wds pgs eA nodesP pagesP cacheP wns St.walk St.put St.find mcP sQ sQ0 sQp St.load St.save St.saveS St.swap St.swapS St.setE St.setN
set_option maxHeartbeats 4000000 in
set_option maxRecDepth 20000 in
theorem memSets_ (W : World) (hEs : Errs W 237 [5, 1, 0, 3, 2, 6]) (v : Value) (l : List Int) (hl : l.length ≤ maxLen) (hw : ∀ n ∈ l, (Lit.int .i64 n).wf = true) (hv : SlR [snap W] v 1 l.length (l.map (.int .i64))) (swap : Bool) :
    Spec cf 6 #[v, .bool swap] W fun v w' => v = .bool true ∧ Sat W w' [snap W] := by
  have H := Sat.start W
  obtain ⟨ads, hE⟩ := errs6 hEs
  obtain ⟨a, cap, rfl⟩ := lenW hv
  refine enter (l := [.slice a l.length cap, .bool swap]) Tryd.func6 rfl rfl rfl rfl rfl ?_
  repeat' (first | (refine OpsW.go ?_; first | refine OpsW.st rfl ?_ | refine OpsW.ld H (by (first | exact p0 | exact p1 | exact p2 | exact p3 | exact p4 | exact p5 | exact p6 | exact p7)) rfl rfl rfl rfl (by rfl) rfl ?_ | refine OpsW.ldA H (by (first | exact p0 | exact p1 | exact p2 | exact p3 | exact p4 | exact p5 | exact p6 | exact p7)) rfl rfl rfl (by rfl) rfl ?_ | refine OpsW.box H rfl rfl rfl fun _ _ H => ?_ | refine OpsW.alloc H rfl rfl rfl rfl fun _ _ H => ?_ | refine OpsW.str H (by (first | exact p0 | exact p1 | exact p2 | exact p3 | exact p4 | exact p5 | exact p6 | exact p7)) rfl rfl rfl rfl rfl rfl (by first | decide | (simp; done) | (simp; omega)) fun _ H => ?_ | refine OpsW.strA H (by (first | exact p0 | exact p1 | exact p2 | exact p3 | exact p4 | exact p5 | exact p6 | exact p7)) rfl rfl rfl rfl rfl rfl (by first | decide | (simp; done) | (simp; omega)) fun _ H => ?_) | (refine CW.go ?_; first | refine CW.condT rfl ?_ | refine CW.condF rfl ?_ | refine CW.seqR ?_ | refine CW.seqDc ?_ | refine CW.seqDb ?_ | refine CW.seqDl ?_ | refine CW.seqDs ?_ | refine CW.seqDk ?_ | refine CW.block ?_ | refine CW.region ?_ | refine CW.ret ?_ | refine CW.exit ?_ | refine CW.skip ?_) | refine OpsW.nil ?_)
  refine OpsW.call rfl rfl rfl (first11_ H hE.en) ?_
  rintro _ w ⟨rfl, H⟩
  repeat' (first | (refine OpsW.go ?_; first | refine OpsW.st rfl ?_ | refine OpsW.ld H (by (first | exact p0 | exact p1 | exact p2 | exact p3 | exact p4 | exact p5 | exact p6 | exact p7)) rfl rfl rfl rfl (by rfl) rfl ?_ | refine OpsW.ldA H (by (first | exact p0 | exact p1 | exact p2 | exact p3 | exact p4 | exact p5 | exact p6 | exact p7)) rfl rfl rfl (by rfl) rfl ?_ | refine OpsW.box H rfl rfl rfl fun _ _ H => ?_ | refine OpsW.alloc H rfl rfl rfl rfl fun _ _ H => ?_ | refine OpsW.str H (by (first | exact p0 | exact p1 | exact p2 | exact p3 | exact p4 | exact p5 | exact p6 | exact p7)) rfl rfl rfl rfl rfl rfl (by first | decide | (simp; done) | (simp; omega)) fun _ H => ?_ | refine OpsW.strA H (by (first | exact p0 | exact p1 | exact p2 | exact p3 | exact p4 | exact p5 | exact p6 | exact p7)) rfl rfl rfl rfl rfl rfl (by first | decide | (simp; done) | (simp; omega)) fun _ H => ?_) | (refine CW.go ?_; first | refine CW.condT rfl ?_ | refine CW.condF rfl ?_ | refine CW.seqR ?_ | refine CW.seqDc ?_ | refine CW.seqDb ?_ | refine CW.seqDl ?_ | refine CW.seqDs ?_ | refine CW.seqDk ?_ | refine CW.block ?_ | refine CW.region ?_ | refine CW.ret ?_ | refine CW.exit ?_ | refine CW.skip ?_) | refine OpsW.nil ?_)
  refine OpsW.gs rfl rfl rfl (fun h => ?_) (fun h => ?_)
  · repeat' (first | (refine OpsW.go ?_; first | refine OpsW.st rfl ?_ | refine OpsW.ld H (by (first | exact p0 | exact p1 | exact p2 | exact p3 | exact p4 | exact p5 | exact p6 | exact p7)) rfl rfl rfl rfl (by rfl) rfl ?_ | refine OpsW.ldA H (by (first | exact p0 | exact p1 | exact p2 | exact p3 | exact p4 | exact p5 | exact p6 | exact p7)) rfl rfl rfl (by rfl) rfl ?_ | refine OpsW.box H rfl rfl rfl fun _ _ H => ?_ | refine OpsW.alloc H rfl rfl rfl rfl fun _ _ H => ?_ | refine OpsW.str H (by (first | exact p0 | exact p1 | exact p2 | exact p3 | exact p4 | exact p5 | exact p6 | exact p7)) rfl rfl rfl rfl rfl rfl (by first | decide | (simp; done) | (simp; omega)) fun _ H => ?_ | refine OpsW.strA H (by (first | exact p0 | exact p1 | exact p2 | exact p3 | exact p4 | exact p5 | exact p6 | exact p7)) rfl rfl rfl rfl rfl rfl (by first | decide | (simp; done) | (simp; omega)) fun _ H => ?_) | (refine CW.go ?_; first | refine CW.condT rfl ?_ | refine CW.condF rfl ?_ | refine CW.seqR ?_ | refine CW.seqDc ?_ | refine CW.seqDb ?_ | refine CW.seqDl ?_ | refine CW.seqDs ?_ | refine CW.seqDk ?_ | refine CW.block ?_ | refine CW.region ?_ | refine CW.ret ?_ | refine CW.exit ?_ | refine CW.skip ?_) | refine OpsW.nil ?_)
    exact ret1 rfl ⟨rfl, by (first | exact H | exact H.drop | exact H.d2 | exact H.d3 | exact H.d4 | exact H.d5 | exact H.d6 | exact H.d7)⟩
  have hl30 : l.length ≤ 30 := by have := of_decide_eq_false h; omega
  repeat' (first | (refine OpsW.go ?_; first | refine OpsW.st rfl ?_ | refine OpsW.ld H (by (first | exact p0 | exact p1 | exact p2 | exact p3 | exact p4 | exact p5 | exact p6 | exact p7)) rfl rfl rfl rfl (by rfl) rfl ?_ | refine OpsW.ldA H (by (first | exact p0 | exact p1 | exact p2 | exact p3 | exact p4 | exact p5 | exact p6 | exact p7)) rfl rfl rfl (by rfl) rfl ?_ | refine OpsW.box H rfl rfl rfl fun _ _ H => ?_ | refine OpsW.alloc H rfl rfl rfl rfl fun _ _ H => ?_ | refine OpsW.str H (by (first | exact p0 | exact p1 | exact p2 | exact p3 | exact p4 | exact p5 | exact p6 | exact p7)) rfl rfl rfl rfl rfl rfl (by first | decide | (simp; done) | (simp; omega)) fun _ H => ?_ | refine OpsW.strA H (by (first | exact p0 | exact p1 | exact p2 | exact p3 | exact p4 | exact p5 | exact p6 | exact p7)) rfl rfl rfl rfl rfl rfl (by first | decide | (simp; done) | (simp; omega)) fun _ H => ?_) | (refine CW.go ?_; first | refine CW.condT rfl ?_ | refine CW.condF rfl ?_ | refine CW.seqR ?_ | refine CW.seqDc ?_ | refine CW.seqDb ?_ | refine CW.seqDl ?_ | refine CW.seqDs ?_ | refine CW.seqDk ?_ | refine CW.block ?_ | refine CW.region ?_ | refine CW.ret ?_ | refine CW.exit ?_ | refine CW.skip ?_) | refine OpsW.nil ?_)
  refine OpsW.call rfl rfl rfl (mem_new H 1 8 (by decide) (by decide) (by decide) (by decide) 3 (by decide) (by decide)) ?_
  rintro _ w ⟨bm, bs, bn, bp, rfl, H⟩
  obtain ⟨bc, ws, hits, hg, H2⟩ := mc_open (H.perm p3)
  replace H := H2.perm r2
  clear H2
  rw [show St.new 1 8 = sQp 0 by with_unfolding_all rfl] at H hg
  repeat' (first | (refine OpsW.go ?_; first | refine OpsW.st rfl ?_ | refine OpsW.ld H (by (first | exact p0 | exact p1 | exact p2 | exact p3 | exact p4 | exact p5 | exact p6 | exact p7)) rfl rfl rfl rfl (by rfl) rfl ?_ | refine OpsW.ldA H (by (first | exact p0 | exact p1 | exact p2 | exact p3 | exact p4 | exact p5 | exact p6 | exact p7)) rfl rfl rfl (by rfl) rfl ?_ | refine OpsW.box H rfl rfl rfl fun _ _ H => ?_ | refine OpsW.alloc H rfl rfl rfl rfl fun _ _ H => ?_ | refine OpsW.str H (by (first | exact p0 | exact p1 | exact p2 | exact p3 | exact p4 | exact p5 | exact p6 | exact p7)) rfl rfl rfl rfl rfl rfl (by first | decide | (simp; done) | (simp; omega)) fun _ H => ?_ | refine OpsW.strA H (by (first | exact p0 | exact p1 | exact p2 | exact p3 | exact p4 | exact p5 | exact p6 | exact p7)) rfl rfl rfl rfl rfl rfl (by first | decide | (simp; done) | (simp; omega)) fun _ H => ?_) | (refine CW.go ?_; first | refine CW.condT rfl ?_ | refine CW.condF rfl ?_ | refine CW.seqR ?_ | refine CW.seqDc ?_ | refine CW.seqDb ?_ | refine CW.seqDl ?_ | refine CW.seqDs ?_ | refine CW.seqDk ?_ | refine CW.block ?_ | refine CW.region ?_ | refine CW.ret ?_ | refine CW.exit ?_ | refine CW.skip ?_) | refine OpsW.nil ?_)
  refine CW.loopF (X := Nat) (fun j => Nat.beq j 8 || Nat.ble 38 j) (fun i => [(8, .int .i64 (i : Int))]) (fun i w => (i ≤ 8 ∧ good (sQp i) ws) ∧ Sat W w (blk bs 38 [.pointer (some ⟨bn, 0, none⟩), .pointer (some ⟨bp, 0, none⟩)] :: nodesP bn (sQp i) :: pagesP bp (sQp i) :: blk bm 34 [.pointer (some ⟨bs, 0, none⟩), .int .i64 3, .pointer (some ⟨bc, 0, none⟩)] :: cacheP bc 3 ws hits :: [snap W])) (fun i => 8 - i) 0 ⟨rfl, trivial⟩ ⟨⟨Nat.zero_le _, hg.1⟩, H⟩ ?_
  clear H
  rintro i τ w ⟨⟨hi, hgi⟩, H⟩
  repeat' (first | (refine OpsW.go ?_; first | refine OpsW.st rfl ?_ | refine OpsW.ld H (by (first | exact p0 | exact p1 | exact p2 | exact p3 | exact p4 | exact p5 | exact p6 | exact p7)) rfl rfl rfl rfl (by rfl) rfl ?_ | refine OpsW.ldA H (by (first | exact p0 | exact p1 | exact p2 | exact p3 | exact p4 | exact p5 | exact p6 | exact p7)) rfl rfl rfl (by rfl) rfl ?_ | refine OpsW.box H rfl rfl rfl fun _ _ H => ?_ | refine OpsW.alloc H rfl rfl rfl rfl fun _ _ H => ?_ | refine OpsW.str H (by (first | exact p0 | exact p1 | exact p2 | exact p3 | exact p4 | exact p5 | exact p6 | exact p7)) rfl rfl rfl rfl rfl rfl (by first | decide | (simp; done) | (simp; omega)) fun _ H => ?_ | refine OpsW.strA H (by (first | exact p0 | exact p1 | exact p2 | exact p3 | exact p4 | exact p5 | exact p6 | exact p7)) rfl rfl rfl rfl rfl rfl (by first | decide | (simp; done) | (simp; omega)) fun _ H => ?_) | (refine CW.go ?_; first | refine CW.condT rfl ?_ | refine CW.condF rfl ?_ | refine CW.seqR ?_ | refine CW.seqD ?_ | refine CW.block ?_ | refine CW.region ?_ | refine CW.ret ?_ | refine CW.exit ?_ | refine CW.skip ?_) | refine OpsW.nil ?_)
  refine CW.cond rfl (fun h => ?_) (fun h => ?_)
  · have hi8 : i < 8 := by have := of_decide_eq_true h; omega
    repeat' (first | (refine OpsW.go ?_; first | refine OpsW.st rfl ?_ | refine OpsW.ld H (by (first | exact p0 | exact p1 | exact p2 | exact p3 | exact p4 | exact p5 | exact p6 | exact p7)) rfl rfl rfl rfl (by rfl) rfl ?_ | refine OpsW.ldA H (by (first | exact p0 | exact p1 | exact p2 | exact p3 | exact p4 | exact p5 | exact p6 | exact p7)) rfl rfl rfl (by rfl) rfl ?_ | refine OpsW.box H rfl rfl rfl fun _ _ H => ?_ | refine OpsW.alloc H rfl rfl rfl rfl fun _ _ H => ?_ | refine OpsW.str H (by (first | exact p0 | exact p1 | exact p2 | exact p3 | exact p4 | exact p5 | exact p6 | exact p7)) rfl rfl rfl rfl rfl rfl (by first | decide | (simp; done) | (simp; omega)) fun _ H => ?_ | refine OpsW.strA H (by (first | exact p0 | exact p1 | exact p2 | exact p3 | exact p4 | exact p5 | exact p6 | exact p7)) rfl rfl rfl rfl rfl rfl (by first | decide | (simp; done) | (simp; omega)) fun _ H => ?_) | (refine CW.go ?_; first | refine CW.condT rfl ?_ | refine CW.condF rfl ?_ | refine CW.seqR ?_ | refine CW.seqDc ?_ | refine CW.seqDb ?_ | refine CW.seqDl ?_ | refine CW.seqDs ?_ | refine CW.seqDk ?_ | refine CW.block ?_ | refine CW.region ?_ | refine CW.ret ?_ | refine CW.exit ?_ | refine CW.skip ?_) | refine OpsW.nil ?_)
    rw [show IntKind.wrap .u32 (IntKind.wrap .i64 (100 + (i : Int))) = ((100 + i : Nat) : Int) by rw [wrap64_id (n := 100 + (i : Int)) (by omega) (by omega), wrapu32]; omega]
    refine OpsW.bsl H rfl rfl rfl rfl rfl rfl rfl rfl fun b2 w H => ?_
    repeat' (first | (refine OpsW.go ?_; first | refine OpsW.st rfl ?_ | refine OpsW.ld H (by (first | exact p0 | exact p1 | exact p2 | exact p3 | exact p4 | exact p5 | exact p6 | exact p7)) rfl rfl rfl rfl (by rfl) rfl ?_ | refine OpsW.ldA H (by (first | exact p0 | exact p1 | exact p2 | exact p3 | exact p4 | exact p5 | exact p6 | exact p7)) rfl rfl rfl (by rfl) rfl ?_ | refine OpsW.box H rfl rfl rfl fun _ _ H => ?_ | refine OpsW.alloc H rfl rfl rfl rfl fun _ _ H => ?_ | refine OpsW.str H (by (first | exact p0 | exact p1 | exact p2 | exact p3 | exact p4 | exact p5 | exact p6 | exact p7)) rfl rfl rfl rfl rfl rfl (by first | decide | (simp; done) | (simp; omega)) fun _ H => ?_ | refine OpsW.strA H (by (first | exact p0 | exact p1 | exact p2 | exact p3 | exact p4 | exact p5 | exact p6 | exact p7)) rfl rfl rfl rfl rfl rfl (by first | decide | (simp; done) | (simp; omega)) fun _ H => ?_) | (refine CW.go ?_; first | refine CW.condT rfl ?_ | refine CW.condF rfl ?_ | refine CW.seqR ?_ | refine CW.seqDc ?_ | refine CW.seqDb ?_ | refine CW.seqDl ?_ | refine CW.seqDs ?_ | refine CW.seqDk ?_ | refine CW.block ?_ | refine CW.region ?_ | refine CW.ret ?_ | refine CW.exit ?_ | refine CW.skip ?_) | refine OpsW.nil ?_)
    refine OpsW.call rfl rfl rfl (st_pageMake (H.perm r1) (sQp_ok i) hE.en.tail.tail.tail _ [((100 + i : Nat) : Int)] (by show 1 ≤ 32; decide) (SlR.of_blk (r := []) rfl (Nat.le_refl 1)) i (sQp_fst i hi8)) ?_
    rw [show (sQp i).newP i [((100 + i : Nat) : Int)] = sQp (i + 1) by with_unfolding_all rfl]
    rintro _ w ⟨rfl, H⟩
    have hgj : good (sQp (i + 1)) ws := by
      have := good_newP (q := i) (l := [((100 + i : Nat) : Int)]) hgi (sQp_there i hi8)
      rw [show (sQp i).newP i [((100 + i : Nat) : Int)] = sQp (i + 1) by with_unfolding_all rfl] at this; exact this
    repeat' (first | (refine OpsW.go ?_; first | refine OpsW.st rfl ?_ | refine OpsW.ld H (by (first | exact p0 | exact p1 | exact p2 | exact p3 | exact p4 | exact p5 | exact p6 | exact p7)) rfl rfl rfl rfl (by rfl) rfl ?_ | refine OpsW.ldA H (by (first | exact p0 | exact p1 | exact p2 | exact p3 | exact p4 | exact p5 | exact p6 | exact p7)) rfl rfl rfl (by rfl) rfl ?_ | refine OpsW.box H rfl rfl rfl fun _ _ H => ?_ | refine OpsW.alloc H rfl rfl rfl rfl fun _ _ H => ?_ | refine OpsW.str H (by (first | exact p0 | exact p1 | exact p2 | exact p3 | exact p4 | exact p5 | exact p6 | exact p7)) rfl rfl rfl rfl rfl rfl (by first | decide | (simp; done) | (simp; omega)) fun _ H => ?_ | refine OpsW.strA H (by (first | exact p0 | exact p1 | exact p2 | exact p3 | exact p4 | exact p5 | exact p6 | exact p7)) rfl rfl rfl rfl rfl rfl (by first | decide | (simp; done) | (simp; omega)) fun _ H => ?_) | (refine CW.go ?_; first | refine CW.condT rfl ?_ | refine CW.condF rfl ?_ | refine CW.seqR ?_ | refine CW.seqD ?_ | refine CW.block ?_ | refine CW.region ?_ | refine CW.ret ?_ | refine CW.exit ?_ | refine CW.skip ?_) | refine OpsW.nil ?_)
    exact ⟨i + 1, (by (repeat (first | (with_reducible exact Agree.refl _ _) | (with_reducible refine Agree.trim (by assumption) ?_) | refine Agree.upd ?_ rfl | exact Agree.mix' | refine Agree.mixL ?_ (fun j h => by simp only [Bool.or_eq_true, Bool.and_eq_true, Nat.beq_eq, Nat.ble_eq] at h ⊢; omega) rfl))), ⟨nat_succ (n := 8) hi8 (by omega), trivial⟩, ⟨⟨hi8, hgj⟩, (H.perm p3).drop⟩, by omega⟩
  have : i = 8 := by have := of_decide_eq_false h; omega
  subst this
  repeat' (first | (refine OpsW.go ?_; first | refine OpsW.st rfl ?_ | refine OpsW.ld H (by (first | exact p0 | exact p1 | exact p2 | exact p3 | exact p4 | exact p5 | exact p6 | exact p7)) rfl rfl rfl rfl (by rfl) rfl ?_ | refine OpsW.ldA H (by (first | exact p0 | exact p1 | exact p2 | exact p3 | exact p4 | exact p5 | exact p6 | exact p7)) rfl rfl rfl (by rfl) rfl ?_ | refine OpsW.box H rfl rfl rfl fun _ _ H => ?_ | refine OpsW.alloc H rfl rfl rfl rfl fun _ _ H => ?_ | refine OpsW.str H (by (first | exact p0 | exact p1 | exact p2 | exact p3 | exact p4 | exact p5 | exact p6 | exact p7)) rfl rfl rfl rfl rfl rfl (by first | decide | (simp; done) | (simp; omega)) fun _ H => ?_ | refine OpsW.strA H (by (first | exact p0 | exact p1 | exact p2 | exact p3 | exact p4 | exact p5 | exact p6 | exact p7)) rfl rfl rfl rfl rfl rfl (by first | decide | (simp; done) | (simp; omega)) fun _ H => ?_) | (refine CW.go ?_; first | refine CW.condT rfl ?_ | refine CW.condF rfl ?_ | refine CW.seqR ?_ | refine CW.seqDc ?_ | refine CW.seqDb ?_ | refine CW.seqDl ?_ | refine CW.seqDs ?_ | refine CW.seqDk ?_ | refine CW.block ?_ | refine CW.region ?_ | refine CW.ret ?_ | refine CW.exit ?_ | refine CW.skip ?_) | refine OpsW.nil ?_)
  refine OpsW.call rfl rfl rfl (st_nodeMake H (sQp_ok 8) hE.en.tail.tail _ [] (by decide) (by decide) SlR.nil_ 0 sQ_fstN) ?_
  rw [show (sQp 8).newN 0 [] = sQ0 by with_unfolding_all rfl, sQ_start]
  rintro _ w ⟨rfl, H⟩
  have hgq : good (sQ fun _ => -1) ws := by
    have := good_newN (q := 0) (l := []) hgi sQp_thereN
    rw [show (sQp 8).newN 0 [] = sQ0 by with_unfolding_all rfl, sQ_start] at this; exact this
  repeat' (first | (refine OpsW.go ?_; first | refine OpsW.st rfl ?_ | refine OpsW.ld H (by (first | exact p0 | exact p1 | exact p2 | exact p3 | exact p4 | exact p5 | exact p6 | exact p7)) rfl rfl rfl rfl (by rfl) rfl ?_ | refine OpsW.ldA H (by (first | exact p0 | exact p1 | exact p2 | exact p3 | exact p4 | exact p5 | exact p6 | exact p7)) rfl rfl rfl (by rfl) rfl ?_ | refine OpsW.box H rfl rfl rfl fun _ _ H => ?_ | refine OpsW.alloc H rfl rfl rfl rfl fun _ _ H => ?_ | refine OpsW.str H (by (first | exact p0 | exact p1 | exact p2 | exact p3 | exact p4 | exact p5 | exact p6 | exact p7)) rfl rfl rfl rfl rfl rfl (by first | decide | (simp; done) | (simp; omega)) fun _ H => ?_ | refine OpsW.strA H (by (first | exact p0 | exact p1 | exact p2 | exact p3 | exact p4 | exact p5 | exact p6 | exact p7)) rfl rfl rfl rfl rfl rfl (by first | decide | (simp; done) | (simp; omega)) fun _ H => ?_) | (refine CW.go ?_; first | refine CW.condT rfl ?_ | refine CW.condF rfl ?_ | refine CW.seqR ?_ | refine CW.seqDc ?_ | refine CW.seqDb ?_ | refine CW.seqDl ?_ | refine CW.seqDs ?_ | refine CW.seqDk ?_ | refine CW.block ?_ | refine CW.region ?_ | refine CW.ret ?_ | refine CW.exit ?_ | refine CW.skip ?_) | refine OpsW.nil ?_)
  refine OpsW.call rfl rfl rfl (store_nodeKey H (sQ_ok _) 0 1) ?_
  rw [sQ_nk]
  rintro _ w ⟨rfl, H⟩
  repeat' (first | (refine OpsW.go ?_; first | refine OpsW.st rfl ?_ | refine OpsW.ld H (by (first | exact p0 | exact p1 | exact p2 | exact p3 | exact p4 | exact p5 | exact p6 | exact p7)) rfl rfl rfl rfl (by rfl) rfl ?_ | refine OpsW.ldA H (by (first | exact p0 | exact p1 | exact p2 | exact p3 | exact p4 | exact p5 | exact p6 | exact p7)) rfl rfl rfl (by rfl) rfl ?_ | refine OpsW.box H rfl rfl rfl fun _ _ H => ?_ | refine OpsW.alloc H rfl rfl rfl rfl fun _ _ H => ?_ | refine OpsW.str H (by (first | exact p0 | exact p1 | exact p2 | exact p3 | exact p4 | exact p5 | exact p6 | exact p7)) rfl rfl rfl rfl rfl rfl (by first | decide | (simp; done) | (simp; omega)) fun _ H => ?_ | refine OpsW.strA H (by (first | exact p0 | exact p1 | exact p2 | exact p3 | exact p4 | exact p5 | exact p6 | exact p7)) rfl rfl rfl rfl rfl rfl (by first | decide | (simp; done) | (simp; omega)) fun _ H => ?_) | (refine CW.go ?_; first | refine CW.condT rfl ?_ | refine CW.condF rfl ?_ | refine CW.seqR ?_ | refine CW.seqDc ?_ | refine CW.seqDb ?_ | refine CW.seqDl ?_ | refine CW.seqDs ?_ | refine CW.seqDk ?_ | refine CW.block ?_ | refine CW.region ?_ | refine CW.ret ?_ | refine CW.exit ?_ | refine CW.skip ?_) | refine OpsW.nil ?_)
  refine OpsW.bsl H rfl rfl rfl rfl rfl rfl rfl rfl fun bh w H => ?_
  rename_i bk _ _ _ _
  replace H : Sat W w (blk bh 3 (hl4 fun _ => -1) :: blk bk 43 kN.l :: blk bs 38 [.pointer (some ⟨bn, 0, none⟩), .pointer (some ⟨bp, 0, none⟩)] :: nodesP bn (sQ fun _ => -1) :: pagesP bp (sQ fun _ => -1) :: blk bm 34 [.pointer (some ⟨bs, 0, none⟩), .int .i64 3, .pointer (some ⟨bc, 0, none⟩)] :: cacheP bc 3 ws hits :: [snap W]) := H
  repeat' (first | (refine OpsW.go ?_; first | refine OpsW.st rfl ?_ | refine OpsW.ld H (by (first | exact p0 | exact p1 | exact p2 | exact p3 | exact p4 | exact p5 | exact p6 | exact p7)) rfl rfl rfl rfl (by rfl) rfl ?_ | refine OpsW.ldA H (by (first | exact p0 | exact p1 | exact p2 | exact p3 | exact p4 | exact p5 | exact p6 | exact p7)) rfl rfl rfl (by rfl) rfl ?_ | refine OpsW.box H rfl rfl rfl fun _ _ H => ?_ | refine OpsW.alloc H rfl rfl rfl rfl fun _ _ H => ?_ | refine OpsW.str H (by (first | exact p0 | exact p1 | exact p2 | exact p3 | exact p4 | exact p5 | exact p6 | exact p7)) rfl rfl rfl rfl rfl rfl (by first | decide | (simp; done) | (simp; omega)) fun _ H => ?_ | refine OpsW.strA H (by (first | exact p0 | exact p1 | exact p2 | exact p3 | exact p4 | exact p5 | exact p6 | exact p7)) rfl rfl rfl rfl rfl rfl (by first | decide | (simp; done) | (simp; omega)) fun _ H => ?_) | (refine CW.go ?_; first | refine CW.condT rfl ?_ | refine CW.condF rfl ?_ | refine CW.seqR ?_ | refine CW.seqDc ?_ | refine CW.seqDb ?_ | refine CW.seqDl ?_ | refine CW.seqDs ?_ | refine CW.seqDk ?_ | refine CW.block ?_ | refine CW.region ?_ | refine CW.ret ?_ | refine CW.exit ?_ | refine CW.skip ?_) | refine OpsW.nil ?_)
  refine CW.loopF (X := Nat × (Nat → Int)) (fun j => Nat.ble 11 j) (fun x => [(11, .int .i64 (x.1 : Int))]) (fun x w => (x.1 ≤ l.length ∧ ∀ j, -1 ≤ x.2 j ∧ x.2 j < 8) ∧ Sat W w (blk bs 38 [.pointer (some ⟨bn, 0, none⟩), .pointer (some ⟨bp, 0, none⟩)] :: nodesP bn (sQ x.2) :: pagesP bp (sQ x.2) :: mcP bm bs 3 (sQ x.2) (4 * x.1) :: blk bk 43 kN.l :: blk bh 3 (hl4 x.2) :: [snap W])) (fun x => l.length - x.1) (0, fun _ => -1) ⟨rfl, trivial⟩ ⟨⟨Nat.zero_le _, fun _ => ⟨Int.le_refl (-1), by show (-1 : Int) < 8; decide⟩⟩, mcE ⟨hgq, hg.2⟩ H⟩ ?_
  clear H hgq hg hgi
  rintro ⟨i, hv'⟩ τ w ⟨⟨hi, hh⟩, H⟩
  dsimp only at hi hh H
  repeat' (first | (refine OpsW.go ?_; first | refine OpsW.st rfl ?_ | refine OpsW.ld H (by (first | exact p0 | exact p1 | exact p2 | exact p3 | exact p4 | exact p5 | exact p6 | exact p7)) rfl rfl rfl rfl (by rfl) rfl ?_ | refine OpsW.ldA H (by (first | exact p0 | exact p1 | exact p2 | exact p3 | exact p4 | exact p5 | exact p6 | exact p7)) rfl rfl rfl (by rfl) rfl ?_ | refine OpsW.box H rfl rfl rfl fun _ _ H => ?_ | refine OpsW.alloc H rfl rfl rfl rfl fun _ _ H => ?_ | refine OpsW.str H (by (first | exact p0 | exact p1 | exact p2 | exact p3 | exact p4 | exact p5 | exact p6 | exact p7)) rfl rfl rfl rfl rfl rfl (by first | decide | (simp; done) | (simp; omega)) fun _ H => ?_ | refine OpsW.strA H (by (first | exact p0 | exact p1 | exact p2 | exact p3 | exact p4 | exact p5 | exact p6 | exact p7)) rfl rfl rfl rfl rfl rfl (by first | decide | (simp; done) | (simp; omega)) fun _ H => ?_) | (refine CW.go ?_; first | refine CW.condT rfl ?_ | refine CW.condF rfl ?_ | refine CW.seqR ?_ | refine CW.seqD ?_ | refine CW.block ?_ | refine CW.region ?_ | refine CW.ret ?_ | refine CW.exit ?_ | refine CW.skip ?_) | refine OpsW.nil ?_)
  refine CW.cond rfl (fun h => ?_) (fun h => ?_)
  · have hil : i < l.length := by have := of_decide_eq_true h; have h4 : (i : Int) < l.length := this; omega
    have hx : (l.map (Value.int .i64))[i]? = some (.int .i64 l[i]) := by simp [hil]
    have hxw := hw l[i] (List.getElem_mem hil)
    repeat' (first | (refine OpsW.go ?_; first | refine OpsW.st rfl ?_ | refine OpsW.ld H (by (first | exact p0 | exact p1 | exact p2 | exact p3 | exact p4 | exact p5 | exact p6 | exact p7)) rfl rfl rfl rfl (by rfl) rfl ?_ | refine OpsW.ldA H (by (first | exact p0 | exact p1 | exact p2 | exact p3 | exact p4 | exact p5 | exact p6 | exact p7)) rfl rfl rfl (by rfl) rfl ?_ | refine OpsW.box H rfl rfl rfl fun _ _ H => ?_ | refine OpsW.alloc H rfl rfl rfl rfl fun _ _ H => ?_ | refine OpsW.str H (by (first | exact p0 | exact p1 | exact p2 | exact p3 | exact p4 | exact p5 | exact p6 | exact p7)) rfl rfl rfl rfl rfl rfl (by first | decide | (simp; done) | (simp; omega)) fun _ H => ?_ | refine OpsW.strA H (by (first | exact p0 | exact p1 | exact p2 | exact p3 | exact p4 | exact p5 | exact p6 | exact p7)) rfl rfl rfl rfl rfl rfl (by first | decide | (simp; done) | (simp; omega)) fun _ H => ?_) | (refine CW.go ?_; first | refine CW.condT rfl ?_ | refine CW.condF rfl ?_ | refine CW.seqR ?_ | refine CW.seqD ?_ | refine CW.block ?_ | refine CW.region ?_ | refine CW.ret ?_ | refine CW.exit ?_ | refine CW.skip ?_) | refine OpsW.nil ?_)
    refine OpsW.ixld H hv.tail.tail.tail.tail.tail.tail rfl (fun _ => rfl) rfl rfl rfl rfl rfl rfl rfl rfl hil hx rfl rfl fun p => ?_
    repeat' (first | (refine OpsW.go ?_; first | refine OpsW.st rfl ?_ | refine OpsW.ld H (by (first | exact p0 | exact p1 | exact p2 | exact p3 | exact p4 | exact p5 | exact p6 | exact p7)) rfl rfl rfl rfl (by rfl) rfl ?_ | refine OpsW.ldA H (by (first | exact p0 | exact p1 | exact p2 | exact p3 | exact p4 | exact p5 | exact p6 | exact p7)) rfl rfl rfl (by rfl) rfl ?_ | refine OpsW.box H rfl rfl rfl fun _ _ H => ?_ | refine OpsW.alloc H rfl rfl rfl rfl fun _ _ H => ?_ | refine OpsW.str H (by (first | exact p0 | exact p1 | exact p2 | exact p3 | exact p4 | exact p5 | exact p6 | exact p7)) rfl rfl rfl rfl rfl rfl (by first | decide | (simp; done) | (simp; omega)) fun _ H => ?_ | refine OpsW.strA H (by (first | exact p0 | exact p1 | exact p2 | exact p3 | exact p4 | exact p5 | exact p6 | exact p7)) rfl rfl rfl rfl rfl rfl (by first | decide | (simp; done) | (simp; omega)) fun _ H => ?_) | (refine CW.go ?_; first | refine CW.condT rfl ?_ | refine CW.condF rfl ?_ | refine CW.seqR ?_ | refine CW.seqDc ?_ | refine CW.seqDb ?_ | refine CW.seqDl ?_ | refine CW.seqDs ?_ | refine CW.seqDk ?_ | refine CW.block ?_ | refine CW.region ?_ | refine CW.ret ?_ | refine CW.exit ?_ | refine CW.skip ?_) | refine OpsW.nil ?_)
    refine OpsW.call rfl rfl rfl (number_ _ _ _ H l[i] 4 (by decide) (by decide)) ?_
    rintro _ w ⟨rfl, H⟩
    repeat' (first | (refine OpsW.go ?_; first | refine OpsW.st rfl ?_ | refine OpsW.ld H (by (first | exact p0 | exact p1 | exact p2 | exact p3 | exact p4 | exact p5 | exact p6 | exact p7)) rfl rfl rfl rfl (by rfl) rfl ?_ | refine OpsW.ldA H (by (first | exact p0 | exact p1 | exact p2 | exact p3 | exact p4 | exact p5 | exact p6 | exact p7)) rfl rfl rfl (by rfl) rfl ?_ | refine OpsW.box H rfl rfl rfl fun _ _ H => ?_ | refine OpsW.alloc H rfl rfl rfl rfl fun _ _ H => ?_ | refine OpsW.str H (by (first | exact p0 | exact p1 | exact p2 | exact p3 | exact p4 | exact p5 | exact p6 | exact p7)) rfl rfl rfl rfl rfl rfl (by first | decide | (simp; done) | (simp; omega)) fun _ H => ?_ | refine OpsW.strA H (by (first | exact p0 | exact p1 | exact p2 | exact p3 | exact p4 | exact p5 | exact p6 | exact p7)) rfl rfl rfl rfl rfl rfl (by first | decide | (simp; done) | (simp; omega)) fun _ H => ?_) | (refine CW.go ?_; first | refine CW.condT rfl ?_ | refine CW.condF rfl ?_ | refine CW.seqR ?_ | refine CW.seqDc ?_ | refine CW.seqDb ?_ | refine CW.seqDl ?_ | refine CW.seqDs ?_ | refine CW.seqDk ?_ | refine CW.block ?_ | refine CW.region ?_ | refine CW.ret ?_ | refine CW.exit ?_ | refine CW.skip ?_) | refine OpsW.nil ?_)
    refine OpsW.ixld H hv.tail.tail.tail.tail.tail.tail rfl (fun _ => rfl) rfl rfl rfl rfl rfl rfl rfl rfl hil hx rfl rfl fun p2 => ?_
    repeat' (first | (refine OpsW.go ?_; first | refine OpsW.st rfl ?_ | refine OpsW.ld H (by (first | exact p0 | exact p1 | exact p2 | exact p3 | exact p4 | exact p5 | exact p6 | exact p7)) rfl rfl rfl rfl (by rfl) rfl ?_ | refine OpsW.ldA H (by (first | exact p0 | exact p1 | exact p2 | exact p3 | exact p4 | exact p5 | exact p6 | exact p7)) rfl rfl rfl (by rfl) rfl ?_ | refine OpsW.box H rfl rfl rfl fun _ _ H => ?_ | refine OpsW.alloc H rfl rfl rfl rfl fun _ _ H => ?_ | refine OpsW.str H (by (first | exact p0 | exact p1 | exact p2 | exact p3 | exact p4 | exact p5 | exact p6 | exact p7)) rfl rfl rfl rfl rfl rfl (by first | decide | (simp; done) | (simp; omega)) fun _ H => ?_ | refine OpsW.strA H (by (first | exact p0 | exact p1 | exact p2 | exact p3 | exact p4 | exact p5 | exact p6 | exact p7)) rfl rfl rfl rfl rfl rfl (by first | decide | (simp; done) | (simp; omega)) fun _ H => ?_) | (refine CW.go ?_; first | refine CW.condT rfl ?_ | refine CW.condF rfl ?_ | refine CW.seqR ?_ | refine CW.seqDc ?_ | refine CW.seqDb ?_ | refine CW.seqDl ?_ | refine CW.seqDs ?_ | refine CW.seqDk ?_ | refine CW.block ?_ | refine CW.region ?_ | refine CW.ret ?_ | refine CW.exit ?_ | refine CW.skip ?_) | refine OpsW.nil ?_)
    refine OpsW.call rfl rfl rfl (number_ _ _ _ H _ 8 (by decide) (by decide)) ?_
    rintro _ w ⟨rfl, H⟩
    obtain ⟨j, hj⟩ := Int.eq_ofNat_of_zero_le (Int.emod_nonneg l[i] (show (4 : Int) ≠ 0 by decide))
    have hj4 : j < 4 := by have := Int.emod_lt_of_pos l[i] (show (0 : Int) < 4 by decide); omega
    rw [hj]
    obtain ⟨p, hp⟩ := Int.eq_ofNat_of_zero_le (Int.emod_nonneg (IntKind.wrap .i64 (l[i].tdiv 4)) (show (8 : Int) ≠ 0 by decide))
    have hp8 : p < 8 := by have := Int.emod_lt_of_pos (IntKind.wrap .i64 (l[i].tdiv 4)) (show (0 : Int) < 8 by decide); omega
    rw [hp]
    obtain ⟨eS1, eS2⟩ := sQ_setE hv' j p hj4 hp8
    obtain ⟨eW1, eW2⟩ := sQ_swap hv' j p hj4 hp8
    have hpk : ∀ {w : World} {R : List HP}, Sat W w (blk bs 38 [.pointer (some ⟨bn, 0, none⟩), .pointer (some ⟨bp, 0, none⟩)] :: nodesP bn (sQ hv') :: pagesP bp (sQ hv') :: R) → Spec cf 20 #[.pointer (some ⟨bs, 0, none⟩), .int .i64 p] w fun e w' => e = (qQ p).v ∧ Sat W w' (blk bs 38 [.pointer (some ⟨bn, 0, none⟩), .pointer (some ⟨bp, 0, none⟩)] :: nodesP bn (sQ hv') :: pagesP bp (sQ hv') :: R) := fun {w R} H => by
      have := store_pageKey H (sQ_ok hv') p
      rw [sQ_pk hv' p hp8] at this; exact this
    repeat' (first | (refine OpsW.go ?_; first | refine OpsW.st rfl ?_ | refine OpsW.ld H (by (first | exact p0 | exact p1 | exact p2 | exact p3 | exact p4 | exact p5 | exact p6 | exact p7)) rfl rfl rfl rfl (by rfl) rfl ?_ | refine OpsW.ldA H (by (first | exact p0 | exact p1 | exact p2 | exact p3 | exact p4 | exact p5 | exact p6 | exact p7)) rfl rfl rfl (by rfl) rfl ?_ | refine OpsW.box H rfl rfl rfl fun _ _ H => ?_ | refine OpsW.alloc H rfl rfl rfl rfl fun _ _ H => ?_ | refine OpsW.str H (by (first | exact p0 | exact p1 | exact p2 | exact p3 | exact p4 | exact p5 | exact p6 | exact p7)) rfl rfl rfl rfl rfl rfl (by first | decide | (simp; done) | (simp; omega)) fun _ H => ?_ | refine OpsW.strA H (by (first | exact p0 | exact p1 | exact p2 | exact p3 | exact p4 | exact p5 | exact p6 | exact p7)) rfl rfl rfl rfl rfl rfl (by first | decide | (simp; done) | (simp; omega)) fun _ H => ?_) | (refine CW.go ?_; first | refine CW.condT rfl ?_ | refine CW.condF rfl ?_ | refine CW.seqR ?_ | refine CW.seqDb ?_ | refine CW.seqDl ?_ | refine CW.seqDk ?_ | refine CW.block ?_ | refine CW.region ?_ | refine CW.ret ?_ | refine CW.exit ?_ | refine CW.skip ?_) | refine OpsW.nil ?_)
    refine CW.join (X := Unit) (fun j => Nat.ble 14 j) (fun _ => []) (fun _ w => Sat W w (blk bs 38 [.pointer (some ⟨bn, 0, none⟩), .pointer (some ⟨bp, 0, none⟩)] :: nodesP bn (sQ (setH hv' j p)) :: pagesP bp (sQ (setH hv' j p)) :: mcP bm bs 3 (sQ (setH hv' j p)) (4 * i) :: blk bk 43 kN.l :: blk bh 3 (hl4 hv') :: [snap W])) ?_ ?_
    · cases swap
      · obtain ⟨bc, ws, hits, hg, H2⟩ := mc_open (H.perm p3)
        replace H := H2.perm r2
        clear H2
        repeat' (first | (refine OpsW.go ?_; first | refine OpsW.st rfl ?_ | refine OpsW.ld H (by (first | exact p0 | exact p1 | exact p2 | exact p3 | exact p4 | exact p5 | exact p6 | exact p7)) rfl rfl rfl rfl (by rfl) rfl ?_ | refine OpsW.ldA H (by (first | exact p0 | exact p1 | exact p2 | exact p3 | exact p4 | exact p5 | exact p6 | exact p7)) rfl rfl rfl (by rfl) rfl ?_ | refine OpsW.box H rfl rfl rfl fun _ _ H => ?_ | refine OpsW.alloc H rfl rfl rfl rfl fun _ _ H => ?_ | refine OpsW.str H (by (first | exact p0 | exact p1 | exact p2 | exact p3 | exact p4 | exact p5 | exact p6 | exact p7)) rfl rfl rfl rfl rfl rfl (by first | decide | (simp; done) | (simp; omega)) fun _ H => ?_ | refine OpsW.strA H (by (first | exact p0 | exact p1 | exact p2 | exact p3 | exact p4 | exact p5 | exact p6 | exact p7)) rfl rfl rfl rfl rfl rfl (by first | decide | (simp; done) | (simp; omega)) fun _ H => ?_) | (refine CW.go ?_; first | refine CW.condT rfl ?_ | refine CW.condF rfl ?_ | refine CW.seqR ?_ | refine CW.seqDc ?_ | refine CW.seqDb ?_ | refine CW.seqDl ?_ | refine CW.seqDs ?_ | refine CW.seqDk ?_ | refine CW.block ?_ | refine CW.region ?_ | refine CW.ret ?_ | refine CW.exit ?_ | refine CW.skip ?_) | refine OpsW.nil ?_)
        refine OpsW.call rfl rfl rfl (hpk H) ?_
        rintro _ w ⟨rfl, H⟩
        replace H := mc3 hg H
        repeat' (first | (refine OpsW.go ?_; first | refine OpsW.st rfl ?_ | refine OpsW.ld H (by (first | exact p0 | exact p1 | exact p2 | exact p3 | exact p4 | exact p5 | exact p6 | exact p7)) rfl rfl rfl rfl (by rfl) rfl ?_ | refine OpsW.ldA H (by (first | exact p0 | exact p1 | exact p2 | exact p3 | exact p4 | exact p5 | exact p6 | exact p7)) rfl rfl rfl (by rfl) rfl ?_ | refine OpsW.box H rfl rfl rfl fun _ _ H => ?_ | refine OpsW.alloc H rfl rfl rfl rfl fun _ _ H => ?_ | refine OpsW.str H (by (first | exact p0 | exact p1 | exact p2 | exact p3 | exact p4 | exact p5 | exact p6 | exact p7)) rfl rfl rfl rfl rfl rfl (by first | decide | (simp; done) | (simp; omega)) fun _ H => ?_ | refine OpsW.strA H (by (first | exact p0 | exact p1 | exact p2 | exact p3 | exact p4 | exact p5 | exact p6 | exact p7)) rfl rfl rfl rfl rfl rfl (by first | decide | (simp; done) | (simp; omega)) fun _ H => ?_) | (refine CW.go ?_; first | refine CW.condT rfl ?_ | refine CW.condF rfl ?_ | refine CW.seqR ?_ | refine CW.seqDc ?_ | refine CW.seqDb ?_ | refine CW.seqDl ?_ | refine CW.seqDs ?_ | refine CW.seqDk ?_ | refine CW.block ?_ | refine CW.region ?_ | refine CW.ret ?_ | refine CW.exit ?_ | refine CW.skip ?_) | refine OpsW.nil ?_)
        refine OpsW.call rfl rfl rfl (mem_set H (sQ_ok hv') hE.en.tail.tail 0 j (qQ p) (Int.le_refl 0) (by decide)) ?_
        rw [eS1, eS2, eA_0]
        rintro _ w ⟨rfl, H⟩
        repeat' (first | (refine OpsW.go ?_; first | refine OpsW.st rfl ?_ | refine OpsW.ld H (by (first | exact p0 | exact p1 | exact p2 | exact p3 | exact p4 | exact p5 | exact p6 | exact p7)) rfl rfl rfl rfl (by rfl) rfl ?_ | refine OpsW.ldA H (by (first | exact p0 | exact p1 | exact p2 | exact p3 | exact p4 | exact p5 | exact p6 | exact p7)) rfl rfl rfl (by rfl) rfl ?_ | refine OpsW.box H rfl rfl rfl fun _ _ H => ?_ | refine OpsW.alloc H rfl rfl rfl rfl fun _ _ H => ?_ | refine OpsW.str H (by (first | exact p0 | exact p1 | exact p2 | exact p3 | exact p4 | exact p5 | exact p6 | exact p7)) rfl rfl rfl rfl rfl rfl (by first | decide | (simp; done) | (simp; omega)) fun _ H => ?_ | refine OpsW.strA H (by (first | exact p0 | exact p1 | exact p2 | exact p3 | exact p4 | exact p5 | exact p6 | exact p7)) rfl rfl rfl rfl rfl rfl (by first | decide | (simp; done) | (simp; omega)) fun _ H => ?_) | (refine CW.go ?_; first | refine CW.condT rfl ?_ | refine CW.condF rfl ?_ | refine CW.seqR ?_ | refine CW.seqDc ?_ | refine CW.seqDb ?_ | refine CW.seqDl ?_ | refine CW.seqDs ?_ | refine CW.seqDk ?_ | refine CW.block ?_ | refine CW.region ?_ | refine CW.ret ?_ | refine CW.exit ?_ | refine CW.skip ?_) | refine OpsW.nil ?_)
        exact ⟨(), (by (repeat (first | (with_reducible exact Agree.refl _ _) | (with_reducible refine Agree.trim (by assumption) ?_) | refine Agree.upd ?_ rfl | exact Agree.mix' | refine Agree.mixL ?_ (fun j h => by simp only [Bool.or_eq_true, Bool.and_eq_true, Nat.beq_eq, Nat.ble_eq] at h ⊢; omega) rfl))), trivial, H⟩
      · obtain ⟨bc, ws, hits, hg, H2⟩ := mc_open (H.perm p3)
        replace H := H2.perm r2
        clear H2
        obtain ⟨o, ho⟩ : ∃ o : K, o = if 0 ≤ hv' j then qQ (hv' j).toNat else K.void := ⟨_, rfl⟩
        rw [← ho] at eW1
        have hsw : ∀ {w : World} {R : List HP}, Sat W w (blk bs 38 [.pointer (some ⟨bn, 0, none⟩), .pointer (some ⟨bp, 0, none⟩)] :: nodesP bn (sQ hv') :: pagesP bp (sQ hv') :: blk bm 34 [.pointer (some ⟨bs, 0, none⟩), .int .i64 3, .pointer (some ⟨bc, 0, none⟩)] :: cacheP bc 3 ws hits :: (R ++ [snap W])) → Spec cf 29 #[.pointer (some ⟨bm, 0, none⟩), kN.v, .int .i64 j, (qQ p).v] w fun e w' => e = .tuple #[o.v, .nilIface] ∧ Sat W w' (blk bs 38 [.pointer (some ⟨bn, 0, none⟩), .pointer (some ⟨bp, 0, none⟩)] :: nodesP bn (sQ (setH hv' j p)) :: pagesP bp (sQ (setH hv' j p)) :: mcP bm bs 3 (sQ (setH hv' j p)) (4 * i) :: (R ++ [snap W])) := fun {w R} H => by
          have hE' : E6 (R ++ [snap W]) ads := E6_app R hE
          have := mem_swap6 (mc3 hg H) (sQ_ok hv') hE' kN j (qQ p) (by decide)
          rw [eW1, eW2, eA_0] at this
          exact this
        have hsw0 : ∀ {w : World}, Sat W w (blk bs 38 [.pointer (some ⟨bn, 0, none⟩), .pointer (some ⟨bp, 0, none⟩)] :: nodesP bn (sQ hv') :: pagesP bp (sQ hv') :: blk bm 34 [.pointer (some ⟨bs, 0, none⟩), .int .i64 3, .pointer (some ⟨bc, 0, none⟩)] :: cacheP bc 3 ws hits :: [blk bk 43 kN.l, blk bh 3 (hl4 hv'), snap W]) → Spec cf 29 #[.pointer (some ⟨bm, 0, none⟩), kN.v, .int .i64 j, (qQ p).v] w fun e w' => e = .tuple #[o.v, .nilIface] ∧ Sat W w' (blk bs 38 [.pointer (some ⟨bn, 0, none⟩), .pointer (some ⟨bp, 0, none⟩)] :: nodesP bn (sQ (setH hv' j p)) :: pagesP bp (sQ (setH hv' j p)) :: mcP bm bs 3 (sQ (setH hv' j p)) (4 * i) :: [blk bk 43 kN.l, blk bh 3 (hl4 hv'), snap W]) := fun {w} H => hsw (R := [_, _]) H
        have hsw1 : ∀ {w : World} {A : HP}, Sat W w (A :: blk bs 38 [.pointer (some ⟨bn, 0, none⟩), .pointer (some ⟨bp, 0, none⟩)] :: nodesP bn (sQ hv') :: pagesP bp (sQ hv') :: blk bm 34 [.pointer (some ⟨bs, 0, none⟩), .int .i64 3, .pointer (some ⟨bc, 0, none⟩)] :: cacheP bc 3 ws hits :: [blk bk 43 kN.l, blk bh 3 (hl4 hv'), snap W]) → Spec cf 29 #[.pointer (some ⟨bm, 0, none⟩), kN.v, .int .i64 j, (qQ p).v] w fun e w' => e = .tuple #[o.v, .nilIface] ∧ Sat W w' (A :: blk bs 38 [.pointer (some ⟨bn, 0, none⟩), .pointer (some ⟨bp, 0, none⟩)] :: nodesP bn (sQ (setH hv' j p)) :: pagesP bp (sQ (setH hv' j p)) :: mcP bm bs 3 (sQ (setH hv' j p)) (4 * i) :: [blk bk 43 kN.l, blk bh 3 (hl4 hv'), snap W]) := fun {w A} H => (hsw (R := [_, _, _]) (H.perm p5.symm)).mono fun e w h => ⟨h.1, h.2.perm p4⟩
        repeat' (first | (refine OpsW.go ?_; first | refine OpsW.st rfl ?_ | refine OpsW.ld H (by (first | exact p0 | exact p1 | exact p2 | exact p3 | exact p4 | exact p5 | exact p6 | exact p7)) rfl rfl rfl rfl (by rfl) rfl ?_ | refine OpsW.ldA H (by (first | exact p0 | exact p1 | exact p2 | exact p3 | exact p4 | exact p5 | exact p6 | exact p7)) rfl rfl rfl (by rfl) rfl ?_ | refine OpsW.box H rfl rfl rfl fun _ _ H => ?_ | refine OpsW.alloc H rfl rfl rfl rfl fun _ _ H => ?_ | refine OpsW.str H (by (first | exact p0 | exact p1 | exact p2 | exact p3 | exact p4 | exact p5 | exact p6 | exact p7)) rfl rfl rfl rfl rfl rfl (by first | decide | (simp; done) | (simp; omega)) fun _ H => ?_ | refine OpsW.strA H (by (first | exact p0 | exact p1 | exact p2 | exact p3 | exact p4 | exact p5 | exact p6 | exact p7)) rfl rfl rfl rfl rfl rfl (by first | decide | (simp; done) | (simp; omega)) fun _ H => ?_) | (refine CW.go ?_; first | refine CW.condT rfl ?_ | refine CW.condF rfl ?_ | refine CW.seqR ?_ | refine CW.seqDb ?_ | refine CW.seqDl ?_ | refine CW.seqDk ?_ | refine CW.block ?_ | refine CW.region ?_ | refine CW.ret ?_ | refine CW.exit ?_ | refine CW.skip ?_) | refine OpsW.nil ?_)
        refine CW.join (X := Nat) (fun j => Nat.ble 14 j) (fun b => [(14, .pointer (some ⟨b, 0, none⟩)), (15, .nilIface)]) (fun b w => Sat W w (blk b 43 o.l :: blk bs 38 [.pointer (some ⟨bn, 0, none⟩), .pointer (some ⟨bp, 0, none⟩)] :: nodesP bn (sQ (setH hv' j p)) :: pagesP bp (sQ (setH hv' j p)) :: mcP bm bs 3 (sQ (setH hv' j p)) (4 * i) :: blk bk 43 kN.l :: blk bh 3 (hl4 hv') :: [snap W])) ?_ ?_
        · (first | refine CW.drawN mo H fun w H => ?_ | refine CW.seqDrawN mo H fun w H => ?_)
          repeat' (first | refine AnyN.take (i := 0) rfl rfl rfl (by decide +kernel) ?_ | refine AnyN.take (i := 1) rfl rfl rfl (by decide +kernel) ?_ | refine AnyN.take (i := 2) rfl rfl rfl (by decide +kernel) ?_ | refine AnyN.take (i := 3) rfl rfl rfl (by decide +kernel) ?_ | refine AnyN.take (i := 4) rfl rfl rfl (by decide +kernel) ?_ | refine AnyN.take (i := 5) rfl rfl rfl (by decide +kernel) ?_ | refine AnyN.take (i := 6) rfl rfl rfl (by decide +kernel) ?_ | refine AnyN.take (i := 7) rfl rfl rfl (by decide +kernel) ?_ | refine AnyN.take (i := 8) rfl rfl rfl (by decide +kernel) ?_ | refine AnyN.take (i := 9) rfl rfl rfl (by decide +kernel) ?_ | refine AnyN.take (i := 10) rfl rfl rfl (by decide +kernel) ?_ | refine AnyN.take (i := 11) rfl rfl rfl (by decide +kernel) ?_ | refine AnyN.take (i := 12) rfl rfl rfl (by decide +kernel) ?_ | refine AnyN.take (i := 13) rfl rfl rfl (by decide +kernel) ?_ | refine AnyN.take (i := 14) rfl rfl rfl (by decide +kernel) ?_ | refine AnyN.take (i := 15) rfl rfl rfl (by decide +kernel) ?_ | refine AnyN.take (i := 16) rfl rfl rfl (by decide +kernel) ?_ | refine AnyN.take (i := 17) rfl rfl rfl (by decide +kernel) ?_ | refine AnyN.take (i := 18) rfl rfl rfl (by decide +kernel) ?_ | refine AnyN.take (i := 19) rfl rfl rfl (by decide +kernel) ?_ | refine AnyN.take (i := 20) rfl rfl rfl (by decide +kernel) ?_ | refine AnyN.take (i := 21) rfl rfl rfl (by decide +kernel) ?_ | refine AnyN.take (i := 22) rfl rfl rfl (by decide +kernel) ?_ | refine AnyN.take (i := 23) rfl rfl rfl (by decide +kernel) ?_ | refine AnyN.take (i := 24) rfl rfl rfl (by decide +kernel) ?_ | refine AnyN.take (i := 25) rfl rfl rfl (by decide +kernel) ?_ | refine AnyN.take (i := 26) rfl rfl rfl (by decide +kernel) ?_ | refine AnyN.take (i := 27) rfl rfl rfl (by decide +kernel) ?_)
          repeat' (first | exact AllI.nil' rfl | refine AllI.cons' rfl rfl ?_ ?_ | (first | refine AnyN.take (i := 0) rfl rfl rfl (by decide +kernel) ?_ | refine AnyN.take (i := 1) rfl rfl rfl (by decide +kernel) ?_ | refine AnyN.take (i := 2) rfl rfl rfl (by decide +kernel) ?_ | refine AnyN.take (i := 3) rfl rfl rfl (by decide +kernel) ?_ | refine AnyN.take (i := 4) rfl rfl rfl (by decide +kernel) ?_ | refine AnyN.take (i := 5) rfl rfl rfl (by decide +kernel) ?_ | refine AnyN.take (i := 6) rfl rfl rfl (by decide +kernel) ?_ | refine AnyN.take (i := 7) rfl rfl rfl (by decide +kernel) ?_ | refine AnyN.take (i := 8) rfl rfl rfl (by decide +kernel) ?_ | refine AnyN.take (i := 9) rfl rfl rfl (by decide +kernel) ?_ | refine AnyN.take (i := 10) rfl rfl rfl (by decide +kernel) ?_ | refine AnyN.take (i := 11) rfl rfl rfl (by decide +kernel) ?_ | refine AnyN.take (i := 12) rfl rfl rfl (by decide +kernel) ?_ | refine AnyN.take (i := 13) rfl rfl rfl (by decide +kernel) ?_ | refine AnyN.take (i := 14) rfl rfl rfl (by decide +kernel) ?_ | refine AnyN.take (i := 15) rfl rfl rfl (by decide +kernel) ?_ | refine AnyN.take (i := 16) rfl rfl rfl (by decide +kernel) ?_ | refine AnyN.take (i := 17) rfl rfl rfl (by decide +kernel) ?_ | refine AnyN.take (i := 18) rfl rfl rfl (by decide +kernel) ?_ | refine AnyN.take (i := 19) rfl rfl rfl (by decide +kernel) ?_ | refine AnyN.take (i := 20) rfl rfl rfl (by decide +kernel) ?_ | refine AnyN.take (i := 21) rfl rfl rfl (by decide +kernel) ?_ | refine AnyN.take (i := 22) rfl rfl rfl (by decide +kernel) ?_ | refine AnyN.take (i := 23) rfl rfl rfl (by decide +kernel) ?_ | refine AnyN.take (i := 24) rfl rfl rfl (by decide +kernel) ?_ | refine AnyN.take (i := 25) rfl rfl rfl (by decide +kernel) ?_ | refine AnyN.take (i := 26) rfl rfl rfl (by decide +kernel) ?_ | refine AnyN.take (i := 27) rfl rfl rfl (by decide +kernel) ?_) | refine AnyN.step rfl rfl ?_ | (first | (refine OpsW.go ?_; first | refine OpsW.st rfl ?_ | refine OpsW.ld H (by (first | exact p0 | exact p1 | exact p2 | exact p3 | exact p4 | exact p5 | exact p6 | exact p7)) rfl rfl rfl rfl (by rfl) rfl ?_ | refine OpsW.ldA H (by (first | exact p0 | exact p1 | exact p2 | exact p3 | exact p4 | exact p5 | exact p6 | exact p7)) rfl rfl rfl (by rfl) rfl ?_ | refine OpsW.box H rfl rfl rfl fun _ _ H => ?_ | refine OpsW.alloc H rfl rfl rfl rfl fun _ _ H => ?_ | refine OpsW.str H (by (first | exact p0 | exact p1 | exact p2 | exact p3 | exact p4 | exact p5 | exact p6 | exact p7)) rfl rfl rfl rfl rfl rfl (by first | decide | (simp; done) | (simp; omega)) fun _ H => ?_ | refine OpsW.strA H (by (first | exact p0 | exact p1 | exact p2 | exact p3 | exact p4 | exact p5 | exact p6 | exact p7)) rfl rfl rfl rfl rfl rfl (by first | decide | (simp; done) | (simp; omega)) fun _ H => ?_) | (refine CW.go ?_; first | refine CW.condT rfl ?_ | refine CW.condF rfl ?_ | refine CW.seqR ?_ | refine CW.seqD ?_ | refine CW.block ?_ | refine CW.region ?_ | refine CW.ret ?_ | refine CW.exit ?_ | refine CW.skip ?_) | refine OpsW.nil ?_) | (refine OpsW.call rfl rfl rfl (hpk H) ?_; rintro _ w ⟨rfl, H⟩) | (refine OpsW.call rfl rfl rfl (via H (by exact r1) fun H => hpk H) ?_; rintro _ w ⟨rfl, H⟩) | (refine OpsW.call rfl rfl rfl (hsw0 H) ?_; rintro _ w ⟨rfl, H⟩) | (refine OpsW.call rfl rfl rfl (hsw1 H) ?_; rintro _ w ⟨rfl, H⟩))
          all_goals
            refine AnyN.done rfl ?_
            exact ⟨_, (by (repeat (first | (with_reducible exact Agree.refl _ _) | (with_reducible refine Agree.trim (by assumption) ?_) | refine Agree.upd ?_ rfl | exact Agree.mix' | refine Agree.mixL ?_ (fun j h => by simp only [Bool.or_eq_true, Bool.and_eq_true, Nat.beq_eq, Nat.ble_eq] at h ⊢; omega) rfl))), ⟨rfl, rfl, trivial⟩, H⟩
        clear H
        rintro bo τ3 w H
        have hcase : (∃ q : Nat, hv' j = q ∧ o = qQ q) ∨ (hv' j = -1 ∧ o = K.void) := by
          have := hh j
          by_cases h0 : 0 ≤ hv' j
          · rw [if_pos h0] at ho
            exact .inl ⟨(hv' j).toNat, by omega, ho⟩
          · rw [if_neg h0] at ho
            exact .inr ⟨by omega, ho⟩
        clear hsw hpk eS1 eS2 eW1 eW2 hg
        have hcell : (hl4 hv')[0 + j * 1]? = some (.int .i64 (hv' j)) := by
          rcases (show j = 0 ∨ j = 1 ∨ j = 2 ∨ j = 3 by omega) with rfl | rfl | rfl | rfl <;> rfl
        obtain ⟨k0, d0, hk0⟩ : ∃ k0 d0 : Int, Sat W w (blk bo 43 [.int .i64 k0, .int .i64 d0, .int .i64 0, .int .i64 0, .int .u32 0] :: blk bs 38 [.pointer (some ⟨bn, 0, none⟩), .pointer (some ⟨bp, 0, none⟩)] :: nodesP bn (sQ (setH hv' j p)) :: pagesP bp (sQ (setH hv' j p)) :: mcP bm bs 3 (sQ (setH hv' j p)) (4 * i) :: blk bk 43 kN.l :: blk bh 3 (hl4 hv') :: [snap W]) ∧ ((0 ≤ hv' j ∧ k0 = 3 ∧ d0 = hv' j) ∨ (hv' j = -1 ∧ k0 = 0)) := by
          rcases hcase with ⟨q, e1, e2⟩ | ⟨e1, e2⟩
          · exact ⟨3, q, by rw [e2] at H; exact H, .inl ⟨by omega, rfl, e1.symm⟩⟩
          · exact ⟨0, 0, by rw [e2] at H; exact H, .inr ⟨e1, rfl⟩⟩
        obtain ⟨H2, hc⟩ := hk0
        replace H := H2
        clear H2
        obtain ⟨x, hx⟩ : ∃ x, x = hv' j := ⟨_, rfl⟩
        rw [← hx] at hc hcell
        obtain ⟨cl, hcl⟩ : ∃ cl, cl = hl4 hv' := ⟨_, rfl⟩
        rw [← hcl] at H hcell
        repeat' (first | (refine OpsW.go ?_; first | refine OpsW.st rfl ?_ | refine OpsW.ld H (by (first | exact p0 | exact p1 | exact p2 | exact p3 | exact p4 | exact p5 | exact p6 | exact p7)) rfl rfl rfl rfl (by rfl) rfl ?_ | refine OpsW.ldA H (by (first | exact p0 | exact p1 | exact p2 | exact p3 | exact p4 | exact p5 | exact p6 | exact p7)) rfl rfl rfl (by rfl) rfl ?_ | refine OpsW.box H rfl rfl rfl fun _ _ H => ?_ | refine OpsW.alloc H rfl rfl rfl rfl fun _ _ H => ?_ | refine OpsW.str H (by (first | exact p0 | exact p1 | exact p2 | exact p3 | exact p4 | exact p5 | exact p6 | exact p7)) rfl rfl rfl rfl rfl rfl (by first | decide | (simp; done) | (simp; omega)) fun _ H => ?_ | refine OpsW.strA H (by (first | exact p0 | exact p1 | exact p2 | exact p3 | exact p4 | exact p5 | exact p6 | exact p7)) rfl rfl rfl rfl rfl rfl (by first | decide | (simp; done) | (simp; omega)) fun _ H => ?_) | (refine CW.go ?_; first | refine CW.condT rfl ?_ | refine CW.condF rfl ?_ | refine CW.seqR ?_ | refine CW.seqDb ?_ | refine CW.seqDl ?_ | refine CW.seqDk ?_ | refine CW.block ?_ | refine CW.region ?_ | refine CW.ret ?_ | refine CW.exit ?_ | refine CW.skip ?_) | refine OpsW.nil ?_)
        refine CW.trim [(10, .slice (some ⟨bh, 0, none⟩) 4 4), (12, .int .i64 j), (14, .pointer (some ⟨bo, 0, none⟩)), (15, .nilIface)] ⟨rfl, rfl, rfl, rfl, trivial⟩ fun τt eτ => ?_
        rcases hc with ⟨h0, rfl, rfl⟩ | ⟨h0, rfl⟩
        · refine CW.seqDraw mo H [0, 1, 3, 7, 15, 31, 7, 7, 199, 455, 967, 2047, 4095, 8191, 16383, 16383, 65535, 131071, 262143, 524287, 1048575, 2097151, 1048575, 1048575, 13631487, 30408703, 67108863, 134217727, 268435455] fun w H => ?_
          refine AnyW.seg (m := 11) (by kernel_rfl) (by kernel_rfl) H rfl ?_
          refine DrawP.cons rfl (fun τ w H => OpsW.st rfl (OpsW.nil ⟨rfl, H⟩)) ?_
          refine DrawP.cons rfl (fun τ w H => OpsW.st rfl (OpsW.nil ⟨rfl, H⟩)) ?_
          refine DrawP.cons rfl (fun τ w H => OpsW.st rfl (OpsW.nil ⟨rfl, H⟩)) ?_
          refine DrawP.cons rfl (fun τ w H => OpsW.st rfl (OpsW.nil ⟨rfl, H⟩)) ?_
          refine DrawP.cons rfl (fun τ w H => OpsW.ld H p0 rfl rfl rfl rfl rfl rfl (OpsW.nil ⟨rfl, H⟩)) ?_
          refine DrawP.cons rfl (fun τ w H => OpsW.st rfl (OpsW.nil ⟨rfl, H⟩)) ?_
          refine DrawP.cons rfl (fun τ w H => OpsW.st rfl (OpsW.nil ⟨rfl, H⟩)) ?_
          refine DrawP.cons rfl (fun τ w H => OpsW.st rfl (OpsW.nil ⟨rfl, H⟩)) ?_
          refine DrawP.cons rfl (fun τ w H => OpsW.ix (n := j) rfl rfl rfl rfl rfl rfl rfl hj4 rfl (OpsW.nil ⟨rfl, H⟩)) ?_
          refine DrawP.cons rfl (fun τ w H => OpsW.ld H p6 rfl rfl rfl rfl hcell rfl (OpsW.nil ⟨rfl, H⟩)) ?_
          refine DrawP.cons rfl (fun τ w H => OpsW.stV rfl (congrArg Value.bool (decide_eq_true h0)) (OpsW.nil ⟨rfl, H⟩)) ?_
          refine DrawP.nil ?_
          intro w H
          refine AnyW.seg (m := 20) (by kernel_rfl) (by kernel_rfl) H rfl ?_
          refine DrawP.cons rfl (fun τ w H => OpsW.st rfl (OpsW.nil ⟨rfl, H⟩)) ?_
          refine DrawP.cons rfl (fun τ w H => OpsW.st rfl (OpsW.nil ⟨rfl, H⟩)) ?_
          refine DrawP.cons rfl (fun τ w H => OpsW.st rfl (OpsW.nil ⟨rfl, H⟩)) ?_
          refine DrawP.cons rfl (fun τ w H => OpsW.st rfl (OpsW.nil ⟨rfl, H⟩)) ?_
          refine DrawP.cons rfl (fun τ w H => OpsW.st rfl (OpsW.nil ⟨rfl, H⟩)) ?_
          refine DrawP.cons rfl (fun τ w H => OpsW.ix (n := j) rfl rfl rfl rfl rfl rfl rfl hj4 rfl (OpsW.nil ⟨rfl, H⟩)) ?_
          refine DrawP.cons rfl (fun τ w H => OpsW.ld H p6 rfl rfl rfl rfl hcell rfl (OpsW.nil ⟨rfl, H⟩)) ?_
          refine DrawP.cons rfl (fun τ w H => OpsW.stV rfl (congrArg Value.bool (decide_eq_true h0)) (OpsW.nil ⟨rfl, H⟩)) ?_
          refine DrawP.cons rfl (fun τ w H => OpsW.st rfl (OpsW.nil ⟨rfl, H⟩)) ?_
          refine DrawP.nil ?_
          intro w H
          refine AnyW.seg (m := 29) (by kernel_rfl) (by kernel_rfl) H rfl ?_
          refine DrawP.cons rfl (fun τ w H => OpsW.st rfl (OpsW.nil ⟨rfl, H⟩)) ?_
          refine DrawP.cons rfl (fun τ w H => OpsW.ld H p0 rfl rfl rfl rfl rfl rfl (OpsW.nil ⟨rfl, H⟩)) ?_
          refine DrawP.cons rfl (fun τ w H => OpsW.st rfl (OpsW.nil ⟨rfl, H⟩)) ?_
          refine DrawP.cons rfl (fun τ w H => OpsW.st rfl (OpsW.nil ⟨rfl, H⟩)) ?_
          refine DrawP.cons rfl (fun τ w H => OpsW.ix (n := j) rfl rfl rfl rfl rfl rfl rfl hj4 rfl (OpsW.nil ⟨rfl, H⟩)) ?_
          refine DrawP.cons rfl (fun τ w H => OpsW.ld H p6 rfl rfl rfl rfl hcell rfl (OpsW.nil ⟨rfl, H⟩)) ?_
          refine DrawP.cons rfl (fun τ w H => OpsW.st rfl (OpsW.nil ⟨rfl, H⟩)) ?_
          refine DrawP.cons rfl (fun τ w H => OpsW.st rfl (OpsW.nil ⟨rfl, H⟩)) ?_
          refine DrawP.cons rfl (fun τ w H => OpsW.st rfl (OpsW.nil ⟨rfl, H⟩)) ?_
          refine DrawP.nil ?_
          intro w H
          refine AnyW.done ?_
          refine CW.cond rfl (fun h => absurd h (by simp)) (fun _ => ?_)
          repeat' (first | (refine OpsW.go ?_; first | refine OpsW.st rfl ?_ | refine OpsW.ld H (by (first | exact p0 | exact p1 | exact p2 | exact p3 | exact p4 | exact p5 | exact p6 | exact p7)) rfl rfl rfl rfl (by rfl) rfl ?_ | refine OpsW.ldA H (by (first | exact p0 | exact p1 | exact p2 | exact p3 | exact p4 | exact p5 | exact p6 | exact p7)) rfl rfl rfl (by rfl) rfl ?_ | refine OpsW.box H rfl rfl rfl fun _ _ H => ?_ | refine OpsW.alloc H rfl rfl rfl rfl fun _ _ H => ?_ | refine OpsW.str H (by (first | exact p0 | exact p1 | exact p2 | exact p3 | exact p4 | exact p5 | exact p6 | exact p7)) rfl rfl rfl rfl rfl rfl (by first | decide | (simp; done) | (simp; omega)) fun _ H => ?_ | refine OpsW.strA H (by (first | exact p0 | exact p1 | exact p2 | exact p3 | exact p4 | exact p5 | exact p6 | exact p7)) rfl rfl rfl rfl rfl rfl (by first | decide | (simp; done) | (simp; omega)) fun _ H => ?_) | (refine CW.go ?_; first | refine CW.condT rfl ?_ | refine CW.condF rfl ?_ | refine CW.seqR ?_ | refine CW.seqDc ?_ | refine CW.seqDb ?_ | refine CW.seqDl ?_ | refine CW.seqDs ?_ | refine CW.seqDk ?_ | refine CW.block ?_ | refine CW.region ?_ | refine CW.ret ?_ | refine CW.exit ?_ | refine CW.skip ?_) | refine OpsW.nil ?_)
          rw [hcl] at H
          exact ⟨(), (by (repeat (first | (with_reducible exact Agree.refl _ _) | (with_reducible refine Agree.trim (by assumption) ?_) | refine Agree.upd ?_ rfl | exact Agree.mix' | refine Agree.mixL ?_ (fun j h => by simp only [Bool.or_eq_true, Bool.and_eq_true, Nat.beq_eq, Nat.ble_eq] at h ⊢; omega) rfl))), trivial, H.drop⟩
        · clear hx
          subst h0
          refine CW.seqDraw mo H [0, 1, 3, 7, 15, 31, 7, 7, 199, 455, 967, 2047, 4095, 8191, 16383, 16383, 65535, 131071, 262143, 524287, 1048575, 2097151, 1048575, 1048575, 13631487, 30408703, 67108863, 134217727, 268435455] fun w H => ?_
          refine AnyW.seg (m := 11) (by kernel_rfl) (by kernel_rfl) H rfl ?_
          refine DrawP.cons rfl (fun τ w H => OpsW.st rfl (OpsW.nil ⟨rfl, H⟩)) ?_
          refine DrawP.cons rfl (fun τ w H => OpsW.st rfl (OpsW.nil ⟨rfl, H⟩)) ?_
          refine DrawP.cons rfl (fun τ w H => OpsW.st rfl (OpsW.nil ⟨rfl, H⟩)) ?_
          refine DrawP.cons rfl (fun τ w H => OpsW.st rfl (OpsW.nil ⟨rfl, H⟩)) ?_
          refine DrawP.cons rfl (fun τ w H => OpsW.ld H p0 rfl rfl rfl rfl rfl rfl (OpsW.nil ⟨rfl, H⟩)) ?_
          refine DrawP.cons rfl (fun τ w H => OpsW.st rfl (OpsW.nil ⟨rfl, H⟩)) ?_
          refine DrawP.cons rfl (fun τ w H => OpsW.st rfl (OpsW.nil ⟨rfl, H⟩)) ?_
          refine DrawP.cons rfl (fun τ w H => OpsW.st rfl (OpsW.nil ⟨rfl, H⟩)) ?_
          refine DrawP.cons rfl (fun τ w H => OpsW.ix (n := j) rfl rfl rfl rfl rfl rfl rfl hj4 rfl (OpsW.nil ⟨rfl, H⟩)) ?_
          refine DrawP.cons rfl (fun τ w H => OpsW.ld H p6 rfl rfl rfl rfl hcell rfl (OpsW.nil ⟨rfl, H⟩)) ?_
          refine DrawP.cons rfl (fun τ w H => OpsW.st rfl (OpsW.nil ⟨rfl, H⟩)) ?_
          refine DrawP.nil ?_
          intro w H
          refine AnyW.seg (m := 20) (by kernel_rfl) (by kernel_rfl) H rfl ?_
          refine DrawP.cons rfl (fun τ w H => OpsW.st rfl (OpsW.nil ⟨rfl, H⟩)) ?_
          refine DrawP.cons rfl (fun τ w H => OpsW.st rfl (OpsW.nil ⟨rfl, H⟩)) ?_
          refine DrawP.cons rfl (fun τ w H => OpsW.st rfl (OpsW.nil ⟨rfl, H⟩)) ?_
          refine DrawP.cons rfl (fun τ w H => OpsW.st rfl (OpsW.nil ⟨rfl, H⟩)) ?_
          refine DrawP.cons rfl (fun τ w H => OpsW.st rfl (OpsW.nil ⟨rfl, H⟩)) ?_
          refine DrawP.cons rfl (fun τ w H => OpsW.ix (n := j) rfl rfl rfl rfl rfl rfl rfl hj4 rfl (OpsW.nil ⟨rfl, H⟩)) ?_
          refine DrawP.cons rfl (fun τ w H => OpsW.ld H p6 rfl rfl rfl rfl hcell rfl (OpsW.nil ⟨rfl, H⟩)) ?_
          refine DrawP.cons rfl (fun τ w H => OpsW.st rfl (OpsW.nil ⟨rfl, H⟩)) ?_
          refine DrawP.cons rfl (fun τ w H => OpsW.st rfl (OpsW.nil ⟨rfl, H⟩)) ?_
          refine DrawP.nil ?_
          intro w H
          refine AnyW.seg (m := 29) (by kernel_rfl) (by kernel_rfl) H rfl ?_
          refine DrawP.cons rfl (fun τ w H => OpsW.st rfl (OpsW.nil ⟨rfl, H⟩)) ?_
          refine DrawP.cons rfl (fun τ w H => OpsW.st rfl (OpsW.nil ⟨rfl, H⟩)) ?_
          refine DrawP.cons rfl (fun τ w H => OpsW.st rfl (OpsW.nil ⟨rfl, H⟩)) ?_
          refine DrawP.cons rfl (fun τ w H => OpsW.st rfl (OpsW.nil ⟨rfl, H⟩)) ?_
          refine DrawP.cons rfl (fun τ w H => OpsW.st rfl (OpsW.nil ⟨rfl, H⟩)) ?_
          refine DrawP.cons rfl (fun τ w H => OpsW.st rfl (OpsW.nil ⟨rfl, H⟩)) ?_
          refine DrawP.cons rfl (fun τ w H => OpsW.st rfl (OpsW.nil ⟨rfl, H⟩)) ?_
          refine DrawP.cons rfl (fun τ w H => OpsW.st rfl (OpsW.nil ⟨rfl, H⟩)) ?_
          refine DrawP.cons rfl (fun τ w H => OpsW.st rfl (OpsW.nil ⟨rfl, H⟩)) ?_
          refine DrawP.nil ?_
          intro w H
          refine AnyW.done ?_
          repeat' (first | (refine OpsW.go ?_; first | refine OpsW.st rfl ?_ | refine OpsW.ld H (by (first | exact p0 | exact p1 | exact p2 | exact p3 | exact p4 | exact p5 | exact p6 | exact p7)) rfl rfl rfl rfl (by rfl) rfl ?_ | refine OpsW.ldA H (by (first | exact p0 | exact p1 | exact p2 | exact p3 | exact p4 | exact p5 | exact p6 | exact p7)) rfl rfl rfl (by rfl) rfl ?_ | refine OpsW.box H rfl rfl rfl fun _ _ H => ?_ | refine OpsW.alloc H rfl rfl rfl rfl fun _ _ H => ?_ | refine OpsW.str H (by (first | exact p0 | exact p1 | exact p2 | exact p3 | exact p4 | exact p5 | exact p6 | exact p7)) rfl rfl rfl rfl rfl rfl (by first | decide | (simp; done) | (simp; omega)) fun _ H => ?_ | refine OpsW.strA H (by (first | exact p0 | exact p1 | exact p2 | exact p3 | exact p4 | exact p5 | exact p6 | exact p7)) rfl rfl rfl rfl rfl rfl (by first | decide | (simp; done) | (simp; omega)) fun _ H => ?_) | (refine CW.go ?_; first | refine CW.condT rfl ?_ | refine CW.condF rfl ?_ | refine CW.seqR ?_ | refine CW.seqDc ?_ | refine CW.seqDb ?_ | refine CW.seqDl ?_ | refine CW.seqDs ?_ | refine CW.seqDk ?_ | refine CW.block ?_ | refine CW.region ?_ | refine CW.ret ?_ | refine CW.exit ?_ | refine CW.skip ?_) | refine OpsW.nil ?_)
          rw [hcl] at H
          exact ⟨(), (by (repeat (first | (with_reducible exact Agree.refl _ _) | (with_reducible refine Agree.trim (by assumption) ?_) | refine Agree.upd ?_ rfl | exact Agree.mix' | refine Agree.mixL ?_ (fun j h => by simp only [Bool.or_eq_true, Bool.and_eq_true, Nat.beq_eq, Nat.ble_eq] at h ⊢; omega) rfl))), trivial, H.drop⟩
    clear H
    rintro _ τ2 w H
    obtain ⟨h2, hh2⟩ : ∃ h2, h2 = setH hv' j p := ⟨_, rfl⟩
    have e : (hl4 hv').set (0 + j * 1) (.int .i64 p) = hl4 h2 := by
      rw [hh2]
      rcases (show j = 0 ∨ j = 1 ∨ j = 2 ∨ j = 3 by omega) with rfl | rfl | rfl | rfl <;> rfl
    repeat' (first | (refine OpsW.go ?_; first | refine OpsW.st rfl ?_ | refine OpsW.ld H (by (first | exact p0 | exact p1 | exact p2 | exact p3 | exact p4 | exact p5 | exact p6 | exact p7)) rfl rfl rfl rfl (by rfl) rfl ?_ | refine OpsW.ldA H (by (first | exact p0 | exact p1 | exact p2 | exact p3 | exact p4 | exact p5 | exact p6 | exact p7)) rfl rfl rfl (by rfl) rfl ?_ | refine OpsW.box H rfl rfl rfl fun _ _ H => ?_ | refine OpsW.alloc H rfl rfl rfl rfl fun _ _ H => ?_ | refine OpsW.str H (by (first | exact p0 | exact p1 | exact p2 | exact p3 | exact p4 | exact p5 | exact p6 | exact p7)) rfl rfl rfl rfl rfl rfl (by first | decide | (simp; done) | (simp; omega)) fun _ H => ?_ | refine OpsW.strA H (by (first | exact p0 | exact p1 | exact p2 | exact p3 | exact p4 | exact p5 | exact p6 | exact p7)) rfl rfl rfl rfl rfl rfl (by first | decide | (simp; done) | (simp; omega)) fun _ H => ?_) | (refine CW.go ?_; first | refine CW.condT rfl ?_ | refine CW.condF rfl ?_ | refine CW.seqR ?_ | refine CW.seqDc ?_ | refine CW.seqDb ?_ | refine CW.seqDl ?_ | refine CW.seqDs ?_ | refine CW.seqDk ?_ | refine CW.block ?_ | refine CW.region ?_ | refine CW.ret ?_ | refine CW.exit ?_ | refine CW.skip ?_) | refine OpsW.nil ?_)
    refine OpsW.ix (n := j) rfl rfl rfl rfl rfl rfl rfl hj4 rfl ?_
    refine OpsW.str H p5 rfl rfl rfl rfl rfl rfl (by show 0 + j * 1 < 4; omega) fun w H => ?_
    rw [e, ← hh2] at H
    repeat' (first | (refine OpsW.go ?_; first | refine OpsW.st rfl ?_ | refine OpsW.ld H (by (first | exact p0 | exact p1 | exact p2 | exact p3 | exact p4 | exact p5 | exact p6 | exact p7)) rfl rfl rfl rfl (by rfl) rfl ?_ | refine OpsW.ldA H (by (first | exact p0 | exact p1 | exact p2 | exact p3 | exact p4 | exact p5 | exact p6 | exact p7)) rfl rfl rfl (by rfl) rfl ?_ | refine OpsW.box H rfl rfl rfl fun _ _ H => ?_ | refine OpsW.alloc H rfl rfl rfl rfl fun _ _ H => ?_ | refine OpsW.str H (by (first | exact p0 | exact p1 | exact p2 | exact p3 | exact p4 | exact p5 | exact p6 | exact p7)) rfl rfl rfl rfl rfl rfl (by first | decide | (simp; done) | (simp; omega)) fun _ H => ?_ | refine OpsW.strA H (by (first | exact p0 | exact p1 | exact p2 | exact p3 | exact p4 | exact p5 | exact p6 | exact p7)) rfl rfl rfl rfl rfl rfl (by first | decide | (simp; done) | (simp; omega)) fun _ H => ?_) | (refine CW.go ?_; first | refine CW.condT rfl ?_ | refine CW.condF rfl ?_ | refine CW.seqR ?_ | refine CW.seqDc ?_ | refine CW.seqDb ?_ | refine CW.seqDl ?_ | refine CW.seqDs ?_ | refine CW.seqDk ?_ | refine CW.block ?_ | refine CW.region ?_ | refine CW.ret ?_ | refine CW.exit ?_ | refine CW.skip ?_) | refine OpsW.nil ?_)
    have hb2 : ∀ m, -1 ≤ h2 m ∧ h2 m < 8 := fun m => by
      rw [hh2]; unfold setH
      split
      · omega
      · exact hh m
    clear e hh2
    refine CW.loopF (X := Nat) (fun j => Nat.ble 16 j) (fun m => [(16, .int .i64 (m : Int))]) (fun m w => m ≤ 4 ∧ Sat W w (blk bs 38 [.pointer (some ⟨bn, 0, none⟩), .pointer (some ⟨bp, 0, none⟩)] :: nodesP bn (sQ h2) :: pagesP bp (sQ h2) :: mcP bm bs 3 (sQ h2) (4 * i + m) :: blk bk 43 kN.l :: blk bh 3 (hl4 h2) :: [snap W])) (fun m => 4 - m) 0 ⟨rfl, trivial⟩ ⟨Nat.zero_le _, (H.perm p5.symm)⟩ ?_
    clear H
    rintro m τ3 w ⟨hm, H⟩
    repeat' (first | (refine OpsW.go ?_; first | refine OpsW.st rfl ?_ | refine OpsW.ld H (by (first | exact p0 | exact p1 | exact p2 | exact p3 | exact p4 | exact p5 | exact p6 | exact p7)) rfl rfl rfl rfl (by rfl) rfl ?_ | refine OpsW.ldA H (by (first | exact p0 | exact p1 | exact p2 | exact p3 | exact p4 | exact p5 | exact p6 | exact p7)) rfl rfl rfl (by rfl) rfl ?_ | refine OpsW.box H rfl rfl rfl fun _ _ H => ?_ | refine OpsW.alloc H rfl rfl rfl rfl fun _ _ H => ?_ | refine OpsW.str H (by (first | exact p0 | exact p1 | exact p2 | exact p3 | exact p4 | exact p5 | exact p6 | exact p7)) rfl rfl rfl rfl rfl rfl (by first | decide | (simp; done) | (simp; omega)) fun _ H => ?_ | refine OpsW.strA H (by (first | exact p0 | exact p1 | exact p2 | exact p3 | exact p4 | exact p5 | exact p6 | exact p7)) rfl rfl rfl rfl rfl rfl (by first | decide | (simp; done) | (simp; omega)) fun _ H => ?_) | (refine CW.go ?_; first | refine CW.condT rfl ?_ | refine CW.condF rfl ?_ | refine CW.seqR ?_ | refine CW.seqD ?_ | refine CW.block ?_ | refine CW.region ?_ | refine CW.ret ?_ | refine CW.exit ?_ | refine CW.skip ?_) | refine OpsW.nil ?_)
    refine CW.cond rfl (fun h => ?_) (fun h => ?_)
    · have hm4 : m < 4 := by have := of_decide_eq_true h; omega
      repeat' (first | (refine OpsW.go ?_; first | refine OpsW.st rfl ?_ | refine OpsW.ld H (by (first | exact p0 | exact p1 | exact p2 | exact p3 | exact p4 | exact p5 | exact p6 | exact p7)) rfl rfl rfl rfl (by rfl) rfl ?_ | refine OpsW.ldA H (by (first | exact p0 | exact p1 | exact p2 | exact p3 | exact p4 | exact p5 | exact p6 | exact p7)) rfl rfl rfl (by rfl) rfl ?_ | refine OpsW.box H rfl rfl rfl fun _ _ H => ?_ | refine OpsW.alloc H rfl rfl rfl rfl fun _ _ H => ?_ | refine OpsW.str H (by (first | exact p0 | exact p1 | exact p2 | exact p3 | exact p4 | exact p5 | exact p6 | exact p7)) rfl rfl rfl rfl rfl rfl (by first | decide | (simp; done) | (simp; omega)) fun _ H => ?_ | refine OpsW.strA H (by (first | exact p0 | exact p1 | exact p2 | exact p3 | exact p4 | exact p5 | exact p6 | exact p7)) rfl rfl rfl rfl rfl rfl (by first | decide | (simp; done) | (simp; omega)) fun _ H => ?_) | (refine CW.go ?_; first | refine CW.condT rfl ?_ | refine CW.condF rfl ?_ | refine CW.seqR ?_ | refine CW.seqDc ?_ | refine CW.seqDb ?_ | refine CW.seqDl ?_ | refine CW.seqDs ?_ | refine CW.seqDk ?_ | refine CW.block ?_ | refine CW.region ?_ | refine CW.ret ?_ | refine CW.exit ?_ | refine CW.skip ?_) | refine OpsW.nil ?_)
      have hao : IntKind.wrap .u32 (IntKind.wrap .i64 (32 * (m : Int))) = 32 * (m : Int) := by
        rw [wrap64_id (n := 32 * (m : Int)) (by omega) (by omega), wrapu32]; omega
      rw [hao]
      refine OpsW.call rfl rfl rfl (mem_load H (sQ_ok h2) kN (32 * (m : Int)) (by show (0 : Int) ≤ 1; decide) (sQ_d h2) (by omega) (by omega) (by decide) (by decide) (by omega)) ?_
      rw [sQ_load h2 m hm4 (hb2 m).2]
      have hb3 := hb2 m
      obtain ⟨x, hx⟩ : ∃ x, x = h2 m := ⟨_, rfl⟩
      have hcell : (hl4 h2)[0 + m * 1]? = some (.int .i64 x) := by
        rcases (show m = 0 ∨ m = 1 ∨ m = 2 ∨ m = 3 by omega) with rfl | rfl | rfl | rfl <;> (rw [hx]; rfl)
      rw [← hx] at hb3 ⊢
      by_cases h0 : 0 ≤ x
      · rw [if_pos h0]
        rintro _ w ⟨rfl, H⟩
        obtain ⟨q, rfl⟩ := Int.eq_ofNat_of_zero_le h0
        repeat' (first | (refine OpsW.go ?_; first | refine OpsW.st rfl ?_ | refine OpsW.ld H (by (first | exact p0 | exact p1 | exact p2 | exact p3 | exact p4 | exact p5 | exact p6 | exact p7)) rfl rfl rfl rfl (by rfl) rfl ?_ | refine OpsW.ldA H (by (first | exact p0 | exact p1 | exact p2 | exact p3 | exact p4 | exact p5 | exact p6 | exact p7)) rfl rfl rfl (by rfl) rfl ?_ | refine OpsW.box H rfl rfl rfl fun _ _ H => ?_ | refine OpsW.alloc H rfl rfl rfl rfl fun _ _ H => ?_ | refine OpsW.str H (by (first | exact p0 | exact p1 | exact p2 | exact p3 | exact p4 | exact p5 | exact p6 | exact p7)) rfl rfl rfl rfl rfl rfl (by first | decide | (simp; done) | (simp; omega)) fun _ H => ?_ | refine OpsW.strA H (by (first | exact p0 | exact p1 | exact p2 | exact p3 | exact p4 | exact p5 | exact p6 | exact p7)) rfl rfl rfl rfl rfl rfl (by first | decide | (simp; done) | (simp; omega)) fun _ H => ?_) | (refine CW.go ?_; first | refine CW.condT rfl ?_ | refine CW.condF rfl ?_ | refine CW.seqR ?_ | refine CW.seqDc ?_ | refine CW.seqDb ?_ | refine CW.seqDl ?_ | refine CW.seqDs ?_ | refine CW.seqDk ?_ | refine CW.block ?_ | refine CW.region ?_ | refine CW.ret ?_ | refine CW.exit ?_ | refine CW.skip ?_) | refine OpsW.nil ?_)
        refine OpsW.ix (n := m) rfl rfl rfl rfl rfl rfl rfl hm4 rfl ?_
        refine OpsW.ld H p5 rfl rfl rfl rfl hcell rfl ?_
        repeat' (first | (refine OpsW.go ?_; first | refine OpsW.st rfl ?_ | refine OpsW.ld H (by (first | exact p0 | exact p1 | exact p2 | exact p3 | exact p4 | exact p5 | exact p6 | exact p7)) rfl rfl rfl rfl (by rfl) rfl ?_ | refine OpsW.ldA H (by (first | exact p0 | exact p1 | exact p2 | exact p3 | exact p4 | exact p5 | exact p6 | exact p7)) rfl rfl rfl (by rfl) rfl ?_ | refine OpsW.box H rfl rfl rfl fun _ _ H => ?_ | refine OpsW.alloc H rfl rfl rfl rfl fun _ _ H => ?_ | refine OpsW.str H (by (first | exact p0 | exact p1 | exact p2 | exact p3 | exact p4 | exact p5 | exact p6 | exact p7)) rfl rfl rfl rfl rfl rfl (by first | decide | (simp; done) | (simp; omega)) fun _ H => ?_ | refine OpsW.strA H (by (first | exact p0 | exact p1 | exact p2 | exact p3 | exact p4 | exact p5 | exact p6 | exact p7)) rfl rfl rfl rfl rfl rfl (by first | decide | (simp; done) | (simp; omega)) fun _ H => ?_) | (refine CW.go ?_; first | refine CW.condT rfl ?_ | refine CW.condF rfl ?_ | refine CW.seqR ?_ | refine CW.seqDc ?_ | refine CW.seqDb ?_ | refine CW.seqDl ?_ | refine CW.seqDs ?_ | refine CW.seqDk ?_ | refine CW.block ?_ | refine CW.region ?_ | refine CW.ret ?_ | refine CW.exit ?_ | refine CW.skip ?_) | refine OpsW.nil ?_)
        refine OpsW.ix (n := m) rfl rfl rfl rfl rfl rfl rfl hm4 rfl ?_
        refine OpsW.ld H p5 rfl rfl rfl rfl hcell rfl ?_
        repeat' (first | (refine OpsW.go ?_; first | refine OpsW.st rfl ?_ | refine OpsW.ld H (by (first | exact p0 | exact p1 | exact p2 | exact p3 | exact p4 | exact p5 | exact p6 | exact p7)) rfl rfl rfl rfl (by rfl) rfl ?_ | refine OpsW.ldA H (by (first | exact p0 | exact p1 | exact p2 | exact p3 | exact p4 | exact p5 | exact p6 | exact p7)) rfl rfl rfl (by rfl) rfl ?_ | refine OpsW.box H rfl rfl rfl fun _ _ H => ?_ | refine OpsW.alloc H rfl rfl rfl rfl fun _ _ H => ?_ | refine OpsW.str H (by (first | exact p0 | exact p1 | exact p2 | exact p3 | exact p4 | exact p5 | exact p6 | exact p7)) rfl rfl rfl rfl rfl rfl (by first | decide | (simp; done) | (simp; omega)) fun _ H => ?_ | refine OpsW.strA H (by (first | exact p0 | exact p1 | exact p2 | exact p3 | exact p4 | exact p5 | exact p6 | exact p7)) rfl rfl rfl rfl rfl rfl (by first | decide | (simp; done) | (simp; omega)) fun _ H => ?_) | (refine CW.go ?_; first | refine CW.condT rfl ?_ | refine CW.condF rfl ?_ | refine CW.seqR ?_ | refine CW.seqDc ?_ | refine CW.seqDb ?_ | refine CW.seqDl ?_ | refine CW.seqDs ?_ | refine CW.seqDk ?_ | refine CW.block ?_ | refine CW.region ?_ | refine CW.ret ?_ | refine CW.exit ?_ | refine CW.skip ?_) | refine OpsW.nil ?_)
        refine OpsW.ix (n := m) rfl rfl rfl rfl rfl rfl rfl hm4 rfl ?_
        refine OpsW.ld H p5 rfl rfl rfl rfl hcell rfl ?_
        repeat' (first | (refine OpsW.go ?_; first | refine OpsW.st rfl ?_ | refine OpsW.ld H (by (first | exact p0 | exact p1 | exact p2 | exact p3 | exact p4 | exact p5 | exact p6 | exact p7)) rfl rfl rfl rfl (by rfl) rfl ?_ | refine OpsW.ldA H (by (first | exact p0 | exact p1 | exact p2 | exact p3 | exact p4 | exact p5 | exact p6 | exact p7)) rfl rfl rfl (by rfl) rfl ?_ | refine OpsW.box H rfl rfl rfl fun _ _ H => ?_ | refine OpsW.alloc H rfl rfl rfl rfl fun _ _ H => ?_ | refine OpsW.str H (by (first | exact p0 | exact p1 | exact p2 | exact p3 | exact p4 | exact p5 | exact p6 | exact p7)) rfl rfl rfl rfl rfl rfl (by first | decide | (simp; done) | (simp; omega)) fun _ H => ?_ | refine OpsW.strA H (by (first | exact p0 | exact p1 | exact p2 | exact p3 | exact p4 | exact p5 | exact p6 | exact p7)) rfl rfl rfl rfl rfl rfl (by first | decide | (simp; done) | (simp; omega)) fun _ H => ?_) | (refine CW.go ?_; first | refine CW.condT rfl ?_ | refine CW.condF rfl ?_ | refine CW.seqR ?_ | refine CW.seqDc ?_ | refine CW.seqDb ?_ | refine CW.seqDl ?_ | refine CW.seqDs ?_ | refine CW.seqDk ?_ | refine CW.block ?_ | refine CW.region ?_ | refine CW.ret ?_ | refine CW.exit ?_ | refine CW.skip ?_) | refine OpsW.nil ?_)
        rw [show IntKind.wrap .u32 (IntKind.wrap .i64 (100 + (q : Int))) = 100 + q by rw [wrap64_id (n := 100 + (q : Int)) (by omega) (by omega), wrapu32]; omega]
        refine CW.cond rfl (fun h => absurd h (by simp)) (fun _ => ?_)
        repeat' (first | (refine OpsW.go ?_; first | refine OpsW.st rfl ?_ | refine OpsW.ld H (by (first | exact p0 | exact p1 | exact p2 | exact p3 | exact p4 | exact p5 | exact p6 | exact p7)) rfl rfl rfl rfl (by rfl) rfl ?_ | refine OpsW.ldA H (by (first | exact p0 | exact p1 | exact p2 | exact p3 | exact p4 | exact p5 | exact p6 | exact p7)) rfl rfl rfl (by rfl) rfl ?_ | refine OpsW.box H rfl rfl rfl fun _ _ H => ?_ | refine OpsW.alloc H rfl rfl rfl rfl fun _ _ H => ?_ | refine OpsW.str H (by (first | exact p0 | exact p1 | exact p2 | exact p3 | exact p4 | exact p5 | exact p6 | exact p7)) rfl rfl rfl rfl rfl rfl (by first | decide | (simp; done) | (simp; omega)) fun _ H => ?_ | refine OpsW.strA H (by (first | exact p0 | exact p1 | exact p2 | exact p3 | exact p4 | exact p5 | exact p6 | exact p7)) rfl rfl rfl rfl rfl rfl (by first | decide | (simp; done) | (simp; omega)) fun _ H => ?_) | (refine CW.go ?_; first | refine CW.condT rfl ?_ | refine CW.condF rfl ?_ | refine CW.seqR ?_ | refine CW.seqDc ?_ | refine CW.seqDb ?_ | refine CW.seqDl ?_ | refine CW.seqDs ?_ | refine CW.seqDk ?_ | refine CW.block ?_ | refine CW.region ?_ | refine CW.ret ?_ | refine CW.exit ?_ | refine CW.skip ?_) | refine OpsW.nil ?_)
        exact ⟨m + 1, (by (repeat (first | (with_reducible exact Agree.refl _ _) | (with_reducible refine Agree.trim (by assumption) ?_) | refine Agree.upd ?_ rfl | exact Agree.mix' | refine Agree.mixL ?_ (fun j h => by simp only [Bool.or_eq_true, Bool.and_eq_true, Nat.beq_eq, Nat.ble_eq] at h ⊢; omega) rfl))), ⟨nat_succ (n := 4) hm4 (by omega), trivial⟩, ⟨hm4, H⟩, by omega⟩
      · rw [if_neg h0]
        rintro _ w ⟨rfl, H⟩
        obtain rfl : x = -1 := by omega
        repeat' (first | (refine OpsW.go ?_; first | refine OpsW.st rfl ?_ | refine OpsW.ld H (by (first | exact p0 | exact p1 | exact p2 | exact p3 | exact p4 | exact p5 | exact p6 | exact p7)) rfl rfl rfl rfl (by rfl) rfl ?_ | refine OpsW.ldA H (by (first | exact p0 | exact p1 | exact p2 | exact p3 | exact p4 | exact p5 | exact p6 | exact p7)) rfl rfl rfl (by rfl) rfl ?_ | refine OpsW.box H rfl rfl rfl fun _ _ H => ?_ | refine OpsW.alloc H rfl rfl rfl rfl fun _ _ H => ?_ | refine OpsW.str H (by (first | exact p0 | exact p1 | exact p2 | exact p3 | exact p4 | exact p5 | exact p6 | exact p7)) rfl rfl rfl rfl rfl rfl (by first | decide | (simp; done) | (simp; omega)) fun _ H => ?_ | refine OpsW.strA H (by (first | exact p0 | exact p1 | exact p2 | exact p3 | exact p4 | exact p5 | exact p6 | exact p7)) rfl rfl rfl rfl rfl rfl (by first | decide | (simp; done) | (simp; omega)) fun _ H => ?_) | (refine CW.go ?_; first | refine CW.condT rfl ?_ | refine CW.condF rfl ?_ | refine CW.seqR ?_ | refine CW.seqDc ?_ | refine CW.seqDb ?_ | refine CW.seqDl ?_ | refine CW.seqDs ?_ | refine CW.seqDk ?_ | refine CW.block ?_ | refine CW.region ?_ | refine CW.ret ?_ | refine CW.exit ?_ | refine CW.skip ?_) | refine OpsW.nil ?_)
        refine OpsW.ix (n := m) rfl rfl rfl rfl rfl rfl rfl hm4 rfl ?_
        refine OpsW.ld H p5 rfl rfl rfl rfl hcell rfl ?_
        repeat' (first | (refine OpsW.go ?_; first | refine OpsW.st rfl ?_ | refine OpsW.ld H (by (first | exact p0 | exact p1 | exact p2 | exact p3 | exact p4 | exact p5 | exact p6 | exact p7)) rfl rfl rfl rfl (by rfl) rfl ?_ | refine OpsW.ldA H (by (first | exact p0 | exact p1 | exact p2 | exact p3 | exact p4 | exact p5 | exact p6 | exact p7)) rfl rfl rfl (by rfl) rfl ?_ | refine OpsW.box H rfl rfl rfl fun _ _ H => ?_ | refine OpsW.alloc H rfl rfl rfl rfl fun _ _ H => ?_ | refine OpsW.str H (by (first | exact p0 | exact p1 | exact p2 | exact p3 | exact p4 | exact p5 | exact p6 | exact p7)) rfl rfl rfl rfl rfl rfl (by first | decide | (simp; done) | (simp; omega)) fun _ H => ?_ | refine OpsW.strA H (by (first | exact p0 | exact p1 | exact p2 | exact p3 | exact p4 | exact p5 | exact p6 | exact p7)) rfl rfl rfl rfl rfl rfl (by first | decide | (simp; done) | (simp; omega)) fun _ H => ?_) | (refine CW.go ?_; first | refine CW.condT rfl ?_ | refine CW.condF rfl ?_ | refine CW.seqR ?_ | refine CW.seqDc ?_ | refine CW.seqDb ?_ | refine CW.seqDl ?_ | refine CW.seqDs ?_ | refine CW.seqDk ?_ | refine CW.block ?_ | refine CW.region ?_ | refine CW.ret ?_ | refine CW.exit ?_ | refine CW.skip ?_) | refine OpsW.nil ?_)
        refine OpsW.ix (n := m) rfl rfl rfl rfl rfl rfl rfl hm4 rfl ?_
        refine OpsW.ld H p5 rfl rfl rfl rfl hcell rfl ?_
        repeat' (first | (refine OpsW.go ?_; first | refine OpsW.st rfl ?_ | refine OpsW.ld H (by (first | exact p0 | exact p1 | exact p2 | exact p3 | exact p4 | exact p5 | exact p6 | exact p7)) rfl rfl rfl rfl (by rfl) rfl ?_ | refine OpsW.ldA H (by (first | exact p0 | exact p1 | exact p2 | exact p3 | exact p4 | exact p5 | exact p6 | exact p7)) rfl rfl rfl (by rfl) rfl ?_ | refine OpsW.box H rfl rfl rfl fun _ _ H => ?_ | refine OpsW.alloc H rfl rfl rfl rfl fun _ _ H => ?_ | refine OpsW.str H (by (first | exact p0 | exact p1 | exact p2 | exact p3 | exact p4 | exact p5 | exact p6 | exact p7)) rfl rfl rfl rfl rfl rfl (by first | decide | (simp; done) | (simp; omega)) fun _ H => ?_ | refine OpsW.strA H (by (first | exact p0 | exact p1 | exact p2 | exact p3 | exact p4 | exact p5 | exact p6 | exact p7)) rfl rfl rfl rfl rfl rfl (by first | decide | (simp; done) | (simp; omega)) fun _ H => ?_) | (refine CW.go ?_; first | refine CW.condT rfl ?_ | refine CW.condF rfl ?_ | refine CW.seqR ?_ | refine CW.seqDc ?_ | refine CW.seqDb ?_ | refine CW.seqDl ?_ | refine CW.seqDs ?_ | refine CW.seqDk ?_ | refine CW.block ?_ | refine CW.region ?_ | refine CW.ret ?_ | refine CW.exit ?_ | refine CW.skip ?_) | refine OpsW.nil ?_)
        exact ⟨m + 1, (by (repeat (first | (with_reducible exact Agree.refl _ _) | (with_reducible refine Agree.trim (by assumption) ?_) | refine Agree.upd ?_ rfl | exact Agree.mix' | refine Agree.mixL ?_ (fun j h => by simp only [Bool.or_eq_true, Bool.and_eq_true, Nat.beq_eq, Nat.ble_eq] at h ⊢; omega) rfl))), ⟨nat_succ (n := 4) hm4 (by omega), trivial⟩, ⟨hm4, H⟩, by omega⟩
    have : m = 4 := by have := of_decide_eq_false h; omega
    subst this
    repeat' (first | (refine OpsW.go ?_; first | refine OpsW.st rfl ?_ | refine OpsW.ld H (by (first | exact p0 | exact p1 | exact p2 | exact p3 | exact p4 | exact p5 | exact p6 | exact p7)) rfl rfl rfl rfl (by rfl) rfl ?_ | refine OpsW.ldA H (by (first | exact p0 | exact p1 | exact p2 | exact p3 | exact p4 | exact p5 | exact p6 | exact p7)) rfl rfl rfl (by rfl) rfl ?_ | refine OpsW.box H rfl rfl rfl fun _ _ H => ?_ | refine OpsW.alloc H rfl rfl rfl rfl fun _ _ H => ?_ | refine OpsW.str H (by (first | exact p0 | exact p1 | exact p2 | exact p3 | exact p4 | exact p5 | exact p6 | exact p7)) rfl rfl rfl rfl rfl rfl (by first | decide | (simp; done) | (simp; omega)) fun _ H => ?_ | refine OpsW.strA H (by (first | exact p0 | exact p1 | exact p2 | exact p3 | exact p4 | exact p5 | exact p6 | exact p7)) rfl rfl rfl rfl rfl rfl (by first | decide | (simp; done) | (simp; omega)) fun _ H => ?_) | (refine CW.go ?_; first | refine CW.condT rfl ?_ | refine CW.condF rfl ?_ | refine CW.seqR ?_ | refine CW.seqDc ?_ | refine CW.seqDb ?_ | refine CW.seqDl ?_ | refine CW.seqDs ?_ | refine CW.seqDk ?_ | refine CW.block ?_ | refine CW.region ?_ | refine CW.ret ?_ | refine CW.exit ?_ | refine CW.skip ?_) | refine OpsW.nil ?_)
    exact ⟨(i + 1, h2), (by (repeat (first | (with_reducible exact Agree.refl _ _) | (with_reducible refine Agree.trim (by assumption) ?_) | refine Agree.upd ?_ rfl | exact Agree.mix' | refine Agree.mixL ?_ (fun j h => by simp only [Bool.or_eq_true, Bool.and_eq_true, Nat.beq_eq, Nat.ble_eq] at h ⊢; omega) rfl))), ⟨nat_succ (n := l.length) hil (by omega), trivial⟩, ⟨⟨hil, hb2⟩, by rw [show 4 * (i + 1) = 4 * i + 4 by omega]; exact H⟩, by show l.length - (i + 1) < l.length - i; omega⟩
  have : i = l.length := by have := of_decide_eq_false h; have h4 : ¬ (i : Int) < l.length := this; omega
  subst this
  repeat' (first | (refine OpsW.go ?_; first | refine OpsW.st rfl ?_ | refine OpsW.ld H (by (first | exact p0 | exact p1 | exact p2 | exact p3 | exact p4 | exact p5 | exact p6 | exact p7)) rfl rfl rfl rfl (by rfl) rfl ?_ | refine OpsW.ldA H (by (first | exact p0 | exact p1 | exact p2 | exact p3 | exact p4 | exact p5 | exact p6 | exact p7)) rfl rfl rfl (by rfl) rfl ?_ | refine OpsW.box H rfl rfl rfl fun _ _ H => ?_ | refine OpsW.alloc H rfl rfl rfl rfl fun _ _ H => ?_ | refine OpsW.str H (by (first | exact p0 | exact p1 | exact p2 | exact p3 | exact p4 | exact p5 | exact p6 | exact p7)) rfl rfl rfl rfl rfl rfl (by first | decide | (simp; done) | (simp; omega)) fun _ H => ?_ | refine OpsW.strA H (by (first | exact p0 | exact p1 | exact p2 | exact p3 | exact p4 | exact p5 | exact p6 | exact p7)) rfl rfl rfl rfl rfl rfl (by first | decide | (simp; done) | (simp; omega)) fun _ H => ?_) | (refine CW.go ?_; first | refine CW.condT rfl ?_ | refine CW.condF rfl ?_ | refine CW.seqR ?_ | refine CW.seqDc ?_ | refine CW.seqDb ?_ | refine CW.seqDl ?_ | refine CW.seqDs ?_ | refine CW.seqDk ?_ | refine CW.block ?_ | refine CW.region ?_ | refine CW.ret ?_ | refine CW.exit ?_ | refine CW.skip ?_) | refine OpsW.nil ?_)
  exact ret1 rfl ⟨rfl, by (first | exact H | exact H.drop | exact H.d2 | exact H.d3 | exact H.d4 | exact H.d5 | exact H.d6 | exact H.d7)⟩
end Go.Proofs.YtnfefbhjdncccaaDoor.X
