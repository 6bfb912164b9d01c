/- Contracts of chapter 10 (cache): the ways, Find; conditions: none. -/
import Derived.Test.YtnfefbhjdncccaaDoorA9n
namespace Go.Proofs.YtnfefbhjdncccaaDoor.X
open Go Go.Proofs
set_option linter.unusedSimpArgs false
set_option linter.unusedVariables false
abbrev WyA := Wy × Option Addr × Nat
/-- The nodes of a way, and of all ways. -/
def wn (x : WyA) : HP := vec 3 x.2.1 x.1.ns.length x.2.2 1 (x.1.ns.map (.int .i64))
def wns (l : List WyA) : HP := stars (l.map wn)
def cacheP (bc : Nat) (size : Int) (ws : List Wy) (hits : Int) : HP := fun h => ∃ l : List WyA, ∃ a : Option Addr, ∃ cap : Nat, l.map Prod.fst = ws ∧ stars [blk bc 176 [.int .i64 size, .slice a l.length cap, .int .i64 hits], vec 186 a l.length cap 10 (l.flatMap Wy.c), wns l] h
attribute [local irreducible] CW OpsW RetW Spec blk snap DrawP AnyW AnyM AnyN bits IntKind.wrap vec arena kds nds wds pgs eA nodesP pagesP
section
variable {z w : World} {Rs As : List HP} {ads : List Addr} {bc : Nat} {size hits : Int} {ws : List Wy} {l : List WyA} {a : Option Addr} {cap : Nat}
theorem cache_open (H : Sat z w (cacheP bc size ws hits :: Rs)) : ∃ l : List WyA, ∃ a : Option Addr, ∃ cap : Nat, l.map Prod.fst = ws ∧ Sat z w (blk bc 176 [.int .i64 size, .slice a l.length cap, .int .i64 hits] :: vec 186 a l.length cap 10 (l.flatMap Wy.c) :: wns l :: Rs) := by
  obtain ⟨l, H⟩ := H.ex
  obtain ⟨a, H⟩ := H.ex
  obtain ⟨cap, H⟩ := H.ex
  obtain ⟨e, H⟩ := H.and_
  exact ⟨l, a, cap, e, H.splits⟩
theorem cache_close (H : Sat z w (blk bc 176 [.int .i64 size, .slice a l.length cap, .int .i64 hits] :: vec 186 a l.length cap 10 (l.flatMap Wy.c) :: wns l :: Rs)) : Sat z w (cacheP bc size (l.map Prod.fst) hits :: Rs) :=
  (Sat.joins (m := [blk bc 176 [.int .i64 size, .slice a l.length cap, .int .i64 hits], vec 186 a l.length cap 10 (l.flatMap Wy.c), wns l]) H).imp fun h e => ⟨l, a, cap, rfl, e⟩
theorem wns_tail : Sat z w (wns l :: As) → Sat z w (wns l.tail :: As) := by
  intro H
  cases l with
  | nil => exact H
  | cons x l => exact Sat.drop (A := wn x) H.split
theorem wns_append {x : WyA} : ∀ {l : List WyA} {As : List HP}, Sat z w (wns l :: wn x :: As) → Sat z w (wns (l ++ [x]) :: As) := by
  intro l As H
  have : wns (l ++ [x]) = star (wns l) (wn x) := by
    unfold wns
    rw [List.map_append, stars_append]
    show star _ (star (wn x) emp) = _
    rw [star_emp]
  rw [this]; exact H.join
theorem wyc_scal (x : WyA) : (Wy.c x).all scal = true := by
  obtain ⟨⟨⟨_, _, _, _, _⟩, _, _, ⟨_, _, _⟩⟩, _, _⟩ := x; rfl
/-- What Find gives: place, fault; the ways then; whether one was there. -/
def St.find (s : St) (size : Int) (ws : List Wy) (k : K) (addr : Int) : Plc × Nat × List Wy × Int :=
  match ws.find? (fun x => x.page == addr / 32 && x.root.same k) with
  | some x => ({ x.to with at_ := addr % 32 }, 0, ws, 1)
  | none => if (s.walk k addr).2.1 ≠ 0 then (Plc.z, (s.walk k addr).2.1, ws, 0)
    else ((s.walk k addr).1, 0, (if size ≤ ws.length then ws.tail else ws) ++ [⟨k, addr / 32, (s.walk k addr).2.2, (s.walk k addr).1⟩], 0)
variable {bn bp bs : Nat} {s : St}
theorem rot3 {A B C X Y Z : HP} {R : List HP} : (A :: B :: C :: X :: Y :: Z :: R).Perm (X :: Y :: Z :: A :: B :: C :: R) :=
  (List.perm_append_comm (l₁ := [A, B, C]) (l₂ := [X, Y, Z])).append_right R
theorem find_close {A B C T : HP} (hT : ∀ h, T h → vec 186 a l.length cap 10 (l.flatMap Wy.c) h) (H : Sat z w (A :: B :: C :: blk bc 176 [.int .i64 size, .slice a l.length cap, .int .i64 hits] :: T :: wns l :: Rs)) : Sat z w (A :: B :: C :: cacheP bc size (l.map Prod.fst) hits :: Rs) :=
  (cache_close (((((H.perm rot3).perm (.swap _ _ _)).imp hT).perm (.swap _ _ _)))).perm r1
theorem find_add {A B C S1 S2 S3 B2 : HP} {l2 : List WyA} {x : WyA} {a2 : Option Addr} {cap2 : Nat} (H : Sat z w (blk bc 176 [.int .i64 size, .slice a2 (l2.length + 1) cap2, .int .i64 hits] :: vec 186 a2 (l2.length + 1) cap2 10 (l2.flatMap Wy.c ++ Wy.c x) :: B2 :: wn x :: A :: B :: C :: S1 :: S2 :: S3 :: wns l2 :: Rs)) :
    Sat z w (A :: B :: C :: S1 :: S2 :: S3 :: cacheP bc size (l2.map Prod.fst ++ [x.1]) hits :: Rs) := by
  have e1 : (l2 ++ [x]).length = l2.length + 1 := by rw [List.length_append]; rfl
  have e2 : (l2 ++ [x]).flatMap Wy.c = l2.flatMap Wy.c ++ Wy.c x := by rw [List.flatMap_append, List.flatMap_singleton]
  have e3 : (l2 ++ [x]).map Prod.fst = l2.map Prod.fst ++ [x.1] := by rw [List.map_append]; rfl
  have H1 := wns_append (((H.perm (pS (pS p0))).drop).perm (show _ from (pS (pS p0)).trans (List.Perm.trans (pS (pS (pS (pS (pS (pS (pS (pS (pS p0))))))))) (List.Perm.refl _))))
  rw [← e1, ← e2] at H1
  rw [← e3]
  refine (cache_close (l := l2 ++ [x]) (a := a2) (cap := cap2) (H1.perm ((pS (pS p0)).symm))).perm ?_
  exact (pS (pS (pS (pS (pS (pS p0)))))).symm
theorem del_spliceN {c rest zs : List Value} {k : Nat} (hk : k ≤ c.length) (hz : zs.length = k) :
    ∃ rest' : List Value, splice (splice (c ++ rest) 0 (c.drop k)) (c.length - k) zs = c.drop k ++ rest' ∧ rest'.length = rest.length + k := by
  have h1 := splice_app (c.drop k) [] (c ++ rest) (by simp; omega)
  rw [List.nil_append, List.nil_append, List.length_nil] at h1
  have hl : ((c ++ rest).drop (c.drop k).length).length = rest.length + k := by simp; omega
  rw [h1]
  generalize (c ++ rest).drop (c.drop k).length = r at *
  have h2 := splice_app zs (c.drop k) r (by omega)
  rw [List.length_drop] at h2
  rw [h2]
  refine ⟨zs ++ r.drop zs.length, by simp, ?_⟩
  simp; omega
set_option maxHeartbeats 4000000 in
set_option maxRecDepth 20000 in
theorem delW_ (H : Sat z w (vec 186 a l.length cap 10 (l.flatMap Wy.c) :: Rs)) (h0 : 0 < l.length) (hl : l.length ≤ 1000000) :
    Spec cf 121 #[.slice a l.length cap, .int .i64 0, .int .i64 1] w fun e w' => e = .slice a l.tail.length cap ∧ Sat z w' (vec 186 a l.tail.length cap 10 (l.tail.flatMap Wy.c) :: Rs) := by
  refine enter (l := [.slice a l.length cap, .int .i64 0, .int .i64 1]) Tryd.func121 rfl rfl rfl rfl rfl ?_
  have hcap := H.vlen.2
  rcases H.vcases with ⟨b, rest, ⟨rfl, hc, hr, -⟩, H2⟩ | ⟨⟨rfl, h0, -, -⟩, -⟩
  case inr => omega
  replace H := H2
  clear H2
  have htl : l.tail.length = l.length - 1 := List.length_tail
  repeat' (first | (refine zA ?_; first | refine zB ?_ | refine zC H ?_ | refine zD H ?_ | refine zE H fun _ _ H => ?_ | refine zF H fun _ _ H => ?_ | refine zG H fun _ H => ?_ | refine zH H fun _ H => ?_) | (refine zI ?_; first | refine zJ ?_ | refine zK ?_ | refine zL ?_ | refine zM ?_ | refine zN ?_ | refine zO ?_ | refine zP ?_ | refine zQ ?_ | refine zR ?_) | refine zS ?_)
  refine OpsW.slc3 (k := 0) (j := 1) (m := l.length) rfl rfl rfl rfl rfl rfl rfl rfl rfl rfl rfl (by omega) (by omega) hcap rfl ?_
  repeat' (first | (refine zA ?_; first | refine zB ?_ | refine zC H ?_ | refine zD H ?_ | refine zE H fun _ _ H => ?_ | refine zF H fun _ _ H => ?_ | refine zG H fun _ H => ?_ | refine zH H fun _ H => ?_) | (refine zI ?_; first | refine zJ ?_ | refine zK ?_ | refine zL ?_ | refine zM ?_ | refine zN ?_ | refine zO ?_ | refine zP ?_ | refine zQ ?_ | refine zR ?_) | refine zS ?_)
  have hS : SlR (blk b 186 (l.flatMap Wy.c ++ rest) :: Rs) (.slice (some ⟨b, 0, none⟩) l.length cap) 10 l.length (l.flatMap Wy.c) := SlR.of_blk hc hcap
  have hS2 := hS.from_ (k := 1) (by omega)
  (first | refine CW.drawN mo H fun w H => ?_ | refine CW.seqDrawN mo H fun w H => ?_)
  repeat' (first | refine AnyN.take (i := 0) rfl rfl rfl (by decide +kernel) ?_ | refine AnyN.take (i := 1) rfl rfl rfl (by decide +kernel) ?_ | refine AnyN.take (i := 2) rfl rfl rfl (by decide +kernel) ?_ | refine AnyN.take (i := 3) rfl rfl rfl (by decide +kernel) ?_ | refine AnyN.take (i := 4) rfl rfl rfl (by decide +kernel) ?_ | refine AnyN.take (i := 5) rfl rfl rfl (by decide +kernel) ?_ | refine AnyN.take (i := 6) rfl rfl rfl (by decide +kernel) ?_ | refine AnyN.take (i := 7) rfl rfl rfl (by decide +kernel) ?_ | refine AnyN.take (i := 8) rfl rfl rfl (by decide +kernel) ?_ | refine AnyN.take (i := 9) rfl rfl rfl (by decide +kernel) ?_ | refine AnyN.take (i := 10) rfl rfl rfl (by decide +kernel) ?_ | refine AnyN.take (i := 11) rfl rfl rfl (by decide +kernel) ?_ | refine AnyN.take (i := 12) rfl rfl rfl (by decide +kernel) ?_ | refine AnyN.take (i := 13) rfl rfl rfl (by decide +kernel) ?_ | refine AnyN.take (i := 14) rfl rfl rfl (by decide +kernel) ?_ | refine AnyN.take (i := 15) rfl rfl rfl (by decide +kernel) ?_ | refine AnyN.take (i := 16) rfl rfl rfl (by decide +kernel) ?_ | refine AnyN.take (i := 17) rfl rfl rfl (by decide +kernel) ?_ | refine AnyN.take (i := 18) rfl rfl rfl (by decide +kernel) ?_ | refine AnyN.take (i := 19) rfl rfl rfl (by decide +kernel) ?_ | refine AnyN.take (i := 20) rfl rfl rfl (by decide +kernel) ?_ | refine AnyN.take (i := 21) rfl rfl rfl (by decide +kernel) ?_ | refine AnyN.take (i := 22) rfl rfl rfl (by decide +kernel) ?_ | refine AnyN.take (i := 23) rfl rfl rfl (by decide +kernel) ?_ | refine AnyN.take (i := 24) rfl rfl rfl (by decide +kernel) ?_ | refine AnyN.take (i := 25) rfl rfl rfl (by decide +kernel) ?_ | refine AnyN.take (i := 26) rfl rfl rfl (by decide +kernel) ?_ | refine AnyN.take (i := 27) rfl rfl rfl (by decide +kernel) ?_)
  repeat' (first | exact AllI.nil' rfl | refine AllI.cons' rfl rfl ?_ ?_ | refine AnyN.step rfl rfl ?_ | (first | (refine zA ?_; first | refine zB ?_ | refine zC H ?_ | refine zD H ?_ | refine zE H fun _ _ H => ?_ | refine zF H fun _ _ H => ?_ | refine zG H fun _ H => ?_ | refine zH H fun _ H => ?_) | (refine zI ?_; first | refine zJ ?_ | refine zK ?_ | refine zL ?_ | refine zM ?_ | refine zN ?_ | refine zO ?_ | refine zP ?_ | refine zQ ?_ | refine zR ?_) | refine zS ?_) | refine OpsW.slcT (k := 0) rfl rfl rfl rfl rfl rfl (by omega) rfl ?_ | refine OpsW.slcF (sz := 10) (k := 1) rfl rfl rfl rfl rfl rfl rfl (by omega) hcap rfl ?_ | refine OpsW.appIn H p0 hS2 (by rw [List.all_eq_true]; intro x hx; have := List.mem_of_mem_drop hx; obtain ⟨y, _, h⟩ := List.mem_flatMap.1 this; exact List.all_eq_true.1 (wyc_scal y) x h) (by omega) (by rw [List.length_append, hc]; omega) rfl rfl rfl rfl rfl rfl rfl fun w H => ?_)
  all_goals
    refine AnyN.done rfl ?_
    repeat' (first | (refine zA ?_; first | refine zB ?_ | refine zC H ?_ | refine zD H ?_ | refine zE H fun _ _ H => ?_ | refine zF H fun _ _ H => ?_ | refine zG H fun _ H => ?_ | refine zH H fun _ H => ?_) | (refine zI ?_; first | refine zJ ?_ | refine zK ?_ | refine zL ?_ | refine zM ?_ | refine zN ?_ | refine zO ?_ | refine zP ?_ | refine zQ ?_ | refine zR ?_) | refine zS ?_)
    refine OpsW.slcFT (sz := 10) (k := 0 + (l.length - 1)) (j := l.length) rfl rfl rfl rfl rfl rfl rfl rfl rfl (by omega) hcap rfl ?_
    have hd : (if cap = 0 + (l.length - 1) then (some ⟨b, 0, none⟩ : Option Addr) else (some (⟨b, 0, none⟩ : Addr)).map (·.add ((0 + (l.length - 1)) * 10))) = some ⟨b, (l.length - 1) * 10, none⟩ := by
      rw [if_neg (by omega)]
      simp only [Option.map_some, add_off, Nat.zero_add]
    repeat' (first | (refine zA ?_; first | refine zB ?_ | refine zC H ?_ | refine zD H ?_ | refine zE H fun _ _ H => ?_ | refine zF H fun _ _ H => ?_ | refine zG H fun _ H => ?_ | refine zH H fun _ H => ?_) | (refine zI ?_; first | refine zJ ?_ | refine zK ?_ | refine zL ?_ | refine zM ?_ | refine zN ?_ | refine zO ?_ | refine zP ?_ | refine zQ ?_ | refine zR ?_) | refine zS ?_)
    refine OpsW.clr (sz := 10) (off := (l.length - 1) * 10) (n := l.length - (0 + (l.length - 1))) H p0 (fun _ => ?_) rfl (congrArg (fun a => Value.slice a _ _) hd) rfl rfl rfl rfl rfl fun w zs hz1 hz2 H => ?_
    · rw [splice_length, List.length_append, hc]; omega
    repeat' (first | (refine zA ?_; first | refine zB ?_ | refine zC H ?_ | refine zD H ?_ | refine zE H fun _ _ H => ?_ | refine zF H fun _ _ H => ?_ | refine zG H fun _ H => ?_ | refine zH H fun _ H => ?_) | (refine zI ?_; first | refine zJ ?_ | refine zK ?_ | refine zL ?_ | refine zM ?_ | refine zN ?_ | refine zO ?_ | refine zP ?_ | refine zQ ?_ | refine zR ?_) | refine zS ?_)
    obtain ⟨rest', e1, e2⟩ := del_spliceN (c := l.flatMap Wy.c) (rest := rest) (zs := zs) (k := 10) (by omega) (by rw [hz1]; omega)
    have hdt : (l.flatMap Wy.c).drop 10 = l.tail.flatMap Wy.c := by
      cases l with
      | nil => exact absurd h0 (by decide)
      | cons x l =>
        rw [List.flatMap_cons]
        have := Wy.c_len x
        rw [← this, List.drop_left]; rfl
    rw [hc, show l.length * 10 - 10 = (l.length - 1) * 10 by omega, hdt] at e1
    refine ret1 (v := .slice (some ⟨b, 0, none⟩) (0 + (l.length - 1)) cap) rfl ⟨by rw [htl, Nat.zero_add], ?_⟩
    refine H.imp fun h e => vec_blk (rest := rest') ?_ (by rw [fl_length Wy.c 10 Wy.c_len]) (by rw [e2, hr, htl]; omega) (by omega)
    rw [← e1]
    rw [show 0 + 0 * 10 = 0 from rfl, show 1 * 10 = 10 from rfl, hdt] at e
    exact e
set_option maxHeartbeats 4000000 in
set_option maxRecDepth 20000 in
theorem cache_find (H : Sat z w (blk bs 38 [.pointer (some ⟨bn, 0, none⟩), .pointer (some ⟨bp, 0, none⟩)] :: nodesP bn s :: pagesP bp s :: cacheP bc size ws hits :: Rs)) (hs : s.ok) (k : K) (addr : Int) (hd : 0 ≤ k.data) (hk : ∀ a c, 0 ≤ (s.nd a c).data) (ha : 0 ≤ addr) (ha2 : addr < 4294967296)
    (hs1 : 1 ≤ size) (hsz : size ≤ 64) (hws : (ws.length : Int) ≤ size) (hh0 : 0 ≤ hits) (hh : hits ≤ 1000000) :
    Spec cf 93 #[.pointer (some ⟨bc, 0, none⟩), .pointer (some ⟨bs, 0, none⟩), k.v, .int .u32 addr] w fun e w' => e = .tuple #[(s.find size ws k addr).1.v, .int .i64 (s.find size ws k addr).2.1] ∧ Sat z w' (blk bs 38 [.pointer (some ⟨bn, 0, none⟩), .pointer (some ⟨bp, 0, none⟩)] :: nodesP bn s :: pagesP bp s :: cacheP bc size (s.find size ws k addr).2.2.1 (hits + (s.find size ws k addr).2.2.2) :: Rs) := by
  obtain ⟨l, a, cap, rfl, H2⟩ := cache_open (H.perm (pS (pS (pS p0))))
  obtain ⟨T, hT, hS, H3⟩ := (H2.perm (pS p0)).vopen
  replace H := H3.perm (pS p0)
  clear H2 H3
  have hwc : (l.flatMap Wy.c).length = l.length * 10 := fl_length Wy.c 10 Wy.c_len l
  rw [List.length_map] at hws
  refine enter (l := [.pointer (some ⟨bc, 0, none⟩), .pointer (some ⟨bs, 0, none⟩), k.v, .int .u32 addr]) Tryd.func93 rfl rfl rfl rfl rfl ?_
  repeat' (first | (refine zA ?_; first | refine zB ?_ | refine zC H ?_ | refine zD H ?_ | refine zE H fun _ _ H => ?_ | refine zF H fun _ _ H => ?_ | refine zG H fun _ H => ?_ | refine zH H fun _ H => ?_) | (refine zI ?_; first | refine zJ ?_ | refine zK ?_ | refine zL ?_ | refine zM ?_ | refine zN ?_ | refine zO ?_ | refine zP ?_ | refine zQ ?_ | refine zR ?_) | refine zS ?_)
  rename_i bk _ _ bz _
  rw [show IntKind.wrap .u32 (addr.tdiv 32) = addr / 32 by rw [Int.tdiv_eq_ediv_of_nonneg ha, wrapu32]; omega, show addr.tmod 32 = addr % 32 from Int.tmod_eq_emod_of_nonneg ha]
  obtain ⟨q, hq⟩ : ∃ q, q = fun x : WyA => x.1.page == addr / 32 && x.1.root.same k := ⟨_, rfl⟩
  have hfind : ∀ r : Option WyA, l.find? q = r → (l.map Prod.fst).find? (fun x => x.page == addr / 32 && x.root.same k) = r.map Prod.fst := fun r e => by
    rw [List.find?_map, show ((fun x : Wy => x.page == addr / 32 && x.root.same k) ∘ Prod.fst) = q from hq.symm, e]
  refine CW.loopF (X := Nat) (fun j => Nat.beq j 12 || Nat.beq j 13 || Nat.ble 26 j) (fun i => [(26, .int .i64 (i : Int))]) (fun i w => (i ≤ l.length ∧ ∀ j (hj : j < l.length), j < i → q l[j] = false) ∧ Sat z w (blk _ 54 Plc.z.l :: blk _ 43 k.l :: blk bs 38 [.pointer (some ⟨bn, 0, none⟩), .pointer (some ⟨bp, 0, none⟩)] :: nodesP bn s :: pagesP bp s :: blk bc 176 [.int .i64 size, .slice a l.length cap, .int .i64 hits] :: T :: wns l :: Rs)) (fun i => l.length - i) 0 ⟨rfl, trivial⟩ ⟨⟨Nat.zero_le _, fun j _ hj => absurd hj (Nat.not_lt_zero j)⟩, H.perm (by repeat' (first | (with_reducible exact List.Perm.refl _) | (with_reducible refine List.Perm.trans p0 (List.Perm.cons _ ?_)) | (with_reducible refine List.Perm.trans p1 (List.Perm.cons _ ?_)) | (with_reducible refine List.Perm.trans p2 (List.Perm.cons _ ?_)) | (with_reducible refine List.Perm.trans p3 (List.Perm.cons _ ?_)) | (with_reducible refine List.Perm.trans p4 (List.Perm.cons _ ?_)) | (with_reducible refine List.Perm.trans p5 (List.Perm.cons _ ?_)) | (with_reducible refine List.Perm.trans p6 (List.Perm.cons _ ?_)) | (with_reducible refine List.Perm.trans p7 (List.Perm.cons _ ?_)) | (with_reducible refine List.Perm.trans p8 (List.Perm.cons _ ?_)) | (with_reducible refine List.Perm.trans p9 (List.Perm.cons _ ?_)) | (with_reducible refine List.Perm.trans p10 (List.Perm.cons _ ?_)) | (with_reducible refine List.Perm.trans p11 (List.Perm.cons _ ?_))))⟩ ?_
  clear H
  rintro i τ w ⟨⟨hi, hne⟩, H⟩
  repeat' (first | (refine zA ?_; first | refine zB ?_ | refine zC H ?_ | refine zD H ?_ | refine zE H fun _ _ H => ?_ | refine zF H fun _ _ H => ?_ | refine zG H fun _ H => ?_ | refine zH H fun _ H => ?_) | (refine zI ?_; first | refine zJ ?_ | refine zK ?_ | refine zL ?_ | refine zM ?_ | refine zN ?_ | refine zO ?_ | refine zP ?_ | refine zQ ?_ | refine zR ?_) | refine zS ?_)
  refine CW.cond rfl (fun h => ?_) (fun h => ?_)
  · have hil : i < l.length := by have := of_decide_eq_true h; omega
    have hvs := fl_take Wy.c 10 Wy.c_len l [] i hil
    rw [List.append_nil] at hvs
    repeat' (first | (refine zA ?_; first | refine zB ?_ | refine zC H ?_ | refine zD H ?_ | refine zE H fun _ _ H => ?_ | refine zF H fun _ _ H => ?_ | refine zG H fun _ H => ?_ | refine zH H fun _ H => ?_) | (refine zI ?_; first | refine zJ ?_ | refine zK ?_ | refine zL ?_ | refine zM ?_ | refine zN ?_ | refine zO ?_ | refine zP ?_ | refine zQ ?_ | refine zR ?_) | refine zS ?_)
    refine OpsW.ixldA H (hS _).tail.tail.tail.tail.tail.tail rfl (fun _ => rfl) rfl rfl rfl rfl rfl rfl rfl rfl hil hvs rfl rfl fun pp => ?_
    repeat' (first | (refine zA ?_; first | refine zB ?_ | refine zC H ?_ | refine zD H ?_ | refine zE H fun _ _ H => ?_ | refine zF H fun _ _ H => ?_ | refine zG H fun _ H => ?_ | refine zH H fun _ H => ?_) | (refine zI ?_; first | refine zJ ?_ | refine zK ?_ | refine zL ?_ | refine zM ?_ | refine zN ?_ | refine zO ?_ | refine zP ?_ | refine zQ ?_ | refine zR ?_) | refine zS ?_)
    cases hp : (l[i].1.page == addr / 32)
    · repeat' (first | (refine zA ?_; first | refine zB ?_ | refine zC H ?_ | refine zD H ?_ | refine zE H fun _ _ H => ?_ | refine zF H fun _ _ H => ?_ | refine zG H fun _ H => ?_ | refine zH H fun _ H => ?_) | (refine zI ?_; first | refine zJ ?_ | refine zK ?_ | refine zL ?_ | refine zM ?_ | refine zN ?_ | refine zO ?_ | refine zP ?_ | refine zQ ?_ | refine zR ?_) | refine zS ?_)
      have hqi : q l[i] = false := by rw [hq]; show (l[i].1.page == addr / 32 && _) = false; rw [hp]; rfl
      refine ⟨i + 1, (by (repeat (first | (with_reducible exact Agree.refl _ _) | (with_reducible refine Agree.trim (by assumption) ?_) | refine Agree.upd ?_ rfl | exact Agree.mix' | refine Agree.mixL ?_ (fun j h => by simp only [Bool.or_eq_true, Bool.and_eq_true, Nat.beq_eq, Nat.ble_eq] at h ⊢; omega) rfl))), ⟨nat_succ hil (by omega), trivial⟩, ⟨⟨hil, fun j hj hji => ?_⟩, H.drop⟩, by omega⟩
      by_cases e : j = i
      · subst e; exact hqi
      · exact hne j hj (by omega)
    · repeat' (first | (refine zA ?_; first | refine zB ?_ | refine zC H ?_ | refine zD H ?_ | refine zE H fun _ _ H => ?_ | refine zF H fun _ _ H => ?_ | refine zG H fun _ H => ?_ | refine zH H fun _ H => ?_) | (refine zI ?_; first | refine zJ ?_ | refine zK ?_ | refine zL ?_ | refine zM ?_ | refine zN ?_ | refine zO ?_ | refine zP ?_ | refine zQ ?_ | refine zR ?_) | refine zS ?_)
      refine OpsW.call rfl rfl rfl (csame_ H l[i].1.root k) ?_
      rintro _ w ⟨rfl, H⟩
      cases hsm : l[i].1.root.same k
      · repeat' (first | (refine zA ?_; first | refine zB ?_ | refine zC H ?_ | refine zD H ?_ | refine zE H fun _ _ H => ?_ | refine zF H fun _ _ H => ?_ | refine zG H fun _ H => ?_ | refine zH H fun _ H => ?_) | (refine zI ?_; first | refine zJ ?_ | refine zK ?_ | refine zL ?_ | refine zM ?_ | refine zN ?_ | refine zO ?_ | refine zP ?_ | refine zQ ?_ | refine zR ?_) | refine zS ?_)
        have hqi : q l[i] = false := by rw [hq]; show (_ && l[i].1.root.same k) = false; rw [hsm, Bool.and_false]
        refine ⟨i + 1, (by (repeat (first | (with_reducible exact Agree.refl _ _) | (with_reducible refine Agree.trim (by assumption) ?_) | refine Agree.upd ?_ rfl | exact Agree.mix' | refine Agree.mixL ?_ (fun j h => by simp only [Bool.or_eq_true, Bool.and_eq_true, Nat.beq_eq, Nat.ble_eq] at h ⊢; omega) rfl))), ⟨nat_succ hil (by omega), trivial⟩, ⟨⟨hil, fun j hj hji => ?_⟩, H.drop⟩, by omega⟩
        by_cases e : j = i
        · subst e; exact hqi
        · exact hne j hj (by omega)
      · have hfo : l.find? q = some l[i] := by
          rw [List.find?_eq_some_iff_getElem]
          exact ⟨by rw [hq]; show (l[i].1.page == addr / 32 && l[i].1.root.same k) = true; rw [hp, hsm]; rfl, i, hil, rfl, fun j hj => by rw [hne j (by omega) hj]; rfl⟩
        have hF : s.find size (l.map Prod.fst) k addr = ({ l[i].1.to with at_ := addr % 32 }, 0, l.map Prod.fst, 1) := by
          rw [St.find, hfind _ hfo]; rfl
        rw [hF]
        repeat' (first | (refine zA ?_; first | refine zB ?_ | refine zC H ?_ | refine zD H ?_ | refine zE H fun _ _ H => ?_ | refine zF H fun _ _ H => ?_ | refine zG H fun _ H => ?_ | refine zH H fun _ H => ?_) | (refine zI ?_; first | refine zJ ?_ | refine zK ?_ | refine zL ?_ | refine zM ?_ | refine zN ?_ | refine zO ?_ | refine zP ?_ | refine zQ ?_ | refine zR ?_) | refine zS ?_)
        rw [wrap64_id (n := hits + 1) (by omega) (by omega)]
        rw [wrap64_id (n := addr % 32) (by omega) (by omega)]
        rw [wrap64_id (n := hits + 1) (by omega) (by omega)] at H
        refine OpsW.str H p0 rfl rfl rfl rfl rfl rfl (by show 1 < 3; decide) fun w H => ?_
        repeat' (first | (refine zA ?_; first | refine zB ?_ | refine zC H ?_ | refine zD H ?_ | refine zE H fun _ _ H => ?_ | refine zF H fun _ _ H => ?_ | refine zG H fun _ H => ?_ | refine zH H fun _ H => ?_) | (refine zI ?_; first | refine zJ ?_ | refine zK ?_ | refine zL ?_ | refine zM ?_ | refine zN ?_ | refine zO ?_ | refine zP ?_ | refine zQ ?_ | refine zR ?_) | refine zS ?_)
        refine ret2c (resA H (by (first | exact p0 | exact p1 | exact p2 | exact p3 | exact p4 | exact p5 | exact p6 | exact p7)) rfl rfl (by rfl)) rfl ⟨rfl, ?_⟩
        replace H : Sat z _ (blk bc 176 [.int .i64 size, .slice a l.length cap, .int .i64 (hits + 1)] :: _ :: _ :: blk bs 38 [.pointer (some ⟨bn, 0, none⟩), .pointer (some ⟨bp, 0, none⟩)] :: nodesP bn s :: pagesP bp s :: T :: wns l :: Rs) := H.drop.drop
        exact find_close (hits := hits + 1) hT ((((H.perm (pS (pS p0))).drop.perm (pS p0)).drop).perm ((pS (pS (pS p0))).symm))
  · have hil : i = l.length := by have := of_decide_eq_false h; omega
    subst hil
    have hno : l.find? q = none := by
      rw [List.find?_eq_none]
      intro x hx
      obtain ⟨j, hj, rfl⟩ := List.mem_iff_getElem.1 hx
      rw [hne j hj hj]; decide
    have hno2 := hfind _ hno
    repeat' (first | (refine zA ?_; first | refine zB ?_ | refine zC H ?_ | refine zD H ?_ | refine zE H fun _ _ H => ?_ | refine zF H fun _ _ H => ?_ | refine zG H fun _ H => ?_ | refine zH H fun _ H => ?_) | (refine zI ?_; first | refine zJ ?_ | refine zK ?_ | refine zL ?_ | refine zM ?_ | refine zN ?_ | refine zO ?_ | refine zP ?_ | refine zQ ?_ | refine zR ?_) | refine zS ?_)
    refine OpsW.call rfl rfl rfl (via H (by exact r2) fun H => walk_ H hs k addr hd hk ha ha2) ?_
    rintro _ w ⟨rfl, H⟩
    by_cases hf : (s.walk k addr).2.1 = 0
    · have hF : s.find size (l.map Prod.fst) k addr = ((s.walk k addr).1, 0, (if size ≤ (l.map Prod.fst).length then (l.map Prod.fst).tail else l.map Prod.fst) ++ [⟨k, addr / 32, (s.walk k addr).2.2, (s.walk k addr).1⟩], 0) := by
        rw [St.find, hno2]; exact if_neg (by simp [hf])
      rw [hF, hf]
      repeat' (first | (refine zA ?_; first | refine zB ?_ | refine zC H ?_ | refine zD H ?_ | refine zE H fun _ _ H => ?_ | refine zF H fun _ _ H => ?_ | refine zG H fun _ H => ?_ | refine zH H fun _ H => ?_) | refine zS ?_)
      rename_i bt _ _ _
      refine CW.seqDs ?_
      refine CW.seqR ?_
      repeat' (first | (refine zA ?_; first | refine zB ?_ | refine zC H ?_ | refine zD H ?_ | refine zE H fun _ _ H => ?_ | refine zF H fun _ _ H => ?_ | refine zG H fun _ H => ?_ | refine zH H fun _ H => ?_) | refine zS ?_)
      refine CW.condF rfl ?_
      refine CW.skip ?_
      obtain ⟨l2, hl2⟩ : ∃ l2, l2 = if size ≤ (l.length : Int) then l.tail else l := ⟨_, rfl⟩
      refine CW.join (X := Unit) (fun j => Nat.ble 65 j) (fun _ => []) (fun _ w => Sat z w (blk bt 54 (s.walk k addr).1.l :: blk bz 54 Plc.z.l :: blk bk 43 k.l :: blk bs 38 [.pointer (some ⟨bn, 0, none⟩), .pointer (some ⟨bp, 0, none⟩)] :: nodesP bn s :: pagesP bp s :: blk bc 176 [.int .i64 size, .slice a l2.length cap, .int .i64 hits] :: vec 186 a l2.length cap 10 (l2.flatMap Wy.c) :: wns l2 :: Rs)) ?_ ?_
      · (first | refine CW.seqDraw mo H [0, 1, 3, 7, 15, 0, 32, 96, 224, 511] fun w H => ?_ | refine CW.draw mo H [0, 1, 3, 7, 15, 0, 32, 96, 224, 511] fun w H => ?_); refine AnyW.seg (m := 10) (by kernel_rfl) (by kernel_rfl) H rfl ?_
        repeat' (first | (refine DrawP.nil ?_; intro w H) | (refine DrawP.go ?_; first | refine DrawP.cons rfl (fun τ w H => OpsW.st rfl (OpsW.nil ⟨rfl, H⟩)) ?_ | refine DrawP.cons rfl (fun τ w H => OpsW.ld H (by (first | exact p0 | exact p1 | exact p2 | exact p3 | exact p4 | exact p5 | exact p6 | exact p7)) rfl rfl rfl rfl (by rfl) rfl (OpsW.nil ⟨rfl, H⟩)) ?_ | refine DrawP.cons rfl (fun τ w H => OpsW.ldA H (by (first | exact p0 | exact p1 | exact p2 | exact p3 | exact p4 | exact p5 | exact p6 | exact p7)) rfl rfl rfl (by rfl) rfl (OpsW.nil ⟨rfl, H⟩)) ?_) | refine DrawP.split (fun h => ?_) (fun h => ?_))
        refine AnyW.done ?_
        repeat' (first | (refine zA ?_; first | refine zB ?_ | refine zC H ?_ | refine zD H ?_ | refine zE H fun _ _ H => ?_ | refine zF H fun _ _ H => ?_ | refine zG H fun _ H => ?_ | refine zH H fun _ H => ?_) | refine zS ?_)
        by_cases hle : size ≤ (l.length : Int)
        · rw [if_pos hle] at hl2
          subst hl2
          refine CW.cond rfl (fun _ => ?_) (fun h' => absurd (of_decide_eq_false h') (by omega))
          repeat' (first | (refine zA ?_; first | refine zB ?_ | refine zC H ?_ | refine zD H ?_ | refine zE H fun _ _ H => ?_ | refine zF H fun _ _ H => ?_ | refine zG H fun _ H => ?_ | refine zH H fun _ H => ?_) | (refine zI ?_; first | refine zJ ?_ | refine zK ?_ | refine zL ?_ | refine zM ?_ | refine zN ?_ | refine zO ?_ | refine zP ?_ | refine zQ ?_ | refine zR ?_) | refine zS ?_)
          have h0 : 0 < l.length := by omega
          refine OpsW.call rfl rfl rfl (delW_ ((H.perm (pS (pS (pS (pS (pS (pS (pS p0)))))))).imp hT) h0 (by omega)) ?_
          rintro _ w ⟨rfl, H⟩
          repeat' (first | (refine zA ?_; first | refine zB ?_ | refine zC H ?_ | refine zD H ?_ | refine zE H fun _ _ H => ?_ | refine zF H fun _ _ H => ?_ | refine zG H fun _ H => ?_ | refine zH H fun _ H => ?_) | (refine zI ?_; first | refine zJ ?_ | refine zK ?_ | refine zL ?_ | refine zM ?_ | refine zN ?_ | refine zO ?_ | refine zP ?_ | refine zQ ?_ | refine zR ?_) | refine zS ?_)
          refine ⟨(), (by (repeat (first | (with_reducible exact Agree.refl _ _) | (with_reducible refine Agree.trim (by assumption) ?_) | refine Agree.upd ?_ rfl | exact Agree.mix' | refine Agree.mixL ?_ (fun j h => by simp only [Bool.or_eq_true, Bool.and_eq_true, Nat.beq_eq, Nat.ble_eq] at h ⊢; omega) rfl))), trivial, ?_⟩
          exact (wns_tail (H.perm (pS (pS (pS (pS (pS (pS (pS (pS p0)))))))))).perm (by repeat' (first | (with_reducible exact List.Perm.refl _) | (with_reducible refine List.Perm.trans p0 (List.Perm.cons _ ?_)) | (with_reducible refine List.Perm.trans p1 (List.Perm.cons _ ?_)) | (with_reducible refine List.Perm.trans p2 (List.Perm.cons _ ?_)) | (with_reducible refine List.Perm.trans p3 (List.Perm.cons _ ?_)) | (with_reducible refine List.Perm.trans p4 (List.Perm.cons _ ?_)) | (with_reducible refine List.Perm.trans p5 (List.Perm.cons _ ?_)) | (with_reducible refine List.Perm.trans p6 (List.Perm.cons _ ?_)) | (with_reducible refine List.Perm.trans p7 (List.Perm.cons _ ?_)) | (with_reducible refine List.Perm.trans p8 (List.Perm.cons _ ?_)) | (with_reducible refine List.Perm.trans p9 (List.Perm.cons _ ?_)) | (with_reducible refine List.Perm.trans p10 (List.Perm.cons _ ?_)) | (with_reducible refine List.Perm.trans p11 (List.Perm.cons _ ?_))))
        · rw [if_neg hle] at hl2
          subst hl2
          refine CW.cond rfl (fun h' => absurd (of_decide_eq_true h') (by omega)) (fun _ => ?_)
          repeat' (first | (refine zA ?_; first | refine zB ?_ | refine zC H ?_ | refine zD H ?_ | refine zE H fun _ _ H => ?_ | refine zF H fun _ _ H => ?_ | refine zG H fun _ H => ?_ | refine zH H fun _ H => ?_) | (refine zI ?_; first | refine zJ ?_ | refine zK ?_ | refine zL ?_ | refine zM ?_ | refine zN ?_ | refine zO ?_ | refine zP ?_ | refine zQ ?_ | refine zR ?_) | refine zS ?_)
          refine ⟨(), (by (repeat (first | (with_reducible exact Agree.refl _ _) | (with_reducible refine Agree.trim (by assumption) ?_) | refine Agree.upd ?_ rfl | exact Agree.mix' | refine Agree.mixL ?_ (fun j h => by simp only [Bool.or_eq_true, Bool.and_eq_true, Nat.beq_eq, Nat.ble_eq] at h ⊢; omega) rfl))), trivial, ?_⟩
          exact (((H.perm (pS (pS (pS (pS (pS (pS (pS p0)))))))).imp hT).perm (pS (pS (pS (pS (pS (pS (pS p0))))))).symm)
      clear H
      rintro _ τ2 w H
      have hl2n : l2.length ≤ 64 := by
        rw [hl2]
        split
        · rw [List.length_tail]; omega
        · omega
      have hnodes : ∀ {w : World}, Sat z w (blk bt 54 (s.walk k addr).1.l :: blk bz 54 Plc.z.l :: blk bk 43 k.l :: blk bs 38 [.pointer (some ⟨bn, 0, none⟩), .pointer (some ⟨bp, 0, none⟩)] :: nodesP bn s :: pagesP bp s :: blk bc 176 [.int .i64 size, .slice a l2.length cap, .int .i64 hits] :: vec 186 a l2.length cap 10 (l2.flatMap Wy.c) :: wns l2 :: Rs) → Spec cf 122 #[.pointer (some ⟨bs, 0, none⟩), k.v, .int .u32 addr] w fun e w' => ∃ an cn, e = .slice an (s.walk k addr).2.2.length cn ∧ Sat z w' (vec 3 an (s.walk k addr).2.2.length cn 1 ((s.walk k addr).2.2.map (.int .i64)) :: blk bt 54 (s.walk k addr).1.l :: blk bz 54 Plc.z.l :: blk bk 43 k.l :: blk bs 38 [.pointer (some ⟨bn, 0, none⟩), .pointer (some ⟨bp, 0, none⟩)] :: nodesP bn s :: pagesP bp s :: blk bc 176 [.int .i64 size, .slice a l2.length cap, .int .i64 hits] :: vec 186 a l2.length cap 10 (l2.flatMap Wy.c) :: wns l2 :: Rs) := fun {w} H =>
        (nodes_ (H.perm r3) hs k addr hd hk ha ha2).mono fun e w h => by
          obtain ⟨an, cn, e1, H⟩ := h
          exact ⟨an, cn, e1, H.perm (by repeat' (first | (with_reducible exact List.Perm.refl _) | (with_reducible refine List.Perm.trans p0 (List.Perm.cons _ ?_)) | (with_reducible refine List.Perm.trans p1 (List.Perm.cons _ ?_)) | (with_reducible refine List.Perm.trans p2 (List.Perm.cons _ ?_)) | (with_reducible refine List.Perm.trans p3 (List.Perm.cons _ ?_)) | (with_reducible refine List.Perm.trans p4 (List.Perm.cons _ ?_)) | (with_reducible refine List.Perm.trans p5 (List.Perm.cons _ ?_)) | (with_reducible refine List.Perm.trans p6 (List.Perm.cons _ ?_)) | (with_reducible refine List.Perm.trans p7 (List.Perm.cons _ ?_)) | (with_reducible refine List.Perm.trans p8 (List.Perm.cons _ ?_)) | (with_reducible refine List.Perm.trans p9 (List.Perm.cons _ ?_)) | (with_reducible refine List.Perm.trans p10 (List.Perm.cons _ ?_)) | (with_reducible refine List.Perm.trans p11 (List.Perm.cons _ ?_))))⟩
      refine CW.join (X := Unit) (fun j => Nat.ble 65 j) (fun _ => []) (fun _ w => Sat z w (blk bt 54 (s.walk k addr).1.l :: blk bz 54 Plc.z.l :: blk bk 43 k.l :: blk bs 38 [.pointer (some ⟨bn, 0, none⟩), .pointer (some ⟨bp, 0, none⟩)] :: nodesP bn s :: pagesP bp s :: cacheP bc size (l2.map Prod.fst ++ [⟨k, addr / 32, (s.walk k addr).2.2, (s.walk k addr).1⟩]) hits :: Rs)) ?_ ?_
      · (first | refine CW.drawN mo H fun w H => ?_ | refine CW.seqDrawN mo H fun w H => ?_)
        repeat' (first | refine AnyN.take (i := 0) rfl rfl rfl (by decide +kernel) ?_ | refine AnyN.take (i := 1) rfl rfl rfl (by decide +kernel) ?_ | refine AnyN.take (i := 2) rfl rfl rfl (by decide +kernel) ?_ | refine AnyN.take (i := 3) rfl rfl rfl (by decide +kernel) ?_ | refine AnyN.take (i := 4) rfl rfl rfl (by decide +kernel) ?_ | refine AnyN.take (i := 5) rfl rfl rfl (by decide +kernel) ?_ | refine AnyN.take (i := 6) rfl rfl rfl (by decide +kernel) ?_ | refine AnyN.take (i := 7) rfl rfl rfl (by decide +kernel) ?_ | refine AnyN.take (i := 8) rfl rfl rfl (by decide +kernel) ?_ | refine AnyN.take (i := 9) rfl rfl rfl (by decide +kernel) ?_ | refine AnyN.take (i := 10) rfl rfl rfl (by decide +kernel) ?_ | refine AnyN.take (i := 11) rfl rfl rfl (by decide +kernel) ?_ | refine AnyN.take (i := 12) rfl rfl rfl (by decide +kernel) ?_ | refine AnyN.take (i := 13) rfl rfl rfl (by decide +kernel) ?_ | refine AnyN.take (i := 14) rfl rfl rfl (by decide +kernel) ?_ | refine AnyN.take (i := 15) rfl rfl rfl (by decide +kernel) ?_ | refine AnyN.take (i := 16) rfl rfl rfl (by decide +kernel) ?_ | refine AnyN.take (i := 17) rfl rfl rfl (by decide +kernel) ?_ | refine AnyN.take (i := 18) rfl rfl rfl (by decide +kernel) ?_ | refine AnyN.take (i := 19) rfl rfl rfl (by decide +kernel) ?_ | refine AnyN.take (i := 20) rfl rfl rfl (by decide +kernel) ?_ | refine AnyN.take (i := 21) rfl rfl rfl (by decide +kernel) ?_ | refine AnyN.take (i := 22) rfl rfl rfl (by decide +kernel) ?_ | refine AnyN.take (i := 23) rfl rfl rfl (by decide +kernel) ?_ | refine AnyN.take (i := 24) rfl rfl rfl (by decide +kernel) ?_ | refine AnyN.take (i := 25) rfl rfl rfl (by decide +kernel) ?_ | refine AnyN.take (i := 26) rfl rfl rfl (by decide +kernel) ?_ | refine AnyN.take (i := 27) rfl rfl rfl (by decide +kernel) ?_)
        repeat' (first | exact AllI.nil' rfl | refine AllI.cons' rfl rfl ?_ ?_ | refine AnyN.step rfl rfl ?_ | (first | (refine zA ?_; first | refine zB ?_ | refine zC H ?_ | refine zD H ?_ | refine zE H fun _ _ H => ?_ | refine zF H fun _ _ H => ?_ | refine zG H fun _ H => ?_ | refine zH H fun _ H => ?_) | (refine zI ?_; first | refine zJ ?_ | refine zK ?_ | refine zL ?_ | refine zM ?_ | refine zN ?_ | refine zO ?_ | refine zP ?_ | refine zQ ?_ | refine zR ?_) | refine zS ?_) | (refine OpsW.call rfl rfl rfl (hnodes H) ?_; rintro _ w ⟨an, cn, rfl, H⟩) | refine OpsW.bsl H rfl rfl rfl rfl rfl rfl rfl rfl fun b2 w H => ?_ | refine OpsW.vapp (n2 := 1) (c2 := Wy.c (⟨k, addr / 32, (s.walk k addr).2.2, (s.walk k addr).1⟩, _, _)) H (pS (pS (pS (pS (pS (pS (pS (pS (pS p0))))))))) (SlR.of_blk (r := []) rfl (Nat.le_refl 1)) (wyc_scal _) (by decide) (by omega) rfl rfl rfl rfl rfl rfl rfl rfl rfl fun a2 cap2 w H => ?_ | refine OpsW.str H (pS (pS (pS (pS (pS (pS (pS (pS (pS p0))))))))) rfl rfl rfl rfl rfl rfl (by show 1 < 3; decide) fun w H => ?_ | refine OpsW.ld H (pS (pS (pS (pS (pS (pS (pS (pS p0)))))))) rfl rfl rfl rfl (by rfl) rfl ?_)
        all_goals
          refine AnyN.done rfl ?_
          refine ⟨(), (by (repeat (first | (with_reducible exact Agree.refl _ _) | (with_reducible refine Agree.trim (by assumption) ?_) | refine Agree.upd ?_ rfl | exact Agree.mix' | refine Agree.mixL ?_ (fun j h => by simp only [Bool.or_eq_true, Bool.and_eq_true, Nat.beq_eq, Nat.ble_eq] at h ⊢; omega) rfl))), trivial, ?_⟩
          exact find_add H
      clear H
      rintro _ τ3 w H
      repeat' (first | (refine zA ?_; first | refine zB ?_ | refine zC H ?_ | refine zD H ?_ | refine zE H fun _ _ H => ?_ | refine zF H fun _ _ H => ?_ | refine zG H fun _ H => ?_ | refine zH H fun _ H => ?_) | (refine zI ?_; first | refine zJ ?_ | refine zK ?_ | refine zL ?_ | refine zM ?_ | refine zN ?_ | refine zO ?_ | refine zP ?_ | refine zQ ?_ | refine zR ?_) | refine zS ?_)
      refine ret2c (resA H (by (first | exact p0 | exact p1 | exact p2 | exact p3 | exact p4 | exact p5 | exact p6 | exact p7)) rfl rfl (by rfl)) rfl ⟨rfl, ?_⟩
      have e : (if size ≤ ((l.map Prod.fst).length : Int) then (l.map Prod.fst).tail else l.map Prod.fst) = l2.map Prod.fst := by
        rw [hl2, List.length_map]
        split
        · rw [List.map_tail]
        · rfl
      rw [e, Int.add_zero]
      exact H.drop.drop.drop
    · have hF : s.find size (l.map Prod.fst) k addr = (Plc.z, (s.walk k addr).2.1, l.map Prod.fst, 0) := by
        rw [St.find, hno2]; exact if_pos hf
      rw [hF]
      repeat' (first | (refine zA ?_; first | refine zB ?_ | refine zC H ?_ | refine zD H ?_ | refine zE H fun _ _ H => ?_ | refine zF H fun _ _ H => ?_ | refine zG H fun _ H => ?_ | refine zH H fun _ H => ?_) | (refine zI ?_; first | refine zJ ?_ | refine zK ?_ | refine zL ?_ | refine zM ?_ | refine zN ?_ | refine zO ?_ | refine zP ?_ | refine zQ ?_ | refine zR ?_) | refine zS ?_)
      rw [show (((s.walk k addr).2.1 : Int) != 0) = true from bne_iff_ne.2 (by omega)]
      repeat' (first | (refine zA ?_; first | refine zB ?_ | refine zC H ?_ | refine zD H ?_ | refine zE H fun _ _ H => ?_ | refine zF H fun _ _ H => ?_ | refine zG H fun _ H => ?_ | refine zH H fun _ H => ?_) | (refine zI ?_; first | refine zJ ?_ | refine zK ?_ | refine zL ?_ | refine zM ?_ | refine zN ?_ | refine zO ?_ | refine zP ?_ | refine zQ ?_ | refine zR ?_) | refine zS ?_)
      refine ret2c (resA H (by (first | exact p0 | exact p1 | exact p2 | exact p3 | exact p4 | exact p5 | exact p6 | exact p7)) rfl rfl (by rfl)) rfl ⟨rfl, ?_⟩
      rw [Int.add_zero]
      exact find_close hT H.drop.drop.drop
end
end Go.Proofs.YtnfefbhjdncccaaDoor.X
