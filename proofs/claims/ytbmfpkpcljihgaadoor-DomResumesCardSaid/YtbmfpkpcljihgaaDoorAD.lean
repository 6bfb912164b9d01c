/- Contracts of chapter 16 (dom): domains as plain data; conditions: none. -/
import Derived.Test.YtbmfpkpcljihgaaDoorA6
import Derived.Test.YtbmfpkpcljihgaaDoorA20
import Derived.Test.YtbmfpkpcljihgaaDoorA13r
import Derived.Test.YtbmfpkpcljihgaaDoorX29
namespace Go.Proofs.YtbmfpkpcljihgaaDoor.X
open Go Go.Proofs
set_option linter.unusedSimpArgs false
set_option linter.unusedVariables false
/-- A domain as plain data: registers, place, state, fault, keys, memory, meter, keeper, wait. -/
structure Dm where
  r : Nat → Int
  pc : Int
  st : Int
  ft : Int
  k : Nat → K
  mem : K
  meter : K
  keeper : K
  wait : Int
def Dm.c (d : Dm) : List Value := (X.mk 8 d.r).map (.int .u32) ++ ([.int .u32 d.pc, .int .i64 d.st, .int .i64 d.ft] ++ ((X.mk 16 d.k).flatMap K.l ++ (d.mem.l ++ (d.meter.l ++ (d.keeper.l ++ [.int .i64 d.wait])))))
def Dm.z : Dm := ⟨fun _ => 0, 0, 0, 0, fun _ => K.void, K.void, K.void, K.void, 0⟩
def Dm.n : Dm := ⟨fun _ => 0, 0, 1, 0, fun _ => K.void, K.void, K.void, K.void, 0⟩
def Dm.v (d : Dm) : Value := .agg d.c.toArray
theorem Dm.len (d : Dm) : d.c.length = 107 := rfl
theorem Dm.scl (d : Dm) : d.c.all scal = true := rfl
set_option maxRecDepth 100000 in
theorem Dm.all (d : Dm) : takeK 107 d.c some = some d.c := by kernel_rfl
theorem Dm.ldS (d : Dm) : d.c[9]? = some (.int .i64 d.st) := rfl
theorem zero107 : cf.T.zero.getD 44 [] = Dm.z.c := by kernel_rfl
theorem zero107V : (cf.T.zeroV 44).cells.toList = Dm.z.c := by kernel_rfl
def dms (N : Nat) (d : Nat → Dm) : List Value := (mk N d).flatMap Dm.c
def qps (N : Nat) (qa : Nat → Nat) : List Value := mk N fun i => .pointer (some ⟨qa i, 0, none⟩)
/-- Domains as plain data: places, domains, who waits. -/
structure Ds where
  N : Nat
  f : Nat → Pl
  d : Nat → Dm
  q : Nat → List Int
def Ds.new (N : Nat) : Ds := ⟨N, fun _ => Pl.z, fun _ => Dm.z, fun _ => []⟩
def Ds.on (s : Ds) (id : Int) : Bool := onN s.N s.f id
def Ds.make (s : Ds) (i : Nat) : Ds := { s with f := fun j => if j = i then (s.f i).take else s.f j, d := fun j => if j = i then Dm.n else s.d j }
def Ds.quit (s : Ds) (x : Int) : Ds := { s with q := fun j => (s.q j).erase x }
def Ds.callers (s : Ds) (id : Int) : List Int := if s.on id = true then s.q id.toNat else []
def Ds.setQ (s : Ds) (i : Nat) (l : List Int) : Ds := { s with q := fun j => if j = i then l else s.q j }
def Ds.wake (s : Ds) (id : Int) : Ds := if s.on id = true then s.setQ id.toNat [] else s
section
variable {N : Nat} {d : Nat → Dm} {rest : List Value}
theorem dms_len : (dms N d).length = N * 107 := by rw [dms, fl_length Dm.c 107 Dm.len, mk_length]
theorem dms_fld {i off : Nat} (hi : i < N) (ho : off < 107) : (dms N d ++ rest)[0 + i * 107 + off]? = (d i).c[off]? := by
  have := fl_get Dm.c 107 Dm.len (mk N d) rest i off (by rw [mk_length]; exact hi) ho
  rw [mk_get] at this
  rw [show 0 + i * 107 + off = i * 107 + off by omega]; exact this
theorem dms_row {i : Nat} (hi : i < N) : takeK 107 ((dms N d ++ rest).drop (0 + i * 107)) some = some (d i).c := by
  have := fl_take Dm.c 107 Dm.len (mk N d) rest i (by rw [mk_length]; exact hi)
  rw [mk_get] at this
  rw [takeK_run 107 _ _ (by rw [List.length_drop, List.length_append, dms_len]; omega), Nat.zero_add]
  exact congrArg some this
theorem dms_lay {i : Nat} (hi : i < N) (x : Dm) : splice (dms N d ++ rest) (0 + i * 107) x.c = dms N (fun j => if j = i then x else d j) ++ rest := by
  have := fl_spliceR Dm.c 107 Dm.len (mk N d) rest i (by rw [mk_length]; exact hi) x
  rw [mk_set] at this
  rw [Nat.zero_add]; exact this
theorem dms_repl (n : Nat) : repl n Dm.z.c = dms n fun _ => Dm.z := by
  rw [dms, ← mk_rep]
  induction n with
  | zero => rfl
  | succ n ih => rw [repl, ih, List.replicate_succ (n := n) (a := Dm.z), List.flatMap_cons]
theorem qps_len {qa : Nat → Nat} : (qps N qa).length = N := mk_length
theorem qps_get {qa : Nat → Nat} {i : Nat} (hi : i < N) : (qps N qa)[i]? = some (.pointer (some ⟨qa i, 0, none⟩)) := mk_get? hi
theorem qps_0 {qa : Nat → Nat} : qps 0 qa = [] := rfl
theorem mk_up {α : Type} {n : Nat} {g : Nat → α} : mk (n + 1) g = mk n g ++ [g n] := by rw [mk_add]; rfl
end
theorem qps_up {qa : Nat → Nat} {i bq : Nat} : qps (i + 1) (fun j => if j = i then bq else qa j) = qps i qa ++ [.pointer (some ⟨bq, 0, none⟩)] := by
  unfold qps
  rw [mk_up]
  dsimp only
  rw [if_pos rfl]
  congr 1
  refine mk_congr fun j hj => ?_
  rw [if_neg (by omega)]
theorem Sat.starUp {z w : World} {As : List HP} {i : Nat} {g : Nat → HP} (H : Sat z w (g i :: stars (X.mk i g) :: As)) : Sat z w (stars (X.mk (i + 1) g) :: As) := by
  have e : stars (g i :: X.mk i g) = stars (X.mk (i + 1) g) := stars_perm (by rw [mk_up]; exact List.perm_append_comm (l₁ := [g i]))
  exact H.join.eqv e
theorem Sat.star0 {z w : World} {As : List HP} {g : Nat → HP} (H : Sat z w As) : Sat z w (stars (X.mk 0 g) :: As) := H.mkemp
def qsP (N : Nat) (qa : Nat → Nat) (q : Nat → List Int) : HP := stars (mk N fun j => queue (qa j) (q j))
def domP (bd : Nat) (s : Ds) : HP := fun h => ∃ ba : Nat, ∃ b : Nat, ∃ bc : Nat, ∃ cap : Nat, ∃ ccap : Nat, ∃ rest : List Value, ∃ crest : List Value, ∃ qa : Nat → Nat, (s.N ≤ cap ∧ s.N ≤ ccap) ∧ stars [qsP s.N qa s.q, blk bd 57 [.pointer (some ⟨ba, 0, none⟩), .slice (some ⟨b, 0, none⟩) s.N cap, .slice (some ⟨bc, 0, none⟩) s.N ccap], arena ba (mk s.N s.f), blk b 44 (dms s.N s.d ++ rest), blk bc 118 (qps s.N qa ++ crest)] h
attribute [local irreducible] CW OpsW RetW Spec blk snap DrawP AnyW AnyM AnyN bits IntKind.wrap vec arena eA queue Dm.c dms qps
section
variable {z w : World} {Rs As : List HP} {bd ba b bc cap ccap N : Nat} {s : Ds} {qa : Nat → Nat} {rest crest : List Value} {q : Nat → List Int}
theorem qs_at {i : Nat} (hi : i < N) (H : Sat z w (qsP N qa q :: As)) : Sat z w (queue (qa i) (q i) :: stars ((mk N fun j => queue (qa j) (q j)).eraseIdx i) :: As) :=
  Sat.focusAt (f := fun j => queue (qa j) (q j)) hi H
theorem qs_back {i : Nat} {l : List Int} (hi : i < N) (H : Sat z w (queue (qa i) l :: stars ((mk N fun j => queue (qa j) (q j)).eraseIdx i) :: As)) : Sat z w (qsP N qa (fun j => if j = i then l else q j) :: As) := by
  have H2 := Sat.unfocusAt (f := fun j => queue (qa j) (q j)) hi H
  refine H2.eqv ?_
  unfold qsP
  congr 1
  refine mk_congr fun j _ => ?_
  by_cases e : j = i
  · subst e; simp
  · simp [e]
theorem qs_id {i : Nat} (hi : i < N) (H : Sat z w (queue (qa i) (q i) :: stars ((mk N fun j => queue (qa j) (q j)).eraseIdx i) :: As)) : Sat z w (qsP N qa q :: As) :=
  Sat.unfocusId (f := fun j => queue (qa j) (q j)) hi H
theorem qs_up {i bq : Nat} (H : Sat z w (queue bq [] :: qsP i qa (fun _ => []) :: As)) : Sat z w (qsP (i + 1) (fun j => if j = i then bq else qa j) (fun _ => []) :: As) := by
  refine Sat.starUp (g := fun j => queue (if j = i then bq else qa j) []) ?_
  rw [if_pos rfl]
  have e : mk i (fun j => queue (if j = i then bq else qa j) []) = mk i fun j => queue (qa j) [] := mk_congr fun j hj => by rw [if_neg (by omega)]
  rw [e]
  exact H
theorem qs_congr {q' : Nat → List Int} (h : ∀ j, j < N → q j = q' j) (H : Sat z w (qsP N qa q :: As)) : Sat z w (qsP N qa q' :: As) := by
  refine H.eqv ?_
  unfold qsP
  congr 1
  exact mk_congr fun j hj => by rw [h j hj]
theorem dm_over (d e : Dm) : splice d.c 0 e.c = e.c := by
  have := splice_app e.c [] d.c (by rw [Dm.len, Dm.len]; exact Nat.le_refl _)
  rw [List.nil_append, List.nil_append, List.length_nil] at this
  rw [this, List.drop_of_length_le (by rw [Dm.len, Dm.len]; exact Nat.le_refl _), List.append_nil]
theorem dom_open (H : Sat z w (domP bd s :: Rs)) : ∃ (ba b bc cap ccap : Nat) (rest crest : List Value) (qa : Nat → Nat), (s.N ≤ cap ∧ s.N ≤ ccap) ∧ Sat z w (qsP s.N qa s.q :: blk bd 57 [.pointer (some ⟨ba, 0, none⟩), .slice (some ⟨b, 0, none⟩) s.N cap, .slice (some ⟨bc, 0, none⟩) s.N ccap] :: arena ba (mk s.N s.f) :: blk b 44 (dms s.N s.d ++ rest) :: blk bc 118 (qps s.N qa ++ crest) :: Rs) := by
  obtain ⟨ba, H⟩ := H.ex
  obtain ⟨b, H⟩ := H.ex
  obtain ⟨bc, H⟩ := H.ex
  obtain ⟨cap, H⟩ := H.ex
  obtain ⟨ccap, H⟩ := H.ex
  obtain ⟨rest, H⟩ := H.ex
  obtain ⟨crest, H⟩ := H.ex
  obtain ⟨qa, H⟩ := H.ex
  obtain ⟨h, H⟩ := H.and_
  exact ⟨ba, b, bc, cap, ccap, rest, crest, qa, h, H.splits⟩
theorem dom_close (hc : s.N ≤ cap) (hcc : s.N ≤ ccap) (H : Sat z w (qsP s.N qa s.q :: blk bd 57 [.pointer (some ⟨ba, 0, none⟩), .slice (some ⟨b, 0, none⟩) s.N cap, .slice (some ⟨bc, 0, none⟩) s.N ccap] :: arena ba (mk s.N s.f) :: blk b 44 (dms s.N s.d ++ rest) :: blk bc 118 (qps s.N qa ++ crest) :: Rs)) : Sat z w (domP bd s :: Rs) :=
  (Sat.joins (m := [qsP s.N qa s.q, blk bd 57 [.pointer (some ⟨ba, 0, none⟩), .slice (some ⟨b, 0, none⟩) s.N cap, .slice (some ⟨bc, 0, none⟩) s.N ccap], arena ba (mk s.N s.f), blk b 44 (dms s.N s.d ++ rest), blk bc 118 (qps s.N qa ++ crest)]) H).imp fun h x => ⟨ba, b, bc, cap, ccap, rest, crest, qa, ⟨hc, hcc⟩, x⟩
set_option maxRecDepth 20000 in
theorem dom_new (H : Sat z w Rs) (N : Nat) (h1 : 1 ≤ N) (h2 : N ≤ 256) :
    Spec cf 11 #[.int .i64 N] w fun e w' => ∃ bd : Nat, e = .tuple #[.pointer (some ⟨bd, 0, none⟩), .nilIface] ∧ Sat z w' (domP bd (Ds.new N) :: Rs) := by
  refine enter (l := [.int .i64 N]) Tryd.func11 rfl rfl rfl rfl rfl ?_
  repeat' (first | (refine zA ?_; first | refine zB ?_ | refine zC H ?_ | refine zD H ?_ | refine zE H fun _ _ H => ?_ | refine zF H fun _ _ H => ?_ | refine zG H fun _ H => ?_ | refine zH H fun _ H => ?_) | (refine zI ?_; first | refine zJ ?_ | refine zK ?_ | refine zL ?_ | refine CW.seqDc ?_ | refine CW.seqDb ?_ | refine CW.seqDl ?_ | refine CW.seqDs ?_ | refine CW.seqDk ?_ | refine zN ?_ | refine zO ?_ | refine zP ?_ | refine zQ ?_ | refine zR ?_) | refine zS ?_)
  refine OpsW.call rfl rfl rfl (arenaN_new h1 h2 H) ?_
  rintro _ w ⟨ba, rfl, H⟩
  repeat' (first | (refine zA ?_; first | refine zB ?_ | refine zC H ?_ | refine zD H ?_ | refine zE H fun _ _ H => ?_ | refine zF H fun _ _ H => ?_ | refine zG H fun _ H => ?_ | refine zH H fun _ H => ?_) | (refine zI ?_; first | refine zJ ?_ | refine zK ?_ | refine zL ?_ | refine CW.seqDc ?_ | refine CW.seqDb ?_ | refine CW.seqDl ?_ | refine CW.seqDs ?_ | refine CW.seqDk ?_ | refine zN ?_ | refine zO ?_ | refine zP ?_ | refine zQ ?_ | refine zR ?_) | refine zS ?_)
  refine OpsW.mks H rfl rfl rfl rfl rfl (by omega) rfl rfl rfl rfl rfl fun b w H => ?_
  replace H : Sat z w (blk b 44 (repl N (cf.T.zero.getD 44 [])) :: arena ba (mk N fun _ => Pl.z) :: Rs) := H
  rw [zero107, dms_repl] at H
  repeat' (first | (refine zA ?_; first | refine zB ?_ | refine zC H ?_ | refine zD H ?_ | refine zE H fun _ _ H => ?_ | refine zF H fun _ _ H => ?_ | refine zG H fun _ H => ?_ | refine zH H fun _ H => ?_) | (refine zI ?_; first | refine zJ ?_ | refine zK ?_ | refine zL ?_ | refine CW.seqDc ?_ | refine CW.seqDb ?_ | refine CW.seqDl ?_ | refine CW.seqDs ?_ | refine CW.seqDk ?_ | refine zN ?_ | refine zO ?_ | refine zP ?_ | refine zQ ?_ | refine zR ?_) | refine zS ?_)
  rename_i bd _
  refine CW.loopF (X := Nat) (fun j => Nat.ble 21 j) (fun i => [(21, .int .i64 (i : Int))]) (fun i w => i ≤ N ∧ ∃ a cap, ∃ qa : Nat → Nat, Sat z w (blk bd 57 [.pointer (some ⟨ba, 0, none⟩), .slice (some ⟨b, 0, none⟩) N N, .slice a i cap] :: vec 118 a i cap 1 (qps i qa) :: qsP i qa (fun _ => []) :: blk b 44 (dms N fun _ => Dm.z) :: arena ba (mk N fun _ => Pl.z) :: Rs)) (fun i => N - i) 0 ⟨rfl, trivial⟩ ⟨Nat.zero_le _, none, 0, fun _ => 0, ?_⟩ ?_
  · have H2 : Sat z _ (vec 118 none 0 0 1 [] :: qsP 0 (fun _ => 0) (fun _ => []) :: blk bd 57 [.pointer (some ⟨ba, 0, none⟩), .slice (some ⟨b, 0, none⟩) N N, .slice none 0 0] :: blk b 44 (dms N fun _ => Dm.z) :: arena ba (mk N fun _ => Pl.z) :: Rs) := Sat.vnil (Sat.star0 H)
    rw [qps_0]
    exact H2.perm (by repeat' (first | (with_reducible exact List.Perm.refl _) | (with_reducible refine List.Perm.trans p0 (List.Perm.cons _ ?_)) | (with_reducible refine List.Perm.trans p1 (List.Perm.cons _ ?_)) | (with_reducible refine List.Perm.trans p2 (List.Perm.cons _ ?_)) | (with_reducible refine List.Perm.trans p3 (List.Perm.cons _ ?_)) | (with_reducible refine List.Perm.trans p4 (List.Perm.cons _ ?_)) | (with_reducible refine List.Perm.trans p5 (List.Perm.cons _ ?_)) | (with_reducible refine List.Perm.trans p6 (List.Perm.cons _ ?_)) | (with_reducible refine List.Perm.trans p7 (List.Perm.cons _ ?_)) | (with_reducible refine List.Perm.trans p8 (List.Perm.cons _ ?_)) | (with_reducible refine List.Perm.trans p9 (List.Perm.cons _ ?_)) | (with_reducible refine List.Perm.trans p10 (List.Perm.cons _ ?_)) | (with_reducible refine List.Perm.trans p11 (List.Perm.cons _ ?_))))
  clear H
  rintro i τ w ⟨hi, a, cap, qa, H⟩
  repeat' (first | (refine zA ?_; first | refine zB ?_ | refine zC H ?_ | refine zD H ?_ | refine zE H fun _ _ H => ?_ | refine zF H fun _ _ H => ?_ | refine zG H fun _ H => ?_ | refine zH H fun _ H => ?_) | (refine zI ?_; first | refine zJ ?_ | refine zK ?_ | refine zL ?_ | refine CW.seqDc ?_ | refine CW.seqDb ?_ | refine CW.seqDl ?_ | refine CW.seqDs ?_ | refine CW.seqDk ?_ | refine zN ?_ | refine zO ?_ | refine zP ?_ | refine zQ ?_ | refine zR ?_) | refine zS ?_)
  refine CW.cond rfl (fun h => ?_) (fun h => ?_)
  · have hi' : i < N := by have := of_decide_eq_true h; omega
    repeat' (first | (refine zA ?_; first | refine zB ?_ | refine zC H ?_ | refine zD H ?_ | refine zE H fun _ _ H => ?_ | refine zF H fun _ _ H => ?_ | refine zG H fun _ H => ?_ | refine zH H fun _ H => ?_) | (refine zI ?_; first | refine zJ ?_ | refine zK ?_ | refine zL ?_ | refine CW.seqDc ?_ | refine CW.seqDb ?_ | refine CW.seqDl ?_ | refine CW.seqDs ?_ | refine CW.seqDk ?_ | refine zN ?_ | refine zO ?_ | refine zP ?_ | refine zQ ?_ | refine zR ?_) | refine zS ?_)
    rename_i bq _
    refine OpsW.bsl H rfl rfl rfl rfl rfl rfl rfl rfl fun bb w H => ?_
    repeat' (first | (refine zA ?_; first | refine zB ?_ | refine zC H ?_ | refine zD H ?_ | refine zE H fun _ _ H => ?_ | refine zF H fun _ _ H => ?_ | refine zG H fun _ H => ?_ | refine zH H fun _ H => ?_) | (refine zI ?_; first | refine zJ ?_ | refine zK ?_ | refine zL ?_ | refine CW.seqDc ?_ | refine CW.seqDb ?_ | refine CW.seqDl ?_ | refine CW.seqDs ?_ | refine CW.seqDk ?_ | refine zN ?_ | refine zO ?_ | refine zP ?_ | refine zQ ?_ | refine zR ?_) | refine zS ?_)
    refine OpsW.vapp (n2 := 1) (c2 := [.pointer (some ⟨bq, 0, none⟩)]) H p3 (SlR.of_blk (r := []) rfl (Nat.le_refl 1)) rfl (by decide) (by omega) rfl rfl rfl rfl rfl rfl rfl rfl rfl fun a2 cap2 w H => ?_
    repeat' (first | (refine zA ?_; first | refine zB ?_ | refine zC H ?_ | refine zD H ?_ | refine zE H fun _ _ H => ?_ | refine zF H fun _ _ H => ?_ | refine zG H fun _ H => ?_ | refine zH H fun _ H => ?_) | (refine zI ?_; first | refine zJ ?_ | refine zK ?_ | refine zL ?_ | refine CW.seqDc ?_ | refine CW.seqDb ?_ | refine CW.seqDl ?_ | refine CW.seqDs ?_ | refine CW.seqDk ?_ | refine zN ?_ | refine zO ?_ | refine zP ?_ | refine zQ ?_ | refine zR ?_) | refine zS ?_)
    refine ⟨i + 1, (by (repeat (first | (with_reducible exact Agree.refl _ _) | (with_reducible refine Agree.trim (by assumption) ?_) | refine Agree.upd ?_ rfl | exact Agree.mix' | refine Agree.mixL ?_ (fun j h => by simp only [Bool.or_eq_true, Bool.and_eq_true, Nat.beq_eq, Nat.ble_eq] at h ⊢; omega) rfl))), ⟨nat_succ hi' (by omega), trivial⟩, ⟨hi', a2, cap2, fun j => if j = i then bq else qa j, ?_⟩, by omega⟩
    rw [qps_up]
    have H2 := (H.perm p2).drop
    have H3 := qs_up (bq := bq) (i := i) (qa := qa) (queue_new (cap := 0) (a := none) ((H2.perm p2).perm (.cons _ p2)))
    exact H3.perm (by repeat' (first | (with_reducible exact List.Perm.refl _) | (with_reducible refine List.Perm.trans p0 (List.Perm.cons _ ?_)) | (with_reducible refine List.Perm.trans p1 (List.Perm.cons _ ?_)) | (with_reducible refine List.Perm.trans p2 (List.Perm.cons _ ?_)) | (with_reducible refine List.Perm.trans p3 (List.Perm.cons _ ?_)) | (with_reducible refine List.Perm.trans p4 (List.Perm.cons _ ?_)) | (with_reducible refine List.Perm.trans p5 (List.Perm.cons _ ?_)) | (with_reducible refine List.Perm.trans p6 (List.Perm.cons _ ?_)) | (with_reducible refine List.Perm.trans p7 (List.Perm.cons _ ?_)) | (with_reducible refine List.Perm.trans p8 (List.Perm.cons _ ?_)) | (with_reducible refine List.Perm.trans p9 (List.Perm.cons _ ?_)) | (with_reducible refine List.Perm.trans p10 (List.Perm.cons _ ?_)) | (with_reducible refine List.Perm.trans p11 (List.Perm.cons _ ?_))))
  · have hiN : i = N := by have := of_decide_eq_false h; omega
    subst hiN
    repeat' (first | (refine zA ?_; first | refine zB ?_ | refine zC H ?_ | refine zD H ?_ | refine zE H fun _ _ H => ?_ | refine zF H fun _ _ H => ?_ | refine zG H fun _ H => ?_ | refine zH H fun _ H => ?_) | (refine zI ?_; first | refine zJ ?_ | refine zK ?_ | refine zL ?_ | refine CW.seqDc ?_ | refine CW.seqDb ?_ | refine CW.seqDl ?_ | refine CW.seqDs ?_ | refine CW.seqDk ?_ | refine zN ?_ | refine zO ?_ | refine zP ?_ | refine zQ ?_ | refine zR ?_) | refine zS ?_)
    rcases (H.perm p1).vcases with ⟨bc, crest, ⟨rfl, hc, hr, hcc⟩, H2⟩ | ⟨⟨rfl, h0, -, -⟩, -⟩
    · refine ret2 rfl rfl ⟨bd, rfl, dom_close (ba := ba) (b := b) (bc := bc) (s := Ds.new i) (qa := qa) (rest := []) (crest := crest) (Nat.le_refl i) hcc ?_⟩
      rw [List.append_nil]
      exact H2.perm (by repeat' (first | (with_reducible exact List.Perm.refl _) | (with_reducible refine List.Perm.trans p0 (List.Perm.cons _ ?_)) | (with_reducible refine List.Perm.trans p1 (List.Perm.cons _ ?_)) | (with_reducible refine List.Perm.trans p2 (List.Perm.cons _ ?_)) | (with_reducible refine List.Perm.trans p3 (List.Perm.cons _ ?_)) | (with_reducible refine List.Perm.trans p4 (List.Perm.cons _ ?_)) | (with_reducible refine List.Perm.trans p5 (List.Perm.cons _ ?_)) | (with_reducible refine List.Perm.trans p6 (List.Perm.cons _ ?_)) | (with_reducible refine List.Perm.trans p7 (List.Perm.cons _ ?_)) | (with_reducible refine List.Perm.trans p8 (List.Perm.cons _ ?_)) | (with_reducible refine List.Perm.trans p9 (List.Perm.cons _ ?_)) | (with_reducible refine List.Perm.trans p10 (List.Perm.cons _ ?_)) | (with_reducible refine List.Perm.trans p11 (List.Perm.cons _ ?_))))
    · omega
theorem dom_make (H : Sat z w (domP bd s :: Rs)) (hN : s.N ≤ 256) {te : TypeId} {ve : Value} (hE : GlobV Rs 3 (.iface te ve)) (i : Nat) (hi : i < s.N) (hf : (s.f i).free = true) (hb : ∀ j, j < i → (s.f j).free = false) :
    Spec cf 12 #[.pointer (some ⟨bd, 0, none⟩)] w fun e w' => e = .tuple #[.int .i64 i, .int .i64 (s.f i).ver, .nilIface] ∧ Sat z w' (domP bd (s.make i) :: Rs) := by
  obtain ⟨ba, b, bc, cap, ccap, rest, crest, qa, ⟨hc, hcc⟩, H2⟩ := dom_open H
  replace H := H2
  clear H2
  refine enter (l := [.pointer (some ⟨bd, 0, none⟩)]) Tryd.func12 rfl rfl rfl rfl rfl ?_
  repeat' (first | (refine zA ?_; first | refine zB ?_ | refine zC H ?_ | refine zD H ?_ | refine zE H fun _ _ H => ?_ | refine zF H fun _ _ H => ?_ | refine zG H fun _ H => ?_ | refine zH H fun _ H => ?_) | (refine zI ?_; first | refine zJ ?_ | refine zK ?_ | refine zL ?_ | refine CW.seqDc ?_ | refine CW.seqDb ?_ | refine CW.seqDl ?_ | refine CW.seqDs ?_ | refine CW.seqDk ?_ | refine zN ?_ | refine zO ?_ | refine zP ?_ | refine zQ ?_ | refine zR ?_) | refine zS ?_)
  refine OpsW.call rfl rfl rfl (arenaN_take (H.perm p2) hN hE.tail.tail.tail.tail i hi hf hb) ?_
  rintro _ w ⟨rfl, H⟩
  repeat' (first | (refine zA ?_; first | refine zB ?_ | refine zC H ?_ | refine zD H ?_ | refine zE H fun _ _ H => ?_ | refine zF H fun _ _ H => ?_ | refine zG H fun _ H => ?_ | refine zH H fun _ H => ?_) | (refine zI ?_; first | refine zJ ?_ | refine zK ?_ | refine zL ?_ | refine CW.seqDc ?_ | refine CW.seqDb ?_ | refine CW.seqDl ?_ | refine CW.seqDs ?_ | refine CW.seqDk ?_ | refine zN ?_ | refine zO ?_ | refine zP ?_ | refine zQ ?_ | refine zR ?_) | refine zS ?_)
  refine OpsW.ix (n := i) rfl rfl rfl rfl rfl rfl rfl hi rfl ?_
  refine OpsW.strA (vs := Dm.n.c) H p3 rfl rfl (by with_unfolding_all rfl) (Dm.scl _) rfl (Dm.len _) (by rw [List.length_append, dms_len, Dm.len]; omega) fun w H => ?_
  rw [dms_lay hi] at H
  repeat' (first | (refine zA ?_; first | refine zB ?_ | refine zC H ?_ | refine zD H ?_ | refine zE H fun _ _ H => ?_ | refine zF H fun _ _ H => ?_ | refine zG H fun _ H => ?_ | refine zH H fun _ H => ?_) | (refine zI ?_; first | refine zJ ?_ | refine zK ?_ | refine zL ?_ | refine CW.seqDc ?_ | refine CW.seqDb ?_ | refine CW.seqDl ?_ | refine CW.seqDs ?_ | refine CW.seqDk ?_ | refine zN ?_ | refine zO ?_ | refine zP ?_ | refine zQ ?_ | refine zR ?_) | refine zS ?_)
  exact ret3 rfl rfl rfl ⟨rfl, dom_close (s := s.make i) hc hcc (H.perm (by repeat' (first | (with_reducible exact List.Perm.refl _) | (with_reducible refine List.Perm.trans p0 (List.Perm.cons _ ?_)) | (with_reducible refine List.Perm.trans p1 (List.Perm.cons _ ?_)) | (with_reducible refine List.Perm.trans p2 (List.Perm.cons _ ?_)) | (with_reducible refine List.Perm.trans p3 (List.Perm.cons _ ?_)) | (with_reducible refine List.Perm.trans p4 (List.Perm.cons _ ?_)) | (with_reducible refine List.Perm.trans p5 (List.Perm.cons _ ?_)) | (with_reducible refine List.Perm.trans p6 (List.Perm.cons _ ?_)) | (with_reducible refine List.Perm.trans p7 (List.Perm.cons _ ?_)) | (with_reducible refine List.Perm.trans p8 (List.Perm.cons _ ?_)) | (with_reducible refine List.Perm.trans p9 (List.Perm.cons _ ?_)) | (with_reducible refine List.Perm.trans p10 (List.Perm.cons _ ?_)) | (with_reducible refine List.Perm.trans p11 (List.Perm.cons _ ?_)))))⟩
set_option maxRecDepth 20000 in
theorem dom_get (H : Sat z w (domP bd s :: Rs)) (hN : s.N ≤ 256) (i : Nat) (hi : i < s.N) (ht : (s.f i).there = true) :
    Spec cf 18 #[.pointer (some ⟨bd, 0, none⟩), .int .i64 i] w fun e w' => e = .tuple #[(s.d i).v, .bool true] ∧ Sat z w' (domP bd s :: Rs) := by
  obtain ⟨ba, b, bc, cap, ccap, rest, crest, qa, ⟨hc, hcc⟩, H2⟩ := dom_open H
  replace H := H2
  clear H2
  refine enter (l := [.pointer (some ⟨bd, 0, none⟩), .int .i64 i]) Tryd.func18 rfl rfl rfl rfl rfl ?_
  repeat' (first | (refine zA ?_; first | refine zB ?_ | refine zC H ?_ | refine zD H ?_ | refine zE H fun _ _ H => ?_ | refine zG H fun _ H => ?_ | refine zH H fun _ H => ?_) | (refine zI ?_; first | refine zJ ?_ | refine zK ?_ | refine zL ?_ | refine zM ?_ | refine zN ?_ | refine zO ?_ | refine zP ?_ | refine zQ ?_ | refine zR ?_) | refine zS ?_)
  refine OpsW.alloc (l := Dm.z.c) H rfl rfl ((forceL_eq _ _).trans (congrArg some zero107V)) rfl fun bl w H => ?_
  repeat' (first | (refine zA ?_; first | refine zB ?_ | refine zC H ?_ | refine zD H ?_ | refine zE H fun _ _ H => ?_ | refine zG H fun _ H => ?_ | refine zH H fun _ H => ?_) | (refine zI ?_; first | refine zJ ?_ | refine zK ?_ | refine zL ?_ | refine zM ?_ | refine zN ?_ | refine zO ?_ | refine zP ?_ | refine zQ ?_ | refine zR ?_) | refine zS ?_)
  refine OpsW.call rfl rfl rfl (arenaN_there_at (H.perm p3) hN i hi true ht) ?_
  rintro _ w ⟨rfl, H⟩
  repeat' (first | (refine zA ?_; first | refine zB ?_ | refine zC H ?_ | refine zD H ?_ | refine zE H fun _ _ H => ?_ | refine zG H fun _ H => ?_ | refine zH H fun _ H => ?_) | (refine zI ?_; first | refine zJ ?_ | refine zK ?_ | refine zL ?_ | refine zM ?_ | refine zN ?_ | refine zO ?_ | refine zP ?_ | refine zQ ?_ | refine zR ?_) | refine zS ?_)
  refine OpsW.ix (n := i) rfl rfl rfl rfl rfl rfl rfl hi rfl ?_
  refine OpsW.ldA H p4 rfl rfl rfl (dms_row hi) rfl ?_
  refine OpsW.strA (vs := (s.d i).c) H p1 rfl rfl (forceL_eq _ _) (Dm.scl _) rfl (Dm.len _) (by rw [Dm.len, Dm.len]; decide) fun w H => ?_
  rw [dm_over] at H
  repeat' (first | (refine zA ?_; first | refine zB ?_ | refine zC H ?_ | refine zD H ?_ | refine zE H fun _ _ H => ?_ | refine zG H fun _ H => ?_ | refine zH H fun _ H => ?_) | (refine zI ?_; first | refine zJ ?_ | refine zK ?_ | refine zL ?_ | refine zM ?_ | refine zN ?_ | refine zO ?_ | refine zP ?_ | refine zQ ?_ | refine zR ?_) | refine zS ?_)
  refine ret2c (resA H p0 rfl rfl (Dm.all _)) rfl ?_
  exact ⟨rfl, dom_close hc hcc (H.drop.perm (by repeat' (first | (with_reducible exact List.Perm.refl _) | (with_reducible refine List.Perm.trans p0 (List.Perm.cons _ ?_)) | (with_reducible refine List.Perm.trans p1 (List.Perm.cons _ ?_)) | (with_reducible refine List.Perm.trans p2 (List.Perm.cons _ ?_)) | (with_reducible refine List.Perm.trans p3 (List.Perm.cons _ ?_)) | (with_reducible refine List.Perm.trans p4 (List.Perm.cons _ ?_)) | (with_reducible refine List.Perm.trans p5 (List.Perm.cons _ ?_)) | (with_reducible refine List.Perm.trans p6 (List.Perm.cons _ ?_)) | (with_reducible refine List.Perm.trans p7 (List.Perm.cons _ ?_)) | (with_reducible refine List.Perm.trans p8 (List.Perm.cons _ ?_)) | (with_reducible refine List.Perm.trans p9 (List.Perm.cons _ ?_)) | (with_reducible refine List.Perm.trans p10 (List.Perm.cons _ ?_)) | (with_reducible refine List.Perm.trans p11 (List.Perm.cons _ ?_)))))⟩
set_option maxRecDepth 20000 in
theorem dom_quit (H : Sat z w (domP bd s :: Rs)) (hN : s.N ≤ 256) (x : Int) (hl : ∀ j, j < s.N → (s.q j).length ≤ 1000000) (hu : ∀ i j, i < s.N → j < s.N → x ∈ s.q i → x ∈ s.q j → i = j) :
    Spec cf 55 #[.pointer (some ⟨bd, 0, none⟩), .int .i64 x] w fun e w' => (∃ r : Bool, e = .bool r) ∧ Sat z w' (domP bd (s.quit x) :: Rs) := by
  obtain ⟨ba, b, bc, cap, ccap, rest, crest, qa, ⟨hc, hcc⟩, H2⟩ := dom_open H
  replace H := H2
  clear H2
  refine enter (l := [.pointer (some ⟨bd, 0, none⟩), .int .i64 x]) Tryd.func55 rfl rfl rfl rfl rfl ?_
  repeat' (first | (refine zA ?_; first | refine zB ?_ | refine zC H ?_ | refine zD H ?_ | refine zE H fun _ _ H => ?_ | refine zF H fun _ _ H => ?_ | refine zG H fun _ H => ?_ | refine zH H fun _ H => ?_) | (refine zI ?_; first | refine zJ ?_ | refine zK ?_ | refine zL ?_ | refine CW.seqDc ?_ | refine CW.seqDb ?_ | refine CW.seqDl ?_ | refine CW.seqDs ?_ | refine CW.seqDk ?_ | refine zN ?_ | refine zO ?_ | refine zP ?_ | refine zQ ?_ | refine zR ?_) | refine zS ?_)
  refine CW.loopF (X := Nat) (fun j => Nat.beq j 6 || Nat.ble 12 j) (fun i => [(12, .int .i64 (i : Int))]) (fun i w => (i ≤ s.N ∧ ∀ j, j < i → ¬ x ∈ s.q j) ∧ Sat z w (qsP s.N qa s.q :: blk bd 57 [.pointer (some ⟨ba, 0, none⟩), .slice (some ⟨b, 0, none⟩) s.N cap, .slice (some ⟨bc, 0, none⟩) s.N ccap] :: arena ba (mk s.N s.f) :: blk b 44 (dms s.N s.d ++ rest) :: blk bc 118 (qps s.N qa ++ crest) :: Rs)) (fun i => s.N - i) 0 ⟨rfl, trivial⟩ ⟨⟨Nat.zero_le _, fun j h => absurd h (Nat.not_lt_zero j)⟩, H⟩ ?_
  clear H
  rintro i τ w ⟨⟨hi, hne⟩, H⟩
  repeat' (first | (refine zA ?_; first | refine zB ?_ | refine zC H ?_ | refine zD H ?_ | refine zE H fun _ _ H => ?_ | refine zF H fun _ _ H => ?_ | refine zG H fun _ H => ?_ | refine zH H fun _ H => ?_) | (refine zI ?_; first | refine zJ ?_ | refine zK ?_ | refine zL ?_ | refine CW.seqDc ?_ | refine CW.seqDb ?_ | refine CW.seqDl ?_ | refine CW.seqDs ?_ | refine CW.seqDk ?_ | refine zN ?_ | refine zO ?_ | refine zP ?_ | refine zQ ?_ | refine zR ?_) | refine zS ?_)
  refine CW.cond rfl (fun h => ?_) (fun h => ?_)
  · have hi' : i < s.N := by have := of_decide_eq_true h; omega
    repeat' (first | (refine zA ?_; first | refine zB ?_ | refine zC H ?_ | refine zD H ?_ | refine zE H fun _ _ H => ?_ | refine zF H fun _ _ H => ?_ | refine zG H fun _ H => ?_ | refine zH H fun _ H => ?_) | (refine zI ?_; first | refine zJ ?_ | refine zK ?_ | refine zL ?_ | refine CW.seqDc ?_ | refine CW.seqDb ?_ | refine CW.seqDl ?_ | refine CW.seqDs ?_ | refine CW.seqDk ?_ | refine zN ?_ | refine zO ?_ | refine zP ?_ | refine zQ ?_ | refine zR ?_) | refine zS ?_)
    refine OpsW.ixld (H.perm p4) (SlR.of_blk (by rw [qps_len, Nat.mul_one]) hcc) rfl (fun _ => rfl) rfl rfl rfl rfl rfl rfl rfl rfl hi' (qps_get hi') rfl rfl fun p => ?_
    repeat' (first | (refine zA ?_; first | refine zB ?_ | refine zC H ?_ | refine zD H ?_ | refine zE H fun _ _ H => ?_ | refine zF H fun _ _ H => ?_ | refine zG H fun _ H => ?_ | refine zH H fun _ H => ?_) | (refine zI ?_; first | refine zJ ?_ | refine zK ?_ | refine zL ?_ | refine CW.seqDc ?_ | refine CW.seqDb ?_ | refine CW.seqDl ?_ | refine CW.seqDs ?_ | refine CW.seqDk ?_ | refine zN ?_ | refine zO ?_ | refine zP ?_ | refine zQ ?_ | refine zR ?_) | refine zS ?_)
    refine OpsW.call rfl rfl rfl (queue_drop (qs_at hi' H) x (hl i hi')) ?_
    rintro _ w ⟨rfl, H⟩
    by_cases hx : x ∈ s.q i
    · rw [List.contains_iff_mem.2 hx]
      repeat' (first | (refine zA ?_; first | refine zB ?_ | refine zC H ?_ | refine zD H ?_ | refine zE H fun _ _ H => ?_ | refine zF H fun _ _ H => ?_ | refine zG H fun _ H => ?_ | refine zH H fun _ H => ?_) | (refine zI ?_; first | refine zJ ?_ | refine zK ?_ | refine zL ?_ | refine CW.seqDc ?_ | refine CW.seqDb ?_ | refine CW.seqDl ?_ | refine CW.seqDs ?_ | refine CW.seqDk ?_ | refine zN ?_ | refine zO ?_ | refine zP ?_ | refine zQ ?_ | refine zR ?_) | refine zS ?_)
      refine ret1 rfl ⟨⟨true, rfl⟩, dom_close (ba := ba) (b := b) (bc := bc) (qa := qa) (rest := rest) (crest := crest) (s := s.quit x) hc hcc ?_⟩
      refine qs_congr (fun j hj => ?_) (qs_back hi' H)
      by_cases e : j = i
      · rw [if_pos e, e]; rfl
      · rw [if_neg e]; show s.q j = (s.q j).erase x; rw [List.erase_of_not_mem fun h => e (hu j i hj hi' h hx)]
    · rw [show (s.q i).contains x = false by simpa using hx]
      rw [List.erase_of_not_mem hx] at H
      replace H := qs_id hi' H
      repeat' (first | (refine zA ?_; first | refine zB ?_ | refine zC H ?_ | refine zD H ?_ | refine zE H fun _ _ H => ?_ | refine zF H fun _ _ H => ?_ | refine zG H fun _ H => ?_ | refine zH H fun _ H => ?_) | (refine zI ?_; first | refine zJ ?_ | refine zK ?_ | refine zL ?_ | refine CW.seqDc ?_ | refine CW.seqDb ?_ | refine CW.seqDl ?_ | refine CW.seqDs ?_ | refine CW.seqDk ?_ | refine zN ?_ | refine zO ?_ | refine zP ?_ | refine zQ ?_ | refine zR ?_) | refine zS ?_)
      refine ⟨i + 1, (by (repeat (first | (with_reducible exact Agree.refl _ _) | (with_reducible refine Agree.trim (by assumption) ?_) | refine Agree.upd ?_ rfl | exact Agree.mix' | refine Agree.mixL ?_ (fun j h => by simp only [Bool.or_eq_true, Bool.and_eq_true, Nat.beq_eq, Nat.ble_eq] at h ⊢; omega) rfl))), ⟨nat_succ hi' (by omega), trivial⟩, ⟨⟨hi', fun j hj => ?_⟩, H⟩, by omega⟩
      by_cases e : j = i
      · rw [e]; exact hx
      · exact hne j (by omega)
  · have hiN : i = s.N := by have := of_decide_eq_false h; omega
    repeat' (first | (refine zA ?_; first | refine zB ?_ | refine zC H ?_ | refine zD H ?_ | refine zE H fun _ _ H => ?_ | refine zF H fun _ _ H => ?_ | refine zG H fun _ H => ?_ | refine zH H fun _ H => ?_) | (refine zI ?_; first | refine zJ ?_ | refine zK ?_ | refine zL ?_ | refine CW.seqDc ?_ | refine CW.seqDb ?_ | refine CW.seqDl ?_ | refine CW.seqDs ?_ | refine CW.seqDk ?_ | refine zN ?_ | refine zO ?_ | refine zP ?_ | refine zQ ?_ | refine zR ?_) | refine zS ?_)
    refine ret1 rfl ⟨⟨false, rfl⟩, dom_close (ba := ba) (b := b) (bc := bc) (qa := qa) (rest := rest) (crest := crest) (s := s.quit x) hc hcc ?_⟩
    exact qs_congr (fun j hj => (List.erase_of_not_mem (hne j (by have : j < s.N := hj; omega))).symm) H
theorem dom_callers (H : Sat z w (domP bd s :: Rs)) (hN : s.N ≤ 256) (a : Int) (hl : ∀ j, j < s.N → (s.q j).length ≤ 1000) :
    Spec cf 16 #[.pointer (some ⟨bd, 0, none⟩), .int .i64 a] w fun e w' => ∃ ad cap, e = .slice ad (s.callers a).length cap ∧ Sat z w' (ivec ad cap (s.callers a) :: domP bd s :: Rs) := by
  obtain ⟨ba, b, bc, cap, ccap, rest, crest, qa, ⟨hc, hcc⟩, H2⟩ := dom_open H
  replace H := H2
  clear H2
  refine enter (l := [.pointer (some ⟨bd, 0, none⟩), .int .i64 a]) Tryd.func16 rfl rfl rfl rfl rfl ?_
  repeat' (first | (refine zA ?_; first | refine zB ?_ | refine zC H ?_ | refine zD H ?_ | refine zE H fun _ _ H => ?_ | refine zF H fun _ _ H => ?_ | refine zG H fun _ H => ?_ | refine zH H fun _ H => ?_) | (refine zI ?_; first | refine zJ ?_ | refine zK ?_ | refine zL ?_ | refine CW.seqDc ?_ | refine CW.seqDb ?_ | refine CW.seqDl ?_ | refine CW.seqDs ?_ | refine CW.seqDk ?_ | refine zN ?_ | refine zO ?_ | refine zP ?_ | refine zQ ?_ | refine zR ?_) | refine zS ?_)
  refine OpsW.call rfl rfl rfl (arenaN_there (H.perm p2) hN a) ?_
  rintro _ w ⟨rfl, H⟩
  cases ha : onN s.N s.f a
  · rw [show s.callers a = [] from if_neg (by show ¬ onN s.N s.f a = true; rw [ha]; decide)]
    repeat' (first | (refine zA ?_; first | refine zB ?_ | refine zC H ?_ | refine zD H ?_ | refine zE H fun _ _ H => ?_ | refine zF H fun _ _ H => ?_ | refine zG H fun _ H => ?_ | refine zH H fun _ H => ?_) | (refine zI ?_; first | refine zJ ?_ | refine zK ?_ | refine zL ?_ | refine CW.seqDc ?_ | refine CW.seqDb ?_ | refine CW.seqDl ?_ | refine CW.seqDs ?_ | refine CW.seqDk ?_ | refine zN ?_ | refine zO ?_ | refine zP ?_ | refine zQ ?_ | refine zR ?_) | refine zS ?_)
    exact ret1 rfl ⟨none, 0, rfl, Sat.vnil (dom_close (ba := ba) (b := b) (bc := bc) (qa := qa) (rest := rest) (crest := crest) hc hcc (H.perm (by repeat' (first | (with_reducible exact List.Perm.refl _) | (with_reducible refine List.Perm.trans p0 (List.Perm.cons _ ?_)) | (with_reducible refine List.Perm.trans p1 (List.Perm.cons _ ?_)) | (with_reducible refine List.Perm.trans p2 (List.Perm.cons _ ?_)) | (with_reducible refine List.Perm.trans p3 (List.Perm.cons _ ?_)) | (with_reducible refine List.Perm.trans p4 (List.Perm.cons _ ?_)) | (with_reducible refine List.Perm.trans p5 (List.Perm.cons _ ?_)) | (with_reducible refine List.Perm.trans p6 (List.Perm.cons _ ?_)) | (with_reducible refine List.Perm.trans p7 (List.Perm.cons _ ?_)) | (with_reducible refine List.Perm.trans p8 (List.Perm.cons _ ?_)) | (with_reducible refine List.Perm.trans p9 (List.Perm.cons _ ?_)) | (with_reducible refine List.Perm.trans p10 (List.Perm.cons _ ?_)) | (with_reducible refine List.Perm.trans p11 (List.Perm.cons _ ?_))))))⟩
  obtain ⟨i, rfl, hi, ht⟩ := onN_at ha
  rw [show s.callers i = s.q i from if_pos ha]
  repeat' (first | (refine zA ?_; first | refine zB ?_ | refine zC H ?_ | refine zD H ?_ | refine zE H fun _ _ H => ?_ | refine zF H fun _ _ H => ?_ | refine zG H fun _ H => ?_ | refine zH H fun _ H => ?_) | (refine zI ?_; first | refine zJ ?_ | refine zK ?_ | refine zL ?_ | refine CW.seqDc ?_ | refine CW.seqDb ?_ | refine CW.seqDl ?_ | refine CW.seqDs ?_ | refine CW.seqDk ?_ | refine zN ?_ | refine zO ?_ | refine zP ?_ | refine zQ ?_ | refine zR ?_) | refine zS ?_)
  refine OpsW.ixld (H.perm p4) (SlR.of_blk (by rw [qps_len, Nat.mul_one]) hcc) rfl (fun _ => rfl) rfl rfl rfl rfl rfl rfl rfl rfl hi (qps_get hi) rfl rfl fun p => ?_
  repeat' (first | (refine zA ?_; first | refine zB ?_ | refine zC H ?_ | refine zD H ?_ | refine zE H fun _ _ H => ?_ | refine zF H fun _ _ H => ?_ | refine zG H fun _ H => ?_ | refine zH H fun _ H => ?_) | (refine zI ?_; first | refine zJ ?_ | refine zK ?_ | refine zL ?_ | refine CW.seqDc ?_ | refine CW.seqDb ?_ | refine CW.seqDl ?_ | refine CW.seqDs ?_ | refine CW.seqDk ?_ | refine zN ?_ | refine zO ?_ | refine zP ?_ | refine zQ ?_ | refine zR ?_) | refine zS ?_)
  refine OpsW.call rfl rfl rfl (queue_all (qs_at hi (H.perm p1)) (by have := hl i hi; omega)) ?_
  rintro _ w ⟨ad, cap2, rfl, H⟩
  replace H := qs_id hi ((H.perm p1).perm (.cons _ p1))
  repeat' (first | (refine zA ?_; first | refine zB ?_ | refine zC H ?_ | refine zD H ?_ | refine zE H fun _ _ H => ?_ | refine zF H fun _ _ H => ?_ | refine zG H fun _ H => ?_ | refine zH H fun _ H => ?_) | (refine zI ?_; first | refine zJ ?_ | refine zK ?_ | refine zL ?_ | refine CW.seqDc ?_ | refine CW.seqDb ?_ | refine CW.seqDl ?_ | refine CW.seqDs ?_ | refine CW.seqDk ?_ | refine zN ?_ | refine zO ?_ | refine zP ?_ | refine zQ ?_ | refine zR ?_) | refine zS ?_)
  refine ret1 rfl ⟨ad, cap2, rfl, ?_⟩
  exact (dom_close (ba := ba) (b := b) (bc := bc) (qa := qa) (rest := rest) (crest := crest) (s := s) (Rs := ivec ad cap2 (s.q i) :: Rs) hc hcc (H.perm (by repeat' (first | (with_reducible exact List.Perm.refl _) | (with_reducible refine List.Perm.trans p0 (List.Perm.cons _ ?_)) | (with_reducible refine List.Perm.trans p1 (List.Perm.cons _ ?_)) | (with_reducible refine List.Perm.trans p2 (List.Perm.cons _ ?_)) | (with_reducible refine List.Perm.trans p3 (List.Perm.cons _ ?_)) | (with_reducible refine List.Perm.trans p4 (List.Perm.cons _ ?_)) | (with_reducible refine List.Perm.trans p5 (List.Perm.cons _ ?_)) | (with_reducible refine List.Perm.trans p6 (List.Perm.cons _ ?_)) | (with_reducible refine List.Perm.trans p7 (List.Perm.cons _ ?_)) | (with_reducible refine List.Perm.trans p8 (List.Perm.cons _ ?_)) | (with_reducible refine List.Perm.trans p9 (List.Perm.cons _ ?_)) | (with_reducible refine List.Perm.trans p10 (List.Perm.cons _ ?_)) | (with_reducible refine List.Perm.trans p11 (List.Perm.cons _ ?_)))))).perm p1
theorem dom_wake (H : Sat z w (domP bd s :: Rs)) (hN : s.N ≤ 256) (a : Int) (hl : ∀ j, j < s.N → (s.q j).length ≤ 1000) :
    Spec cf 17 #[.pointer (some ⟨bd, 0, none⟩), .int .i64 a] w fun e w' => ∃ ad cap, e = .slice ad (s.callers a).length cap ∧ Sat z w' (ivec ad cap (s.callers a) :: domP bd (s.wake a) :: Rs) := by
  refine enter (l := [.pointer (some ⟨bd, 0, none⟩), .int .i64 a]) Tryd.func17 rfl rfl rfl rfl rfl ?_
  repeat' (first | (refine zA ?_; first | refine zB ?_ | refine zC H ?_ | refine zD H ?_ | refine zE H fun _ _ H => ?_ | refine zF H fun _ _ H => ?_ | refine zG H fun _ H => ?_ | refine zH H fun _ H => ?_) | (refine zI ?_; first | refine zJ ?_ | refine zK ?_ | refine zL ?_ | refine CW.seqDc ?_ | refine CW.seqDb ?_ | refine CW.seqDl ?_ | refine CW.seqDs ?_ | refine CW.seqDk ?_ | refine zN ?_ | refine zO ?_ | refine zP ?_ | refine zQ ?_ | refine zR ?_) | refine zS ?_)
  refine OpsW.call rfl rfl rfl (dom_callers H hN a hl) ?_
  rintro _ w ⟨ad, cap0, rfl, H⟩
  repeat' (first | (refine zA ?_; first | refine zB ?_ | refine zC H ?_ | refine zD H ?_ | refine zE H fun _ _ H => ?_ | refine zF H fun _ _ H => ?_ | refine zG H fun _ H => ?_ | refine zH H fun _ H => ?_) | (refine zI ?_; first | refine zJ ?_ | refine zK ?_ | refine zL ?_ | refine CW.seqDc ?_ | refine CW.seqDb ?_ | refine CW.seqDl ?_ | refine CW.seqDs ?_ | refine CW.seqDk ?_ | refine zN ?_ | refine zO ?_ | refine zP ?_ | refine zQ ?_ | refine zR ?_) | refine zS ?_)
  cases ha : onN s.N s.f a
  · have hcal : s.callers a = [] := if_neg (by show ¬ onN s.N s.f a = true; rw [ha]; decide)
    have hw : s.wake a = s := if_neg (by show ¬ onN s.N s.f a = true; rw [ha]; decide)
    rw [hcal] at H ⊢
    rw [hw]
    repeat' (first | (refine zA ?_; first | refine zB ?_ | refine zC H ?_ | refine zD H ?_ | refine zE H fun _ _ H => ?_ | refine zF H fun _ _ H => ?_ | refine zG H fun _ H => ?_ | refine zH H fun _ H => ?_) | (refine zI ?_; first | refine zJ ?_ | refine zK ?_ | refine zL ?_ | refine CW.seqDc ?_ | refine CW.seqDb ?_ | refine CW.seqDl ?_ | refine CW.seqDs ?_ | refine CW.seqDk ?_ | refine zN ?_ | refine zO ?_ | refine zP ?_ | refine zQ ?_ | refine zR ?_) | refine zS ?_)
    refine CW.loopF (X := Nat) (fun j => Nat.beq j 7 || Nat.ble 13 j) (fun i => [(13, .int .i64 (i : Int))]) (fun i w => i = 0 ∧ Sat z w (ivec ad cap0 [] :: domP bd s :: Rs)) (fun i => 0) 0 ⟨rfl, trivial⟩ ⟨rfl, H⟩ ?_
    clear H
    rintro i τ w ⟨rfl, H⟩
    repeat' (first | (refine zA ?_; first | refine zB ?_ | refine zC H ?_ | refine zD H ?_ | refine zE H fun _ _ H => ?_ | refine zF H fun _ _ H => ?_ | refine zG H fun _ H => ?_ | refine zH H fun _ H => ?_) | (refine zI ?_; first | refine zJ ?_ | refine zK ?_ | refine zL ?_ | refine CW.seqDc ?_ | refine CW.seqDb ?_ | refine CW.seqDl ?_ | refine CW.seqDs ?_ | refine CW.seqDk ?_ | refine zN ?_ | refine zO ?_ | refine zP ?_ | refine zQ ?_ | refine zR ?_) | refine zS ?_)
    exact ret1 rfl ⟨ad, cap0, rfl, H⟩
  obtain ⟨i, rfl, hi, ht⟩ := onN_at ha
  have hcal : s.callers i = s.q i := if_pos ha
  have hw : s.wake i = s.setQ i [] := if_pos ha
  rw [hcal] at H ⊢
  rw [hw]
  have hli := hl i hi
  refine CW.loopF (X := Nat) (fun j => Nat.beq j 7 || Nat.ble 13 j) (fun k => [(13, .int .i64 (k : Int))]) (fun k w => k ≤ (s.q i).length ∧ Sat z w (ivec ad cap0 (s.q i) :: domP bd (s.setQ i ((s.q i).drop k)) :: Rs)) (fun k => (s.q i).length - k) 0 ⟨rfl, trivial⟩ ⟨Nat.zero_le _, ?_⟩ ?_
  · have e : s.setQ i ((s.q i).drop 0) = s := by
      unfold Ds.setQ
      rw [List.drop_zero]
      have : (fun j => if j = i then s.q i else s.q j) = s.q := by funext j; split <;> simp_all
      rw [this]
    rw [e]; exact H
  clear H
  rintro k τ w ⟨hk, H⟩
  repeat' (first | (refine zA ?_; first | refine zB ?_ | refine zC H ?_ | refine zD H ?_ | refine zE H fun _ _ H => ?_ | refine zF H fun _ _ H => ?_ | refine zG H fun _ H => ?_ | refine zH H fun _ H => ?_) | (refine zI ?_; first | refine zJ ?_ | refine zK ?_ | refine zL ?_ | refine CW.seqDc ?_ | refine CW.seqDb ?_ | refine CW.seqDl ?_ | refine CW.seqDs ?_ | refine CW.seqDk ?_ | refine zN ?_ | refine zO ?_ | refine zP ?_ | refine zQ ?_ | refine zR ?_) | refine zS ?_)
  refine CW.cond rfl (fun h => ?_) (fun h => ?_)
  · have hk' : k < (s.q i).length := by have := of_decide_eq_true h; omega
    have hx : ((s.q i).map (Value.int .i64))[k]? = some (.int .i64 (s.q i)[k]) := by simp [hk']
    obtain ⟨T, hT, hS, H⟩ := H.vopen
    repeat' (first | (refine zA ?_; first | refine zB ?_ | refine zC H ?_ | refine zD H ?_ | refine zE H fun _ _ H => ?_ | refine zF H fun _ _ H => ?_ | refine zG H fun _ H => ?_ | refine zH H fun _ H => ?_) | (refine zI ?_; first | refine zJ ?_ | refine zK ?_ | refine zL ?_ | refine CW.seqDc ?_ | refine CW.seqDb ?_ | refine CW.seqDl ?_ | refine CW.seqDs ?_ | refine CW.seqDk ?_ | refine zN ?_ | refine zO ?_ | refine zP ?_ | refine zQ ?_ | refine zR ?_) | refine zS ?_)
    refine OpsW.ixld H (hS _) rfl (fun _ => rfl) rfl rfl rfl rfl rfl rfl rfl rfl hk' hx rfl rfl fun p => ?_
    replace H := H.imp hT
    obtain ⟨ba, b, bc, cap, ccap, rest, crest, qa, ⟨hc, hcc⟩, H2⟩ := dom_open (H.perm p1)
    replace H := H2
    clear H2
    repeat' (first | (refine zA ?_; first | refine zB ?_ | refine zC H ?_ | refine zD H ?_ | refine zE H fun _ _ H => ?_ | refine zF H fun _ _ H => ?_ | refine zG H fun _ H => ?_ | refine zH H fun _ H => ?_) | (refine zI ?_; first | refine zJ ?_ | refine zK ?_ | refine zL ?_ | refine CW.seqDc ?_ | refine CW.seqDb ?_ | refine CW.seqDl ?_ | refine CW.seqDs ?_ | refine CW.seqDk ?_ | refine zN ?_ | refine zO ?_ | refine zP ?_ | refine zQ ?_ | refine zR ?_) | refine zS ?_)
    refine OpsW.ixld (H.perm p4) (SlR.of_blk (by rw [qps_len, Nat.mul_one]) hcc) rfl (fun _ => rfl) rfl rfl rfl rfl rfl rfl rfl rfl hi (qps_get hi) rfl rfl fun p => ?_
    repeat' (first | (refine zA ?_; first | refine zB ?_ | refine zC H ?_ | refine zD H ?_ | refine zE H fun _ _ H => ?_ | refine zF H fun _ _ H => ?_ | refine zG H fun _ H => ?_ | refine zH H fun _ H => ?_) | (refine zI ?_; first | refine zJ ?_ | refine zK ?_ | refine zL ?_ | refine CW.seqDc ?_ | refine CW.seqDb ?_ | refine CW.seqDl ?_ | refine CW.seqDs ?_ | refine CW.seqDk ?_ | refine zN ?_ | refine zO ?_ | refine zP ?_ | refine zQ ?_ | refine zR ?_) | refine zS ?_)
    have hd := queue_drop (qs_at hi H) (s.q i)[k] (by show (if i = i then (s.q i).drop k else s.q i).length ≤ _; rw [if_pos rfl, List.length_drop]; omega)
    have hq : (s.setQ i ((s.q i).drop k)).q i = (s.q i)[k] :: (s.q i).drop (k + 1) := by
      show (if i = i then (s.q i).drop k else s.q i) = _
      rw [if_pos rfl, List.drop_eq_getElem_cons hk']
    rw [hq, List.erase_cons_head] at hd
    refine OpsW.call rfl rfl rfl hd ?_
    rintro _ w ⟨rfl, H⟩
    replace H := qs_back hi H
    repeat' (first | (refine zA ?_; first | refine zB ?_ | refine zC H ?_ | refine zD H ?_ | refine zE H fun _ _ H => ?_ | refine zF H fun _ _ H => ?_ | refine zG H fun _ H => ?_ | refine zH H fun _ H => ?_) | (refine zI ?_; first | refine zJ ?_ | refine zK ?_ | refine zL ?_ | refine CW.seqDc ?_ | refine CW.seqDb ?_ | refine CW.seqDl ?_ | refine CW.seqDs ?_ | refine CW.seqDk ?_ | refine zN ?_ | refine zO ?_ | refine zP ?_ | refine zQ ?_ | refine zR ?_) | refine zS ?_)
    refine ⟨k + 1, (by (repeat (first | (with_reducible exact Agree.refl _ _) | (with_reducible refine Agree.trim (by assumption) ?_) | refine Agree.upd ?_ rfl | exact Agree.mix' | refine Agree.mixL ?_ (fun j h => by simp only [Bool.or_eq_true, Bool.and_eq_true, Nat.beq_eq, Nat.ble_eq] at h ⊢; omega) rfl))), ⟨nat_succ hk' (by omega), trivial⟩, ⟨hk', ?_⟩, by omega⟩
    refine (dom_close (ba := ba) (b := b) (bc := bc) (qa := qa) (rest := rest) (crest := crest) (s := s.setQ i ((s.q i).drop (k + 1))) hc hcc (qs_congr (fun j hj => ?_) H)).perm p1
    show (if j = i then _ else (if j = i then _ else s.q j)) = if j = i then _ else s.q j
    split <;> rfl
  · have hkN : k = (s.q i).length := by have := of_decide_eq_false h; omega
    rw [hkN, List.drop_length] at H
    repeat' (first | (refine zA ?_; first | refine zB ?_ | refine zC H ?_ | refine zD H ?_ | refine zE H fun _ _ H => ?_ | refine zF H fun _ _ H => ?_ | refine zG H fun _ H => ?_ | refine zH H fun _ H => ?_) | (refine zI ?_; first | refine zJ ?_ | refine zK ?_ | refine zL ?_ | refine CW.seqDc ?_ | refine CW.seqDb ?_ | refine CW.seqDl ?_ | refine CW.seqDs ?_ | refine CW.seqDk ?_ | refine zN ?_ | refine zO ?_ | refine zP ?_ | refine zQ ?_ | refine zR ?_) | refine zS ?_)
    exact ret1 rfl ⟨ad, cap0, rfl, H⟩
end
end Go.Proofs.YtbmfpkpcljihgaaDoor.X
