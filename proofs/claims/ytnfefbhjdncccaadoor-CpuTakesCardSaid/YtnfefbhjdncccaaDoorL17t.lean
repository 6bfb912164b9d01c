/- The law CpuTakes of chapter 17, walked; conditions: none. -/
import Derived.Test.YtnfefbhjdncccaaDoorA17t
namespace Go.Proofs.YtnfefbhjdncccaaDoor.X
open Go Go.Proofs
set_option linter.unusedSimpArgs false
set_option linter.unusedVariables false
def shNote17 : Sh := .pair (.int .u32) (.pair (.arr 3 (.int .u32)) (.pair (.arr 3 shKey17) .nil))
theorem frL_at (d : Dm) (j : Nat) (hj : j < 8 * 1) : (frL d)[0 + j]? = ((X.mk 8 d.r).map (Value.int .u32))[j]? := by
  unfold frL
  rw [Nat.zero_add, List.getElem?_append_left (by rw [List.length_map, mk_length]; omega)]
theorem frL8 (d : Dm) : (frL d)[8]? = some (.int .u32 d.pc) := rfl
theorem frL9 (d : Dm) : (frL d)[9]? = some (.int .i64 d.st) := rfl
theorem frL10 (d : Dm) : (frL d)[10]? = some (.int .i64 d.ft) := rfl
theorem slr_fr {As Rs : List HP} {b : Nat} {E : TypeId} {d : Dm} (hp : As.Perm (blk b E (frL d) :: Rs)) : SlR As (.slice (some ⟨b, 0, none⟩) 8 8) 1 (X.mk 8 d.r).length ((X.mk 8 d.r).map (Value.int .u32)) := by
  rw [mk_length]
  exact SlR.of_part hp (by rw [List.length_map, mk_length]) (Nat.le_refl 8) (frL_at d)
theorem slr_ksL {As Rs : List HP} {b : Nat} {E : TypeId} {d : Dm} (hp : As.Perm (blk b E (ksL d) :: Rs)) : SlR As (.slice (some ⟨b, 0, none⟩) 16 16) 5 (X.mk 16 d.k).length ((X.mk 16 d.k).flatMap K.l) := by
  rw [mk_length]
  exact SlR.of_part hp (by rw [fl_length K.l 5 (fun _ => rfl), mk_length]) (Nat.le_refl 16) (fun j _ => by rw [Nat.zero_add]; rfl)
theorem note_to (y : shNote17.T) {W : World} (h : shNote17.good W y) : ∃ (o w0 w1 w2 : Int) (k0 k1 k2 : K), shNote17.cells y = noteL o w0 w1 w2 k0 k1 k2 := by
  obtain ⟨o, ws, ks, u⟩ := y
  have h3 : List.length ws = 3 := h.2.1.1
  have k3 : List.length ks = 3 := h.2.2.1.1
  match ws, h3, ks, k3 with
  | [w0, w1, w2], _, [k0, k1, k2], _ => exact ⟨o, w0, w1, w2, toK17 k0, toK17 k1, toK17 k2, rfl⟩
attribute [local irreducible] CW OpsW RetW Spec blk snap DrawP AnyW AnyM AnyN bits IntKind.wrap vec itr asc eA Dm.c eD frL ksL noteL sentK
section
variable {z w : World} {As Rs : List HP} {d : Dm} {bd : Nat}
set_option maxHeartbeats 2000000 in
theorem sameFrame_ (H : Sat z w As) (d : Dm) : Spec cf 73 #[.agg (frL d).toArray, .agg (frL d).toArray] w fun e w' => e = .bool true ∧ Sat z w' As := by
  refine enter (l := [.agg (frL d).toArray, .agg (frL d).toArray]) Tryd.func73 rfl rfl rfl rfl rfl ?_
  repeat' (first | (refine OpsW.go ?_; first | refine OpsW.st rfl ?_) | (refine CW.go ?_; first | refine CW.condT rfl ?_ | refine CW.condF rfl ?_ | refine CW.seqR ?_ | refine CW.seqD ?_ | refine CW.block ?_ | refine CW.region ?_ | refine CW.ret ?_ | refine CW.exit ?_ | refine CW.skip ?_) | refine OpsW.nil ?_)
  refine OpsW.boxF H rfl rfl rfl fun b1 w H => ?_
  repeat' (first | (refine OpsW.go ?_; first | refine OpsW.st rfl ?_) | (refine CW.go ?_; first | refine CW.condT rfl ?_ | refine CW.condF rfl ?_ | refine CW.seqR ?_ | refine CW.seqD ?_ | refine CW.block ?_ | refine CW.region ?_ | refine CW.ret ?_ | refine CW.exit ?_ | refine CW.skip ?_) | refine OpsW.nil ?_)
  refine OpsW.boxF H rfl rfl rfl fun b0 w H => ?_
  repeat' (first | (refine OpsW.go ?_; first | refine OpsW.st rfl ?_) | (refine CW.go ?_; first | refine CW.condT rfl ?_ | refine CW.condF rfl ?_ | refine CW.seqR ?_ | refine CW.seqD ?_ | refine CW.block ?_ | refine CW.region ?_ | refine CW.ret ?_ | refine CW.exit ?_ | refine CW.skip ?_) | refine OpsW.nil ?_)
  have hSW : ∀ {w : World}, Sat z w (blk b0 67 (frL d) :: blk b1 67 (frL d) :: As) → Spec cf 33 #[.slice (some ⟨b1, 0, none⟩) 8 8, .slice (some ⟨b0, 0, none⟩) 8 8] w fun e w' => e = .bool true ∧ Sat z w' (blk b0 67 (frL d) :: blk b1 67 (frL d) :: As) := fun {w} H => by
    have := sameWords_ H (X.mk 8 d.r) (X.mk 8 d.r) _ _ (by rw [mk_length]; decide) (by rw [mk_length]; decide) (slr_fr p1) (slr_fr p0)
    rw [decide_eq_true rfl] at this; exact this
  (first | refine CW.seqDraw mo H [0, 1, 0, 4, 15, 31, 63, 127, 63, 319, 1023, 2047, 4095, 8191, 16383, 8191, 40959, 131071, 262143, 524287, 1048575, 2097151, 1048575, 5242879, 16777215, 33554431, 67108863] fun w H => ?_ | refine CW.draw mo H [0, 1, 0, 4, 15, 31, 63, 127, 63, 319, 1023, 2047, 4095, 8191, 16383, 8191, 40959, 131071, 262143, 524287, 1048575, 2097151, 1048575, 5242879, 16777215, 33554431, 67108863] fun w H => ?_); refine AnyW.seg (m := 27) (by kernel_rfl) (by kernel_rfl) H rfl ?_
  refine .cons rfl (fun τ w H => .st rfl (.nil ⟨rfl, H⟩)) ?_
  refine .cons rfl (fun τ w H => .slcA rfl rfl rfl rfl rfl rfl (.nil ⟨rfl, H⟩)) ?_
  refine .cons rfl (fun τ w H => .st rfl (.nil ⟨rfl, H⟩)) ?_
  refine .cons rfl (fun τ w H => .slcA rfl rfl rfl rfl rfl rfl (.nil ⟨rfl, H⟩)) ?_
  refine .cons rfl (fun τ w H => .call rfl rfl rfl (hSW H) fun _ w h => by obtain ⟨rfl, H⟩ := h; exact OpsW.nil ⟨rfl, H⟩) ?_
  iterate 2 (refine .cons rfl (fun τ w H => .st rfl (.nil ⟨rfl, H⟩)) ?_)
  refine .cons rfl (fun τ w H => .ld H p1 rfl rfl rfl rfl (frL8 d) rfl (.nil ⟨rfl, H⟩)) ?_
  refine .cons rfl (fun τ w H => .st rfl (.nil ⟨rfl, H⟩)) ?_
  refine .cons rfl (fun τ w H => .ld H p0 rfl rfl rfl rfl (frL8 d) rfl (.nil ⟨rfl, H⟩)) ?_
  refine .cons rfl (fun τ w H => .stV rfl (congrArg Value.bool (beq_self_eq_true d.pc)) (.nil ⟨rfl, H⟩)) ?_
  iterate 3 (refine .cons rfl (fun τ w H => .st rfl (.nil ⟨rfl, H⟩)) ?_)
  refine .cons rfl (fun τ w H => .ld H p1 rfl rfl rfl rfl (frL9 d) rfl (.nil ⟨rfl, H⟩)) ?_
  refine .cons rfl (fun τ w H => .st rfl (.nil ⟨rfl, H⟩)) ?_
  refine .cons rfl (fun τ w H => .ld H p0 rfl rfl rfl rfl (frL9 d) rfl (.nil ⟨rfl, H⟩)) ?_
  refine .cons rfl (fun τ w H => .stV rfl (congrArg Value.bool (beq_self_eq_true d.st)) (.nil ⟨rfl, H⟩)) ?_
  iterate 3 (refine .cons rfl (fun τ w H => .st rfl (.nil ⟨rfl, H⟩)) ?_)
  refine .cons rfl (fun τ w H => .ld H p1 rfl rfl rfl rfl (frL10 d) rfl (.nil ⟨rfl, H⟩)) ?_
  refine .cons rfl (fun τ w H => .st rfl (.nil ⟨rfl, H⟩)) ?_
  refine .cons rfl (fun τ w H => .ld H p0 rfl rfl rfl rfl (frL10 d) rfl (.nil ⟨rfl, H⟩)) ?_
  refine .cons rfl (fun τ w H => .stV rfl (congrArg Value.bool (beq_self_eq_true d.ft)) (.nil ⟨rfl, H⟩)) ?_
  iterate 2 (refine .cons rfl (fun τ w H => .st rfl (.nil ⟨rfl, H⟩)) ?_)
  refine DrawP.nil fun w H => ?_
  refine AnyW.done ?_
  repeat' (first | (refine OpsW.go ?_; first | refine OpsW.st rfl ?_) | (refine CW.go ?_; first | refine CW.condT rfl ?_ | refine CW.condF rfl ?_ | refine CW.seqR ?_ | refine CW.seqD ?_ | refine CW.block ?_ | refine CW.region ?_ | refine CW.ret ?_ | refine CW.exit ?_ | refine CW.skip ?_) | refine OpsW.nil ?_)
  exact ret1 rfl ⟨rfl, H.drop.drop⟩
theorem sameKeyRow_ (H : Sat z w As) (d : Dm) : Spec cf 74 #[.agg (ksL d).toArray, .agg (ksL d).toArray] w fun e w' => e = .bool true ∧ Sat z w' As := by
  refine enter (l := [.agg (ksL d).toArray, .agg (ksL d).toArray]) Tryd.func74 rfl rfl rfl rfl rfl ?_
  repeat' (first | (refine OpsW.go ?_; first | refine OpsW.st rfl ?_) | (refine CW.go ?_; first | refine CW.condT rfl ?_ | refine CW.condF rfl ?_ | refine CW.seqR ?_ | refine CW.seqD ?_ | refine CW.block ?_ | refine CW.region ?_ | refine CW.ret ?_ | refine CW.exit ?_ | refine CW.skip ?_) | refine OpsW.nil ?_)
  refine OpsW.boxF H rfl rfl rfl fun b1 w H => ?_
  repeat' (first | (refine OpsW.go ?_; first | refine OpsW.st rfl ?_) | (refine CW.go ?_; first | refine CW.condT rfl ?_ | refine CW.condF rfl ?_ | refine CW.seqR ?_ | refine CW.seqD ?_ | refine CW.block ?_ | refine CW.region ?_ | refine CW.ret ?_ | refine CW.exit ?_ | refine CW.skip ?_) | refine OpsW.nil ?_)
  refine OpsW.boxF H rfl rfl rfl fun b0 w H => ?_
  repeat' (first | (refine OpsW.go ?_; first | refine OpsW.st rfl ?_) | (refine CW.go ?_; first | refine CW.condT rfl ?_ | refine CW.condF rfl ?_ | refine CW.seqR ?_ | refine CW.seqD ?_ | refine CW.block ?_ | refine CW.region ?_ | refine CW.ret ?_ | refine CW.exit ?_ | refine CW.skip ?_) | refine OpsW.nil ?_)
  have hSK : ∀ {w : World}, Sat z w (blk b0 68 (ksL d) :: blk b1 68 (ksL d) :: As) → Spec cf 34 #[.slice (some ⟨b1, 0, none⟩) 16 16, .slice (some ⟨b0, 0, none⟩) 16 16] w fun e w' => e = .bool true ∧ Sat z w' (blk b0 68 (ksL d) :: blk b1 68 (ksL d) :: As) := fun {w} H =>
    sameKeysR_ H (X.mk 16 d.k) (by rw [mk_length]; decide) (slr_ksL p1) (slr_ksL p0)
  (first | refine CW.seqDraw mo H [0, 0, 3, 7] fun w H => ?_ | refine CW.draw mo H [0, 0, 3, 7] fun w H => ?_); refine AnyW.seg (m := 4) (by kernel_rfl) (by kernel_rfl) H rfl ?_
  refine .cons rfl (fun τ w H => .slcA rfl rfl rfl rfl rfl rfl (.nil ⟨rfl, H⟩)) ?_
  refine .cons rfl (fun τ w H => .slcA rfl rfl rfl rfl rfl rfl (.nil ⟨rfl, H⟩)) ?_
  refine .cons rfl (fun τ w H => .call rfl rfl rfl (hSK H) fun _ w h => by obtain ⟨rfl, H⟩ := h; exact OpsW.nil ⟨rfl, H⟩) ?_
  refine .cons rfl (fun τ w H => .st rfl (.nil ⟨rfl, H⟩)) ?_
  refine DrawP.nil fun w H => ?_
  refine AnyW.done ?_
  repeat' (first | (refine OpsW.go ?_; first | refine OpsW.st rfl ?_) | (refine CW.go ?_; first | refine CW.condT rfl ?_ | refine CW.condF rfl ?_ | refine CW.seqR ?_ | refine CW.seqD ?_ | refine CW.block ?_ | refine CW.region ?_ | refine CW.ret ?_ | refine CW.exit ?_ | refine CW.skip ?_) | refine OpsW.nil ?_)
  exact ret1 rfl ⟨rfl, H.drop.drop⟩
set_option maxHeartbeats 2000000 in
theorem same17_ (H : Sat z w As) (d : Dm) : Spec cf 42 #[.agg d.c.toArray, .agg (eD d).toArray] w fun e w' => e = .bool true ∧ Sat z w' As := by
  refine enter (l := [.agg d.c.toArray, .agg (eD d).toArray]) Tryd.func42 rfl rfl rfl rfl rfl ?_
  repeat' (first | (refine OpsW.go ?_; first | refine OpsW.st rfl ?_) | (refine CW.go ?_; first | refine CW.condT rfl ?_ | refine CW.condF rfl ?_ | refine CW.seqR ?_ | refine CW.seqD ?_ | refine CW.block ?_ | refine CW.region ?_ | refine CW.ret ?_ | refine CW.exit ?_ | refine CW.skip ?_) | refine OpsW.nil ?_)
  refine OpsW.boxF H rfl rfl rfl fun b1 w H => ?_
  repeat' (first | (refine OpsW.go ?_; first | refine OpsW.st rfl ?_) | (refine CW.go ?_; first | refine CW.condT rfl ?_ | refine CW.condF rfl ?_ | refine CW.seqR ?_ | refine CW.seqD ?_ | refine CW.block ?_ | refine CW.region ?_ | refine CW.ret ?_ | refine CW.exit ?_ | refine CW.skip ?_) | refine OpsW.nil ?_)
  refine OpsW.boxF H rfl rfl rfl fun b0 w H => ?_
  repeat' (first | (refine OpsW.go ?_; first | refine OpsW.st rfl ?_) | (refine CW.go ?_; first | refine CW.condT rfl ?_ | refine CW.condF rfl ?_ | refine CW.seqR ?_ | refine CW.seqD ?_ | refine CW.block ?_ | refine CW.region ?_ | refine CW.ret ?_ | refine CW.exit ?_ | refine CW.skip ?_) | refine OpsW.nil ?_)
  refine OpsW.ldA H p1 rfl rfl rfl (dm_ld91 d) rfl ?_
  repeat' (refine OpsW.go ?_; refine OpsW.st rfl ?_)
  refine OpsW.ldA H p1 rfl rfl rfl (dm_ld96 d) rfl ?_
  repeat' (refine OpsW.go ?_; refine OpsW.st rfl ?_)
  refine OpsW.ldA H p1 rfl rfl rfl (dm_ld101 d) rfl ?_
  repeat' (refine OpsW.go ?_; refine OpsW.st rfl ?_)
  refine OpsW.bsl H rfl rfl rfl rfl rfl rfl rfl rfl fun b2 w H => ?_
  repeat' (first | (refine OpsW.go ?_; first | refine OpsW.st rfl ?_) | (refine CW.go ?_; first | refine CW.condT rfl ?_ | refine CW.condF rfl ?_ | refine CW.seqR ?_ | refine CW.seqD ?_ | refine CW.block ?_ | refine CW.region ?_ | refine CW.ret ?_ | refine CW.exit ?_ | refine CW.skip ?_) | refine OpsW.nil ?_)
  refine OpsW.ldA H p1 rfl rfl rfl (eD_ld91 d) rfl ?_
  repeat' (refine OpsW.go ?_; refine OpsW.st rfl ?_)
  refine OpsW.ldA H p1 rfl rfl rfl (eD_ld96 d) rfl ?_
  repeat' (refine OpsW.go ?_; refine OpsW.st rfl ?_)
  refine OpsW.ldA H p1 rfl rfl rfl (eD_ld101 d) rfl ?_
  repeat' (refine OpsW.go ?_; refine OpsW.st rfl ?_)
  refine OpsW.bsl H rfl rfl rfl rfl rfl rfl rfl rfl fun b3 w H => ?_
  repeat' (first | (refine OpsW.go ?_; first | refine OpsW.st rfl ?_) | (refine CW.go ?_; first | refine CW.condT rfl ?_ | refine CW.condF rfl ?_ | refine CW.seqR ?_ | refine CW.seqD ?_ | refine CW.block ?_ | refine CW.region ?_ | refine CW.ret ?_ | refine CW.exit ?_ | refine CW.skip ?_) | refine OpsW.nil ?_)
  refine OpsW.ldA H p3 rfl rfl rfl (frL_ld d) rfl ?_
  repeat' (refine OpsW.go ?_; refine OpsW.st rfl ?_)
  refine OpsW.ldA H p2 rfl rfl rfl (eD_fr d) rfl ?_
  repeat' (refine OpsW.go ?_; refine OpsW.st rfl ?_)
  refine OpsW.call rfl rfl rfl (sameFrame_ H d) ?_
  rintro _ w ⟨rfl, H⟩
  repeat' (first | (refine OpsW.go ?_; first | refine OpsW.st rfl ?_) | (refine CW.go ?_; first | refine CW.condT rfl ?_ | refine CW.condF rfl ?_ | refine CW.seqR ?_ | refine CW.seqD ?_ | refine CW.block ?_ | refine CW.region ?_ | refine CW.ret ?_ | refine CW.exit ?_ | refine CW.skip ?_) | refine OpsW.nil ?_)
  refine OpsW.ldA H p3 rfl rfl rfl (ksL_ld d) rfl ?_
  repeat' (refine OpsW.go ?_; refine OpsW.st rfl ?_)
  refine OpsW.ldA H p2 rfl rfl rfl (eD_ks d) rfl ?_
  repeat' (refine OpsW.go ?_; refine OpsW.st rfl ?_)
  refine OpsW.call rfl rfl rfl (sameKeyRow_ H d) ?_
  rintro _ w ⟨rfl, H⟩
  repeat' (first | (refine OpsW.go ?_; first | refine OpsW.st rfl ?_) | (refine CW.go ?_; first | refine CW.condT rfl ?_ | refine CW.condF rfl ?_ | refine CW.seqR ?_ | refine CW.seqD ?_ | refine CW.block ?_ | refine CW.region ?_ | refine CW.ret ?_ | refine CW.exit ?_ | refine CW.skip ?_) | refine OpsW.nil ?_)
  refine OpsW.call rfl rfl rfl (sameKeysR_ H [d.mem, d.meter, d.keeper] (by show 3 ≤ 1000; decide) (SlR.of_blk (r := []) rfl (Nat.le_refl 3)).tail (SlR.of_blk (r := []) rfl (Nat.le_refl 3))) ?_
  rintro _ w ⟨rfl, H⟩
  repeat' (first | (refine OpsW.go ?_; first | refine OpsW.st rfl ?_) | (refine CW.go ?_; first | refine CW.condT rfl ?_ | refine CW.condF rfl ?_ | refine CW.seqR ?_ | refine CW.seqD ?_ | refine CW.block ?_ | refine CW.region ?_ | refine CW.ret ?_ | refine CW.exit ?_ | refine CW.skip ?_) | refine OpsW.nil ?_)
  refine OpsW.ld H p3 rfl rfl rfl rfl (dm_ld106 d) rfl ?_
  repeat' (refine OpsW.go ?_; refine OpsW.st rfl ?_)
  refine OpsW.ld H p2 rfl rfl rfl rfl (eD_ld106 d) rfl ?_
  repeat' (first | (refine OpsW.go ?_; first | refine OpsW.st rfl ?_) | (refine CW.go ?_; first | refine CW.condT rfl ?_ | refine CW.condF rfl ?_ | refine CW.seqR ?_ | refine CW.seqD ?_ | refine CW.block ?_ | refine CW.region ?_ | refine CW.ret ?_ | refine CW.exit ?_ | refine CW.skip ?_) | refine OpsW.nil ?_)
  rw [beq_self_eq_true]
  exact ret1 rfl ⟨rfl, H.drop.drop.drop.drop⟩
end
set_option maxHeartbeats 4000000 in
theorem cpuTakes_ (W : World) (hEs : Errs W 237 [5, 1, 0, 2, 4]) (y : shDom17.T) (hy : shDom17.good W y) (nt : shNote17.T) (hn : shNote17.good W nt) (bg : Int) (hbw : (Lit.int .u32 bg).wf = true) (v : Value) (ly : List shKey17.T) (hly : ly.length ≤ maxLen) (hlw : ∀ k ∈ ly, shKey17.good W k) (hvy : SlR [snap W] v 5 ly.length (ly.flatMap shKey17.cells)) (fr : Int) (hfw : (Lit.int .i64 fr).wf = true) :
    Spec cf 10 #[.agg (shDom17.cells y).toArray, .agg (shNote17.cells nt).toArray, .int .u32 bg, v, .int .i64 fr] W fun v w' => v = .bool true ∧ Sat W w' [snap W] := by
  have H := Sat.start W
  obtain ⟨ads, hE⟩ := errsC hEs
  rw [toD17_c y hy]
  obtain ⟨o, w0, w1, w2, k0, k1, k2, hnt⟩ := note_to nt hn
  rw [hnt]
  generalize toD17 y = d at *
  have hv : SlR [snap W] v 5 (ly.map toK17).length ((ly.map toK17).flatMap K.l) := by
    rw [← flat_key, List.length_map]; exact hvy
  have hl : (ly.map toK17).length ≤ maxLen := by rw [List.length_map]; exact hly
  clear hvy hly hlw
  generalize ly.map toK17 = l at *
  obtain ⟨a, cap, rfl⟩ := lenW hv
  refine enter (l := [.agg d.c.toArray, .agg (noteL o w0 w1 w2 k0 k1 k2).toArray, .int .u32 bg, .slice a l.length cap, .int .i64 fr]) Tryd.func10 rfl rfl rfl rfl rfl ?_
  repeat' (first | (refine OpsW.go ?_; first | refine OpsW.st rfl ?_) | (refine CW.go ?_; first | refine CW.condT rfl ?_ | refine CW.condF rfl ?_ | refine CW.seqR ?_ | refine CW.seqD ?_ | refine CW.block ?_ | refine CW.region ?_ | refine CW.ret ?_ | refine CW.exit ?_ | refine CW.skip ?_) | refine OpsW.nil ?_)
  refine OpsW.boxF H rfl rfl rfl fun bd w H => ?_
  repeat' (first | (refine OpsW.go ?_; first | refine OpsW.st rfl ?_) | (refine CW.go ?_; first | refine CW.condT rfl ?_ | refine CW.condF rfl ?_ | refine CW.seqR ?_ | refine CW.seqD ?_ | refine CW.block ?_ | refine CW.region ?_ | refine CW.ret ?_ | refine CW.exit ?_ | refine CW.skip ?_) | refine OpsW.nil ?_)
  refine OpsW.boxF H rfl rfl rfl fun bn w H => ?_
  repeat' (first | (refine OpsW.go ?_; first | refine OpsW.st rfl ?_) | (refine CW.go ?_; first | refine CW.condT rfl ?_ | refine CW.condF rfl ?_ | refine CW.seqR ?_ | refine CW.seqD ?_ | refine CW.block ?_ | refine CW.region ?_ | refine CW.ret ?_ | refine CW.exit ?_ | refine CW.skip ?_) | refine OpsW.nil ?_)
  refine OpsW.call rfl rfl rfl (first17_ H hE.tail.tail) ?_
  rintro _ w ⟨rfl, H⟩
  repeat' (first | (refine OpsW.go ?_; first | refine OpsW.st rfl ?_) | (refine CW.go ?_; first | refine CW.condT rfl ?_ | refine CW.condF rfl ?_ | refine CW.seqR ?_ | refine CW.seqD ?_ | refine CW.block ?_ | refine CW.region ?_ | refine CW.ret ?_ | refine CW.exit ?_ | refine CW.skip ?_) | refine OpsW.nil ?_)
  refine OpsW.gs rfl rfl rfl (fun h => ?_) (fun h => ?_)
  · repeat' (first | (refine OpsW.go ?_; first | refine OpsW.st rfl ?_) | (refine CW.go ?_; first | refine CW.condT rfl ?_ | refine CW.condF rfl ?_ | refine CW.seqR ?_ | refine CW.seqD ?_ | refine CW.block ?_ | refine CW.region ?_ | refine CW.ret ?_ | refine CW.exit ?_ | refine CW.skip ?_) | refine OpsW.nil ?_)
    exact ret1 rfl ⟨rfl, by (first | exact H | exact H.drop | exact H.d2 | exact H.d3 | exact H.d4 | exact H.d5 | exact H.d6 | exact H.d7)⟩
  have hl5 : l.length ≤ 5 := by simp at h; omega
  repeat' (first | (refine OpsW.go ?_; first | refine OpsW.st rfl ?_) | (refine CW.go ?_; first | refine CW.condT rfl ?_ | refine CW.condF rfl ?_ | refine CW.seqR ?_ | refine CW.seqD ?_ | refine CW.block ?_ | refine CW.region ?_ | refine CW.ret ?_ | refine CW.exit ?_ | refine CW.skip ?_) | refine OpsW.nil ?_)
  refine OpsW.ldA H p1 rfl rfl rfl Dm.all rfl ?_
  repeat' (first | (refine OpsW.go ?_; first | refine OpsW.st rfl ?_) | (refine CW.go ?_; first | refine CW.condT rfl ?_ | refine CW.condF rfl ?_ | refine CW.seqR ?_ | refine CW.seqD ?_ | refine CW.block ?_ | refine CW.region ?_ | refine CW.ret ?_ | refine CW.exit ?_ | refine CW.skip ?_) | refine OpsW.nil ?_)
  refine OpsW.call rfl rfl rfl (other17_ H d) ?_
  rintro _ w ⟨rfl, H⟩
  refine OpsW.alloc H rfl rfl rfl rfl fun be w H => ?_
  refine OpsW.strF H p0 rfl rfl rfl (eD_scl d) rfl (eD_len d) (by rw [eD_len]; decide) fun w H => ?_
  rw [splice_full (by rw [eD_len]; rfl)] at H
  repeat' (first | (refine OpsW.go ?_; first | refine OpsW.st rfl ?_ | refine OpsW.ld H (by (first | exact p0 | exact p1 | exact p2 | exact p3 | exact p4 | exact p5 | exact p6 | exact p7)) rfl rfl rfl rfl (by rfl) rfl ?_ | refine OpsW.ldA H (by (first | exact p0 | exact p1 | exact p2 | exact p3 | exact p4 | exact p5 | exact p6 | exact p7)) rfl rfl rfl (by rfl) rfl ?_ | refine OpsW.box H rfl rfl rfl fun _ _ H => ?_ | refine OpsW.alloc H rfl rfl rfl rfl fun _ _ H => ?_ | refine OpsW.str H (by (first | exact p0 | exact p1 | exact p2 | exact p3 | exact p4 | exact p5 | exact p6 | exact p7)) rfl rfl rfl rfl rfl rfl (by first | decide | (simp; done) | (simp; omega)) fun _ H => ?_ | refine OpsW.strA H (by (first | exact p0 | exact p1 | exact p2 | exact p3 | exact p4 | exact p5 | exact p6 | exact p7)) rfl rfl rfl rfl rfl rfl (by first | decide | (simp; done) | (simp; omega)) fun _ H => ?_) | (refine CW.go ?_; first | refine CW.condT rfl ?_ | refine CW.condF rfl ?_ | refine CW.seqR ?_ | refine CW.seqDb ?_ | refine CW.seqDl ?_ | refine CW.seqDk ?_ | refine CW.block ?_ | refine CW.region ?_ | refine CW.ret ?_ | refine CW.exit ?_ | refine CW.skip ?_) | refine OpsW.nil ?_)
  rename_i bk _ _ _
  replace H : Sat W _ (blk bk 43 K.void.l :: _) := H
  refine CW.join (X := Unit) (fun j => Nat.ble 30 j) (fun _ => []) (fun _ w => Sat W w (blk bk 43 (l.headD K.void).l :: blk be 93 (eD d) :: blk bn 77 (noteL o w0 w1 w2 k0 k1 k2) :: blk bd 70 d.c :: [snap W])) ?_ ?_
  · repeat' (first | (refine OpsW.go ?_; first | refine OpsW.st rfl ?_) | (refine CW.go ?_; first | refine CW.condT rfl ?_ | refine CW.condF rfl ?_ | refine CW.seqR ?_ | refine CW.seqD ?_ | refine CW.block ?_ | refine CW.region ?_ | refine CW.ret ?_ | refine CW.exit ?_ | refine CW.skip ?_) | refine OpsW.nil ?_)
    cases l with
    | nil =>
      refine CW.cond rfl (fun h => absurd (of_decide_eq_true h) (by decide)) (fun _ => ?_)
      repeat' (first | (refine OpsW.go ?_; first | refine OpsW.st rfl ?_) | (refine CW.go ?_; first | refine CW.condT rfl ?_ | refine CW.condF rfl ?_ | refine CW.seqR ?_ | refine CW.seqD ?_ | refine CW.block ?_ | refine CW.region ?_ | refine CW.ret ?_ | refine CW.exit ?_ | refine CW.skip ?_) | refine OpsW.nil ?_)
      exact ⟨(), (by (repeat (first | (with_reducible exact Agree.refl _ _) | (with_reducible refine Agree.trim (by assumption) ?_) | refine Agree.upd ?_ rfl | exact Agree.mix' | refine Agree.mixL ?_ (fun j h => by simp only [Bool.or_eq_true, Bool.and_eq_true, Nat.beq_eq, Nat.ble_eq] at h ⊢; omega) rfl))), trivial, H⟩
    | cons k l =>
      refine CW.cond rfl (fun _ => ?_) (fun h => absurd h (by simp))
      repeat' (first | (refine OpsW.go ?_; first | refine OpsW.st rfl ?_) | (refine CW.go ?_; first | refine CW.condT rfl ?_ | refine CW.condF rfl ?_ | refine CW.seqR ?_ | refine CW.seqD ?_ | refine CW.block ?_ | refine CW.region ?_ | refine CW.ret ?_ | refine CW.exit ?_ | refine CW.skip ?_) | refine OpsW.nil ?_)
      refine OpsW.ixldA (k := 0) (sz := 5) (vs := k.l) H hv.tail.tail.tail.tail rfl (fun _ => rfl) rfl rfl rfl rfl rfl rfl rfl rfl (Nat.succ_pos _) rfl rfl rfl fun pp => ?_
      refine OpsW.strF (vs := k.l) H p0 rfl rfl rfl rfl rfl rfl (by show _ + 5 ≤ 5; decide) fun w H => ?_
      repeat' (first | (refine OpsW.go ?_; first | refine OpsW.st rfl ?_) | (refine CW.go ?_; first | refine CW.condT rfl ?_ | refine CW.condF rfl ?_ | refine CW.seqR ?_ | refine CW.seqD ?_ | refine CW.block ?_ | refine CW.region ?_ | refine CW.ret ?_ | refine CW.exit ?_ | refine CW.skip ?_) | refine OpsW.nil ?_)
      exact ⟨(), (by (repeat (first | (with_reducible exact Agree.refl _ _) | (with_reducible refine Agree.trim (by assumption) ?_) | refine Agree.upd ?_ rfl | exact Agree.mix' | refine Agree.mixL ?_ (fun j h => by simp only [Bool.or_eq_true, Bool.and_eq_true, Nat.beq_eq, Nat.ble_eq] at h ⊢; omega) rfl))), trivial, H⟩
  clear H
  rintro _ τ w H
  repeat' (first | (refine OpsW.go ?_; first | refine OpsW.st rfl ?_) | (refine CW.go ?_; first | refine CW.condT rfl ?_ | refine CW.condF rfl ?_ | refine CW.seqR ?_ | refine CW.seqD ?_ | refine CW.block ?_ | refine CW.region ?_ | refine CW.ret ?_ | refine CW.exit ?_ | refine CW.skip ?_) | refine OpsW.nil ?_)
  refine OpsW.ldA H p3 rfl rfl rfl Dm.all rfl ?_
  repeat' (first | (refine OpsW.go ?_; first | refine OpsW.st rfl ?_) | (refine CW.go ?_; first | refine CW.condT rfl ?_ | refine CW.condF rfl ?_ | refine CW.seqR ?_ | refine CW.seqD ?_ | refine CW.block ?_ | refine CW.region ?_ | refine CW.ret ?_ | refine CW.exit ?_ | refine CW.skip ?_) | refine OpsW.nil ?_)
  refine OpsW.call rfl rfl rfl (sent17_ H d fr) ?_
  rintro _ w ⟨rfl, H⟩
  refine OpsW.alloc H rfl rfl rfl rfl fun b1 w H => ?_
  refine OpsW.strF H p0 rfl rfl rfl rfl rfl rfl (Nat.le_refl 15) fun w H => ?_
  rw [splice_full (by rfl)] at H
  repeat' (first | (refine OpsW.go ?_; first | refine OpsW.st rfl ?_) | (refine CW.go ?_; first | refine CW.condT rfl ?_ | refine CW.condF rfl ?_ | refine CW.seqR ?_ | refine CW.seqD ?_ | refine CW.block ?_ | refine CW.region ?_ | refine CW.ret ?_ | refine CW.exit ?_ | refine CW.skip ?_) | refine OpsW.nil ?_)
  refine OpsW.call rfl rfl rfl (sentR17_ (H.perm p2) fr) ?_
  rintro _ w ⟨rfl, H⟩
  refine OpsW.alloc H rfl rfl rfl rfl fun b2 w H => ?_
  refine OpsW.strF H p0 rfl rfl rfl rfl rfl rfl (Nat.le_refl 15) fun w H => ?_
  rw [splice_full (by rfl)] at H
  repeat' (first | (refine OpsW.go ?_; first | refine OpsW.st rfl ?_) | (refine CW.go ?_; first | refine CW.condT rfl ?_ | refine CW.condF rfl ?_ | refine CW.seqR ?_ | refine CW.seqD ?_ | refine CW.block ?_ | refine CW.region ?_ | refine CW.ret ?_ | refine CW.exit ?_ | refine CW.skip ?_) | refine OpsW.nil ?_)
  refine OpsW.ldA H p4 rfl rfl rfl (note_all _ _ _ _ _ _ _) rfl ?_
  repeat' (first | (refine OpsW.go ?_; first | refine OpsW.st rfl ?_) | (refine CW.go ?_; first | refine CW.condT rfl ?_ | refine CW.condF rfl ?_ | refine CW.seqR ?_ | refine CW.seqD ?_ | refine CW.block ?_ | refine CW.region ?_ | refine CW.ret ?_ | refine CW.exit ?_ | refine CW.skip ?_) | refine OpsW.nil ?_)
  refine OpsW.call rfl rfl rfl (take17_ (H.perm p5) o w0 w1 w2 k0 k1 k2 bg _ l hl5 hv.tail.tail.tail.tail.tail) ?_
  intro _ w H
  repeat' (first | (refine OpsW.go ?_; first | refine OpsW.st rfl ?_) | (refine CW.go ?_; first | refine CW.condT rfl ?_ | refine CW.condF rfl ?_ | refine CW.seqR ?_ | refine CW.seqD ?_ | refine CW.block ?_ | refine CW.region ?_ | refine CW.ret ?_ | refine CW.exit ?_ | refine CW.skip ?_) | refine OpsW.nil ?_)
  refine OpsW.ldA H p5 rfl rfl rfl (note_all _ _ _ _ _ _ _) rfl ?_
  repeat' (first | (refine OpsW.go ?_; first | refine OpsW.st rfl ?_ | refine OpsW.ld H (by (first | exact p0 | exact p1 | exact p2 | exact p3 | exact p4 | exact p5 | exact p6 | exact p7)) rfl rfl rfl rfl (by rfl) rfl ?_ | refine OpsW.ldA H (by (first | exact p0 | exact p1 | exact p2 | exact p3 | exact p4 | exact p5 | exact p6 | exact p7)) rfl rfl rfl (by rfl) rfl ?_ | refine OpsW.box H rfl rfl rfl fun _ _ H => ?_ | refine OpsW.alloc H rfl rfl rfl rfl fun _ _ H => ?_ | refine OpsW.str H (by (first | exact p0 | exact p1 | exact p2 | exact p3 | exact p4 | exact p5 | exact p6 | exact p7)) rfl rfl rfl rfl rfl rfl (by first | decide | (simp; done) | (simp; omega)) fun _ H => ?_ | refine OpsW.strA H (by (first | exact p0 | exact p1 | exact p2 | exact p3 | exact p4 | exact p5 | exact p6 | exact p7)) rfl rfl rfl rfl rfl rfl (by first | decide | (simp; done) | (simp; omega)) fun _ H => ?_) | (refine CW.go ?_; first | refine CW.condT rfl ?_ | refine CW.condF rfl ?_ | refine CW.seqR ?_ | refine CW.seqD ?_ | refine CW.block ?_ | refine CW.region ?_ | refine CW.ret ?_ | refine CW.exit ?_ | refine CW.skip ?_) | refine OpsW.nil ?_)
  refine OpsW.call rfl rfl rfl (takeR17_ (H.perm p2) o w0 w1 w2 k0 k1 k2 bg (l.headD K.void)) ?_
  intro _ w H
  generalize takeD d o w0 w1 w2 k0 k1 k2 bg (l.headD K.void) = d' at *
  have hSK : ∀ {w : World}, Sat W w (blk be 93 (eD d') :: blk bd 70 d'.c :: blk b2 75 ((sentK d.k fr 0).l ++ ((sentK d.k fr 1).l ++ (sentK d.k fr 2).l)) :: blk b1 75 ((sentK d.k fr 0).l ++ ((sentK d.k fr 1).l ++ (sentK d.k fr 2).l)) :: blk bk 43 (l.headD K.void).l :: blk bn 77 (noteL o w0 w1 w2 k0 k1 k2) :: [snap W]) → Spec cf 34 #[.slice (some ⟨b1, 0, none⟩) 3 3, .slice (some ⟨b2, 0, none⟩) 3 3] w fun e w' => e = .bool true ∧ Sat W w' (blk be 93 (eD d') :: blk bd 70 d'.c :: blk b2 75 ((sentK d.k fr 0).l ++ ((sentK d.k fr 1).l ++ (sentK d.k fr 2).l)) :: blk b1 75 ((sentK d.k fr 0).l ++ ((sentK d.k fr 1).l ++ (sentK d.k fr 2).l)) :: blk bk 43 (l.headD K.void).l :: blk bn 77 (noteL o w0 w1 w2 k0 k1 k2) :: [snap W]) := fun {w} H =>
    sameKeysR_ H [sentK d.k fr 0, sentK d.k fr 1, sentK d.k fr 2] (by show 3 ≤ 1000; decide) (SlR.of_blk (r := []) rfl (Nat.le_refl 3)).tail.tail.tail (SlR.of_blk (r := []) rfl (Nat.le_refl 3)).tail.tail
  repeat' (first | (refine OpsW.go ?_; first | refine OpsW.st rfl ?_) | (refine CW.go ?_; first | refine CW.condT rfl ?_ | refine CW.condF rfl ?_ | refine CW.seqR ?_ | refine CW.seqD ?_ | refine CW.block ?_ | refine CW.region ?_ | refine CW.ret ?_ | refine CW.exit ?_ | refine CW.skip ?_) | refine OpsW.nil ?_)
  (first | refine CW.seqDraw mo H [0, 0, 3, 7, 15, 15, 63, 127, 255] fun w H => ?_ | refine CW.draw mo H [0, 0, 3, 7, 15, 15, 63, 127, 255] fun w H => ?_); refine AnyW.seg (m := 9) (by kernel_rfl) (by kernel_rfl) H rfl ?_
  refine .cons rfl (fun τ w H => .ldA H p1 rfl rfl rfl Dm.all rfl (.nil ⟨rfl, H⟩)) ?_
  refine .cons rfl (fun τ w H => .ldA H p0 rfl rfl rfl (eD_all d') rfl (.nil ⟨rfl, H⟩)) ?_
  refine .cons rfl (fun τ w H => .call rfl rfl rfl (same17_ H d') fun _ w h => by obtain ⟨rfl, H⟩ := h; exact OpsW.nil ⟨rfl, H⟩) ?_
  refine .cons rfl (fun τ w H => .st rfl (.nil ⟨rfl, H⟩)) ?_
  refine .cons rfl (fun τ w H => .slcA rfl rfl rfl rfl rfl rfl (.nil ⟨rfl, H⟩)) ?_
  refine .cons rfl (fun τ w H => .slcA rfl rfl rfl rfl rfl rfl (.nil ⟨rfl, H⟩)) ?_
  refine .cons rfl (fun τ w H => .call rfl rfl rfl (hSK H) fun _ w h => by obtain ⟨rfl, H⟩ := h; exact OpsW.nil ⟨rfl, H⟩) ?_
  iterate 2 (refine .cons rfl (fun τ w H => .st rfl (.nil ⟨rfl, H⟩)) ?_)
  refine DrawP.nil fun w H => ?_
  refine AnyW.done ?_
  repeat' (first | (refine OpsW.go ?_; first | refine OpsW.st rfl ?_) | (refine CW.go ?_; first | refine CW.condT rfl ?_ | refine CW.condF rfl ?_ | refine CW.seqR ?_ | refine CW.seqD ?_ | refine CW.block ?_ | refine CW.region ?_ | refine CW.ret ?_ | refine CW.exit ?_ | refine CW.skip ?_) | refine OpsW.nil ?_)
  exact ret1 rfl ⟨rfl, by have := H.d6; exact this⟩
end Go.Proofs.YtnfefbhjdncccaaDoor.X
