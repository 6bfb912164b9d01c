/- The law CpuTakes of chapter 17, walked; conditions: none. -/
import Derived.Test.YtnfefbhjdncccaaDoorA17t
namespace Go.Proofs.YtnfefbhjdncccaaDoor.X
open Go Go.Proofs
set_option linter.unusedSimpArgs false
set_option linter.unusedVariables false
theorem frL_at (d : Dm) (j : Nat) (hj : j < 8 * 1) : (frL d)[0 + j]? = ((X.mk 8 d.r).map (Value.int .u32))[j]? := by
  unfold frL
  rw [Nat.zero_add, List.getElem?_append_left (by rw [List.length_map, mk_length]; omega)]
theorem frL8 (d : Dm) : (frL d)[8]? = some (.int .u32 d.pc) := rfl
theorem frL9 (d : Dm) : (frL d)[9]? = some (.int .i64 d.st) := rfl
theorem frL10 (d : Dm) : (frL d)[10]? = some (.int .i64 d.ft) := rfl
theorem slr_fr {As Rs : List HP} {b : Nat} {E : TypeId} {d : Dm} (hp : As.Perm (blk b E (frL d) :: Rs)) : SlR As (.slice (some ⟨b, 0, none⟩) 8 8) 1 (X.mk 8 d.r).length ((X.mk 8 d.r).map (Value.int .u32)) := by
  rw [mk_length]
  exact SlR.of_part hp (by rw [List.length_map, mk_length]) (Nat.le_refl 8) (frL_at d)
theorem slr_ksL {As Rs : List HP} {b : Nat} {E : TypeId} {d : Dm} (hp : As.Perm (blk b E (ksL d) :: Rs)) : SlR As (.slice (some ⟨b, 0, none⟩) 16 16) 5 (X.mk 16 d.k).length ((X.mk 16 d.k).flatMap K.l) := by
  rw [mk_length]
  exact SlR.of_part hp (by rw [fl_length K.l 5 (fun _ => rfl), mk_length]) (Nat.le_refl 16) (fun j _ => by rw [Nat.zero_add]; rfl)
attribute [local irreducible] CW OpsW RetW Spec blk snap DrawP AnyW AnyM AnyN bits IntKind.wrap vec itr asc eA Dm.c eD frL ksL noteL sentK
section
variable {z w : World} {As Rs : List HP} {d : Dm} {bd : Nat}
set_option maxHeartbeats 2000000 in
theorem sameFrame_ (H : Sat z w As) (d : Dm) : Spec cf 73 #[.agg (frL d).toArray, .agg (frL d).toArray] w fun e w' => e = .bool true ∧ Sat z w' As := by
  refine enter (l := [.agg (frL d).toArray, .agg (frL d).toArray]) Tryd.func73 rfl rfl rfl rfl rfl ?_
  repeat' (first | (refine zA ?_; first | refine zB ?_) | (refine zI ?_; first | refine zJ ?_ | refine zK ?_ | refine zL ?_ | refine zM ?_ | refine zN ?_ | refine zO ?_ | refine zP ?_ | refine zQ ?_ | refine zR ?_) | refine zS ?_)
  refine OpsW.boxF H rfl rfl rfl fun b1 w H => ?_
  repeat' (first | (refine zA ?_; first | refine zB ?_) | (refine zI ?_; first | refine zJ ?_ | refine zK ?_ | refine zL ?_ | refine zM ?_ | refine zN ?_ | refine zO ?_ | refine zP ?_ | refine zQ ?_ | refine zR ?_) | refine zS ?_)
  refine OpsW.boxF H rfl rfl rfl fun b0 w H => ?_
  repeat' (first | (refine zA ?_; first | refine zB ?_) | (refine zI ?_; first | refine zJ ?_ | refine zK ?_ | refine zL ?_ | refine zM ?_ | refine zN ?_ | refine zO ?_ | refine zP ?_ | refine zQ ?_ | refine zR ?_) | refine zS ?_)
  have hSW : ∀ {w : World}, Sat z w (blk b0 67 (frL d) :: blk b1 67 (frL d) :: As) → Spec cf 33 #[.slice (some ⟨b1, 0, none⟩) 8 8, .slice (some ⟨b0, 0, none⟩) 8 8] w fun e w' => e = .bool true ∧ Sat z w' (blk b0 67 (frL d) :: blk b1 67 (frL d) :: As) := fun {w} H => by
    have := sameWords_ H (X.mk 8 d.r) (X.mk 8 d.r) _ _ (by rw [mk_length]; decide) (by rw [mk_length]; decide) (slr_fr p1) (slr_fr p0)
    rw [decide_eq_true rfl] at this; exact this
  (first | refine CW.seqDraw mo H [0, 1, 0, 4, 15, 31, 63, 127, 63, 319, 1023, 2047, 4095, 8191, 16383, 8191, 40959, 131071, 262143, 524287, 1048575, 2097151, 1048575, 5242879, 16777215, 33554431, 67108863] fun w H => ?_ | refine CW.draw mo H [0, 1, 0, 4, 15, 31, 63, 127, 63, 319, 1023, 2047, 4095, 8191, 16383, 8191, 40959, 131071, 262143, 524287, 1048575, 2097151, 1048575, 5242879, 16777215, 33554431, 67108863] fun w H => ?_); refine AnyW.seg (m := 27) (by kernel_rfl) (by kernel_rfl) H rfl ?_
  refine .cons rfl (fun τ w H => .st rfl (.nil ⟨rfl, H⟩)) ?_
  refine .cons rfl (fun τ w H => .slcA rfl rfl rfl rfl rfl rfl (.nil ⟨rfl, H⟩)) ?_
  refine .cons rfl (fun τ w H => .st rfl (.nil ⟨rfl, H⟩)) ?_
  refine .cons rfl (fun τ w H => .slcA rfl rfl rfl rfl rfl rfl (.nil ⟨rfl, H⟩)) ?_
  refine .cons rfl (fun τ w H => .call rfl rfl rfl (hSW H) fun _ w h => by obtain ⟨rfl, H⟩ := h; exact OpsW.nil ⟨rfl, H⟩) ?_
  iterate 2 (refine .cons rfl (fun τ w H => .st rfl (.nil ⟨rfl, H⟩)) ?_)
  refine .cons rfl (fun τ w H => .ld H p1 rfl rfl rfl rfl (frL8 d) rfl (.nil ⟨rfl, H⟩)) ?_
  refine .cons rfl (fun τ w H => .st rfl (.nil ⟨rfl, H⟩)) ?_
  refine .cons rfl (fun τ w H => .ld H p0 rfl rfl rfl rfl (frL8 d) rfl (.nil ⟨rfl, H⟩)) ?_
  refine .cons rfl (fun τ w H => .stV rfl (congrArg Value.bool (beq_self_eq_true d.pc)) (.nil ⟨rfl, H⟩)) ?_
  iterate 3 (refine .cons rfl (fun τ w H => .st rfl (.nil ⟨rfl, H⟩)) ?_)
  refine .cons rfl (fun τ w H => .ld H p1 rfl rfl rfl rfl (frL9 d) rfl (.nil ⟨rfl, H⟩)) ?_
  refine .cons rfl (fun τ w H => .st rfl (.nil ⟨rfl, H⟩)) ?_
  refine .cons rfl (fun τ w H => .ld H p0 rfl rfl rfl rfl (frL9 d) rfl (.nil ⟨rfl, H⟩)) ?_
  refine .cons rfl (fun τ w H => .stV rfl (congrArg Value.bool (beq_self_eq_true d.st)) (.nil ⟨rfl, H⟩)) ?_
  iterate 3 (refine .cons rfl (fun τ w H => .st rfl (.nil ⟨rfl, H⟩)) ?_)
  refine .cons rfl (fun τ w H => .ld H p1 rfl rfl rfl rfl (frL10 d) rfl (.nil ⟨rfl, H⟩)) ?_
  refine .cons rfl (fun τ w H => .st rfl (.nil ⟨rfl, H⟩)) ?_
  refine .cons rfl (fun τ w H => .ld H p0 rfl rfl rfl rfl (frL10 d) rfl (.nil ⟨rfl, H⟩)) ?_
  refine .cons rfl (fun τ w H => .stV rfl (congrArg Value.bool (beq_self_eq_true d.ft)) (.nil ⟨rfl, H⟩)) ?_
  iterate 2 (refine .cons rfl (fun τ w H => .st rfl (.nil ⟨rfl, H⟩)) ?_)
  refine DrawP.nil fun w H => ?_
  refine AnyW.done ?_
  repeat' (first | (refine zA ?_; first | refine zB ?_) | (refine zI ?_; first | refine zJ ?_ | refine zK ?_ | refine zL ?_ | refine zM ?_ | refine zN ?_ | refine zO ?_ | refine zP ?_ | refine zQ ?_ | refine zR ?_) | refine zS ?_)
  exact ret1 rfl ⟨rfl, H.drop.drop⟩
theorem sameKeyRow_ (H : Sat z w As) (d : Dm) : Spec cf 74 #[.agg (ksL d).toArray, .agg (ksL d).toArray] w fun e w' => e = .bool true ∧ Sat z w' As := by
  refine enter (l := [.agg (ksL d).toArray, .agg (ksL d).toArray]) Tryd.func74 rfl rfl rfl rfl rfl ?_
  repeat' (first | (refine zA ?_; first | refine zB ?_) | (refine zI ?_; first | refine zJ ?_ | refine zK ?_ | refine zL ?_ | refine zM ?_ | refine zN ?_ | refine zO ?_ | refine zP ?_ | refine zQ ?_ | refine zR ?_) | refine zS ?_)
  refine OpsW.boxF H rfl rfl rfl fun b1 w H => ?_
  repeat' (first | (refine zA ?_; first | refine zB ?_) | (refine zI ?_; first | refine zJ ?_ | refine zK ?_ | refine zL ?_ | refine zM ?_ | refine zN ?_ | refine zO ?_ | refine zP ?_ | refine zQ ?_ | refine zR ?_) | refine zS ?_)
  refine OpsW.boxF H rfl rfl rfl fun b0 w H => ?_
  repeat' (first | (refine zA ?_; first | refine zB ?_) | (refine zI ?_; first | refine zJ ?_ | refine zK ?_ | refine zL ?_ | refine zM ?_ | refine zN ?_ | refine zO ?_ | refine zP ?_ | refine zQ ?_ | refine zR ?_) | refine zS ?_)
  have hSK : ∀ {w : World}, Sat z w (blk b0 68 (ksL d) :: blk b1 68 (ksL d) :: As) → Spec cf 34 #[.slice (some ⟨b1, 0, none⟩) 16 16, .slice (some ⟨b0, 0, none⟩) 16 16] w fun e w' => e = .bool true ∧ Sat z w' (blk b0 68 (ksL d) :: blk b1 68 (ksL d) :: As) := fun {w} H =>
    sameKeysR_ H (X.mk 16 d.k) (by rw [mk_length]; decide) (slr_ksL p1) (slr_ksL p0)
  (first | refine CW.seqDraw mo H [0, 0, 3, 7] fun w H => ?_ | refine CW.draw mo H [0, 0, 3, 7] fun w H => ?_); refine AnyW.seg (m := 4) (by kernel_rfl) (by kernel_rfl) H rfl ?_
  refine .cons rfl (fun τ w H => .slcA rfl rfl rfl rfl rfl rfl (.nil ⟨rfl, H⟩)) ?_
  refine .cons rfl (fun τ w H => .slcA rfl rfl rfl rfl rfl rfl (.nil ⟨rfl, H⟩)) ?_
  refine .cons rfl (fun τ w H => .call rfl rfl rfl (hSK H) fun _ w h => by obtain ⟨rfl, H⟩ := h; exact OpsW.nil ⟨rfl, H⟩) ?_
  refine .cons rfl (fun τ w H => .st rfl (.nil ⟨rfl, H⟩)) ?_
  refine DrawP.nil fun w H => ?_
  refine AnyW.done ?_
  repeat' (first | (refine zA ?_; first | refine zB ?_) | (refine zI ?_; first | refine zJ ?_ | refine zK ?_ | refine zL ?_ | refine zM ?_ | refine zN ?_ | refine zO ?_ | refine zP ?_ | refine zQ ?_ | refine zR ?_) | refine zS ?_)
  exact ret1 rfl ⟨rfl, H.drop.drop⟩
set_option maxHeartbeats 2000000 in
theorem same17_ (H : Sat z w As) (d : Dm) : Spec cf 42 #[.agg d.c.toArray, .agg (eD d).toArray] w fun e w' => e = .bool true ∧ Sat z w' As := by
  refine enter (l := [.agg d.c.toArray, .agg (eD d).toArray]) Tryd.func42 rfl rfl rfl rfl rfl ?_
  repeat' (first | (refine zA ?_; first | refine zB ?_) | (refine zI ?_; first | refine zJ ?_ | refine zK ?_ | refine zL ?_ | refine zM ?_ | refine zN ?_ | refine zO ?_ | refine zP ?_ | refine zQ ?_ | refine zR ?_) | refine zS ?_)
  refine OpsW.boxF H rfl rfl rfl fun b1 w H => ?_
  repeat' (first | (refine zA ?_; first | refine zB ?_) | (refine zI ?_; first | refine zJ ?_ | refine zK ?_ | refine zL ?_ | refine zM ?_ | refine zN ?_ | refine zO ?_ | refine zP ?_ | refine zQ ?_ | refine zR ?_) | refine zS ?_)
  refine OpsW.boxF H rfl rfl rfl fun b0 w H => ?_
  repeat' (first | (refine zA ?_; first | refine zB ?_) | (refine zI ?_; first | refine zJ ?_ | refine zK ?_ | refine zL ?_ | refine zM ?_ | refine zN ?_ | refine zO ?_ | refine zP ?_ | refine zQ ?_ | refine zR ?_) | refine zS ?_)
  refine OpsW.ldA H p1 rfl rfl rfl (dm_ld91 d) rfl ?_
  repeat' (refine zA ?_; refine zB ?_)
  refine OpsW.ldA H p1 rfl rfl rfl (dm_ld96 d) rfl ?_
  repeat' (refine zA ?_; refine zB ?_)
  refine OpsW.ldA H p1 rfl rfl rfl (dm_ld101 d) rfl ?_
  repeat' (refine zA ?_; refine zB ?_)
  refine OpsW.bsl H rfl rfl rfl rfl rfl rfl rfl rfl fun b2 w H => ?_
  repeat' (first | (refine zA ?_; first | refine zB ?_) | (refine zI ?_; first | refine zJ ?_ | refine zK ?_ | refine zL ?_ | refine zM ?_ | refine zN ?_ | refine zO ?_ | refine zP ?_ | refine zQ ?_ | refine zR ?_) | refine zS ?_)
  refine OpsW.ldA H p1 rfl rfl rfl (eD_ld91 d) rfl ?_
  repeat' (refine zA ?_; refine zB ?_)
  refine OpsW.ldA H p1 rfl rfl rfl (eD_ld96 d) rfl ?_
  repeat' (refine zA ?_; refine zB ?_)
  refine OpsW.ldA H p1 rfl rfl rfl (eD_ld101 d) rfl ?_
  repeat' (refine zA ?_; refine zB ?_)
  refine OpsW.bsl H rfl rfl rfl rfl rfl rfl rfl rfl fun b3 w H => ?_
  repeat' (first | (refine zA ?_; first | refine zB ?_) | (refine zI ?_; first | refine zJ ?_ | refine zK ?_ | refine zL ?_ | refine zM ?_ | refine zN ?_ | refine zO ?_ | refine zP ?_ | refine zQ ?_ | refine zR ?_) | refine zS ?_)
  refine OpsW.ldA H p3 rfl rfl rfl (frL_ld d) rfl ?_
  repeat' (refine zA ?_; refine zB ?_)
  refine OpsW.ldA H p2 rfl rfl rfl (eD_fr d) rfl ?_
  repeat' (refine zA ?_; refine zB ?_)
  refine OpsW.call rfl rfl rfl (sameFrame_ H d) ?_
  rintro _ w ⟨rfl, H⟩
  repeat' (first | (refine zA ?_; first | refine zB ?_) | (refine zI ?_; first | refine zJ ?_ | refine zK ?_ | refine zL ?_ | refine zM ?_ | refine zN ?_ | refine zO ?_ | refine zP ?_ | refine zQ ?_ | refine zR ?_) | refine zS ?_)
  refine OpsW.ldA H p3 rfl rfl rfl (ksL_ld d) rfl ?_
  repeat' (refine zA ?_; refine zB ?_)
  refine OpsW.ldA H p2 rfl rfl rfl (eD_ks d) rfl ?_
  repeat' (refine zA ?_; refine zB ?_)
  refine OpsW.call rfl rfl rfl (sameKeyRow_ H d) ?_
  rintro _ w ⟨rfl, H⟩
  repeat' (first | (refine zA ?_; first | refine zB ?_) | (refine zI ?_; first | refine zJ ?_ | refine zK ?_ | refine zL ?_ | refine zM ?_ | refine zN ?_ | refine zO ?_ | refine zP ?_ | refine zQ ?_ | refine zR ?_) | refine zS ?_)
  refine OpsW.call rfl rfl rfl (sameKeysR_ H [d.mem, d.meter, d.keeper] (by show 3 ≤ 1000; decide) (SlR.of_blk (r := []) rfl (Nat.le_refl 3)).tail (SlR.of_blk (r := []) rfl (Nat.le_refl 3))) ?_
  rintro _ w ⟨rfl, H⟩
  repeat' (first | (refine zA ?_; first | refine zB ?_) | (refine zI ?_; first | refine zJ ?_ | refine zK ?_ | refine zL ?_ | refine zM ?_ | refine zN ?_ | refine zO ?_ | refine zP ?_ | refine zQ ?_ | refine zR ?_) | refine zS ?_)
  refine OpsW.ld H p3 rfl rfl rfl rfl (dm_ld106 d) rfl ?_
  repeat' (refine zA ?_; refine zB ?_)
  refine OpsW.ld H p2 rfl rfl rfl rfl (eD_ld106 d) rfl ?_
  repeat' (first | (refine zA ?_; first | refine zB ?_) | (refine zI ?_; first | refine zJ ?_ | refine zK ?_ | refine zL ?_ | refine zM ?_ | refine zN ?_ | refine zO ?_ | refine zP ?_ | refine zQ ?_ | refine zR ?_) | refine zS ?_)
  rw [beq_self_eq_true]
  exact ret1 rfl ⟨rfl, H.drop.drop.drop.drop⟩
end
end Go.Proofs.YtnfefbhjdncccaaDoor.X
