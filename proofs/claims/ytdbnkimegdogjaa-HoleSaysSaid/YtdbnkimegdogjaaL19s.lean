/- The law HoleSays of chapter 19, walked; conditions: none. -/
import Derived.Test.YtdbnkimegdogjaaA19h
import Derived.Test.YtdbnkimegdogjaaSKR
import Derived.Test.YtdbnkimegdogjaaR3
namespace Go.Proofs.Ytdbnkimegdogjaa.X
open Go Go.Proofs
set_option linter.unusedSimpArgs false
set_option linter.unusedVariables false
def shKey19 : Sh := .pair (.int .i64) (.pair (.int .i64) (.pair (.int .i64) (.pair (.int .i64) (.pair (.int .u32) .nil))))
def shFac19 : Sh := .pair (.int .i64) (.pair (.int .i64) (.pair .bool (.pair (.sl shKey19) .nil)))
def toK19 (x : shKey19.T) : K := ⟨x.1, x.2.1, x.2.2.1, x.2.2.2.1, x.2.2.2.2.1⟩
theorem flat_key19 (l : List shKey19.T) : l.flatMap (Sh.cells shKey19) = (l.map toK19).flatMap K.l := by
  induction l with
  | nil => rfl
  | cons a l ih => rw [List.flatMap_cons, List.map_cons, List.flatMap_cons, ih]; rfl
def toF19 (y : shFac19.T) : Fac := ⟨y.1, y.2.1, y.2.2.1, y.2.2.2.1.a, y.2.2.2.1.cap, y.2.2.2.1.l.map toK19⟩
theorem toF19_c (y : shFac19.T) : shFac19.cells y = (toF19 y).c := by
  show [Value.int .i64 y.1, .int .i64 y.2.1, .bool y.2.2.1, .slice y.2.2.2.1.a y.2.2.2.1.l.length y.2.2.2.1.cap] = [Value.int .i64 y.1, .int .i64 y.2.1, .bool y.2.2.1, .slice y.2.2.2.1.a (y.2.2.2.1.l.map toK19).length y.2.2.2.1.cap]
  rw [List.length_map]
theorem flat_fac19 (l : List shFac19.T) : l.flatMap (Sh.cells shFac19) = (l.map toF19).flatMap Fac.c := by
  induction l with
  | nil => rfl
  | cons a l ih => rw [List.flatMap_cons, List.map_cons, List.flatMap_cons, ih, toF19_c]
theorem toF19_ok {W : World} (y : shFac19.T) (h : shFac19.good W y) : (toF19 y).ok [snap W] := by
  obtain ⟨_, _, h3⟩ := h.2.2.2.1
  show SlR [snap W] (.slice y.2.2.2.1.a (y.2.2.2.1.l.map toK19).length y.2.2.2.1.cap) 5 (y.2.2.2.1.l.map toK19).length ((y.2.2.2.1.l.map toK19).flatMap K.l)
  rw [← flat_key19, List.length_map]
  exact h3
theorem len_eq0 (n : Nat) : (decide (n = 0) == ((n : Int) == 0)) = true := by
  cases n with
  | zero => rfl
  | succ n => simp; omega
attribute [local irreducible] CW OpsW RetW Spec blk snap DrawP AnyW AnyM AnyN bits IntKind.wrap vec K.sensory namedF reach isHole K.valid K.weaken K.same
set_option maxHeartbeats 4000000 in
theorem holeSays_ (W : World) (k : K) (hk : k.wf) (y : shFac19.T) (hy : shFac19.good W y) (v : Value) (ly : List shFac19.T) (hly : ly.length ≤ maxLen) (hlw : ∀ k ∈ ly, shFac19.good W k) (hvy : SlR [snap W] v 4 ly.length (ly.flatMap shFac19.cells)) :
    Spec cf 3 #[k.v, .agg (shFac19.cells y).toArray, v] W fun v w' => v = .bool true ∧ Sat W w' [snap W] := by
  have H := Sat.start W
  have hf := toF19_ok y hy
  rw [toF19_c y]
  generalize toF19 y = f at *
  have hv : SlR [snap W] v 4 (ly.map toF19).length ((ly.map toF19).flatMap Fac.c) := by
    rw [← flat_fac19, List.length_map]; exact hvy
  have hl : (ly.map toF19).length ≤ maxLen := by rw [List.length_map]; exact hly
  have hok : ∀ g ∈ ly.map toF19, g.ok [snap W] := fun g hg => by
    obtain ⟨x, hx, rfl⟩ := List.mem_map.1 hg
    exact toF19_ok x (hlw x hx)
  clear hvy hly hlw
  generalize ly.map toF19 = fs at *
  obtain ⟨a, cap, rfl⟩ := lenW hv
  have hml : maxLen ≤ 9223372036854775807 := by decide
  refine enter (l := [k.v, .agg f.c.toArray, .slice a fs.length cap]) Try.func3 rfl rfl rfl rfl rfl ?_
  repeat' (first | (refine zA ?_; first | refine zB ?_ | refine zC H ?_ | refine zD H ?_ | refine zE H fun _ _ H => ?_ | refine zF H fun _ _ H => ?_ | refine zG H fun _ H => ?_ | refine zH H fun _ H => ?_) | (refine zI ?_; first | refine zJ ?_ | refine zK ?_ | refine zL ?_ | refine CW.seqDc ?_ | refine CW.seqDb ?_ | refine CW.seqDl ?_ | refine CW.seqDs ?_ | refine CW.seqDk ?_ | refine zN ?_ | refine zO ?_ | refine zP ?_ | refine zQ ?_ | refine zR ?_) | refine zS ?_)
  rename_i bf _
  replace H : Sat W _ (blk bf 27 f.c :: blk _ 24 k.l :: [snap W]) := H
  rename_i bk _ _ _
  refine OpsW.call rfl rfl rfl (first19_ H) ?_
  rintro _ w ⟨rfl, H⟩
  repeat' (first | (refine zA ?_; first | refine zB ?_ | refine zC H ?_ | refine zD H ?_ | refine zE H fun _ _ H => ?_ | refine zF H fun _ _ H => ?_ | refine zG H fun _ H => ?_ | refine zH H fun _ H => ?_) | (refine zI ?_; first | refine zJ ?_ | refine zK ?_ | refine zL ?_ | refine CW.seqDc ?_ | refine CW.seqDb ?_ | refine CW.seqDl ?_ | refine CW.seqDs ?_ | refine CW.seqDk ?_ | refine zN ?_ | refine zO ?_ | refine zP ?_ | refine zQ ?_ | refine zR ?_) | refine zS ?_)
  refine OpsW.call rfl rfl rfl (light_ H (by omega) hv.tail.tail fun g hg => SlR.tail (SlR.tail (hok g hg))) ?_
  rintro _ w ⟨c1, rfl, h1, H⟩
  cases c1
  · repeat' (first | (refine zA ?_; first | refine zB ?_ | refine zC H ?_ | refine zD H ?_ | refine zE H fun _ _ H => ?_ | refine zF H fun _ _ H => ?_ | refine zG H fun _ H => ?_ | refine zH H fun _ H => ?_) | (refine zI ?_; first | refine zJ ?_ | refine zK ?_ | refine zL ?_ | refine CW.seqDc ?_ | refine CW.seqDb ?_ | refine CW.seqDl ?_ | refine CW.seqDs ?_ | refine CW.seqDk ?_ | refine zN ?_ | refine zO ?_ | refine zP ?_ | refine zQ ?_ | refine zR ?_) | refine zS ?_)
    exact ret1 rfl ⟨rfl, H.d2⟩
  obtain ⟨h20, hp8⟩ := h1 rfl
  repeat' (first | (refine zA ?_; first | refine zB ?_ | refine zC H ?_ | refine zD H ?_ | refine zE H fun _ _ H => ?_ | refine zF H fun _ _ H => ?_ | refine zG H fun _ H => ?_ | refine zH H fun _ H => ?_) | (refine zI ?_; first | refine zJ ?_ | refine zK ?_ | refine zL ?_ | refine CW.seqDc ?_ | refine CW.seqDb ?_ | refine CW.seqDl ?_ | refine CW.seqDs ?_ | refine CW.seqDk ?_ | refine zN ?_ | refine zO ?_ | refine zP ?_ | refine zQ ?_ | refine zR ?_) | refine zS ?_)
  refine OpsW.bsl (l := f.c) H rfl rfl rfl rfl rfl rfl rfl rfl fun bl w H => ?_
  refine OpsW.call rfl rfl rfl (light_ (fs := [f]) H (by show 1 ≤ _; decide) (SlR.of_blk (r := []) rfl (Nat.le_refl 1)) fun g hg => ?_) ?_
  · obtain rfl : g = f := by simpa using hg
    exact SlR.tail (SlR.tail (SlR.tail hf))
  rintro _ w ⟨c2, rfl, h2, H⟩
  cases c2
  · repeat' (first | (refine zA ?_; first | refine zB ?_ | refine zC H ?_ | refine zD H ?_ | refine zE H fun _ _ H => ?_ | refine zF H fun _ _ H => ?_ | refine zG H fun _ H => ?_ | refine zH H fun _ H => ?_) | (refine zI ?_; first | refine zJ ?_ | refine zK ?_ | refine zL ?_ | refine CW.seqDc ?_ | refine CW.seqDb ?_ | refine CW.seqDl ?_ | refine CW.seqDs ?_ | refine CW.seqDk ?_ | refine zN ?_ | refine zO ?_ | refine zP ?_ | refine zQ ?_ | refine zR ?_) | refine zS ?_)
    exact ret1 rfl ⟨rfl, H.d3⟩
  obtain ⟨-, hq8⟩ := h2 rfl
  have hf8 := hq8 f (by simp)
  repeat' (first | (refine zA ?_; first | refine zB ?_ | refine zC H ?_ | refine zD H ?_ | refine zE H fun _ _ H => ?_ | refine zF H fun _ _ H => ?_ | refine zG H fun _ H => ?_ | refine zH H fun _ H => ?_) | (refine zI ?_; first | refine zJ ?_ | refine zK ?_ | refine zL ?_ | refine CW.seqDc ?_ | refine CW.seqDb ?_ | refine CW.seqDl ?_ | refine CW.seqDs ?_ | refine CW.seqDk ?_ | refine zN ?_ | refine zO ?_ | refine zP ?_ | refine zQ ?_ | refine zR ?_) | refine zS ?_)
  refine OpsW.call rfl rfl rfl (valid_ _ _ _ H k) ?_
  rintro _ w ⟨rfl, H⟩
  repeat' (first | (refine zA ?_; first | refine zB ?_ | refine zC H ?_ | refine zD H ?_ | refine zE H fun _ _ H => ?_ | refine zF H fun _ _ H => ?_ | refine zG H fun _ H => ?_ | refine zH H fun _ H => ?_) | (refine zI ?_; first | refine zJ ?_ | refine zK ?_ | refine zL ?_ | refine CW.seqDc ?_ | refine CW.seqDb ?_ | refine CW.seqDl ?_ | refine CW.seqDs ?_ | refine CW.seqDk ?_ | refine zN ?_ | refine zO ?_ | refine zP ?_ | refine zQ ?_ | refine zR ?_) | refine zS ?_)
  refine OpsW.gs rfl rfl rfl (fun h => ?_) (fun h => ?_)
  · repeat' (first | (refine zA ?_; first | refine zB ?_ | refine zC H ?_ | refine zD H ?_ | refine zE H fun _ _ H => ?_ | refine zF H fun _ _ H => ?_ | refine zG H fun _ H => ?_ | refine zH H fun _ H => ?_) | (refine zI ?_; first | refine zJ ?_ | refine zK ?_ | refine zL ?_ | refine CW.seqDc ?_ | refine CW.seqDb ?_ | refine CW.seqDl ?_ | refine CW.seqDs ?_ | refine CW.seqDk ?_ | refine zN ?_ | refine zO ?_ | refine zP ?_ | refine zQ ?_ | refine zR ?_) | refine zS ?_)
    exact ret1 rfl ⟨rfl, H.d3⟩
  repeat' (first | (refine zA ?_; first | refine zB ?_ | refine zC H ?_ | refine zD H ?_ | refine zE H fun _ _ H => ?_ | refine zF H fun _ _ H => ?_ | refine zG H fun _ H => ?_ | refine zH H fun _ H => ?_) | (refine zI ?_; first | refine zJ ?_ | refine zK ?_ | refine zL ?_ | refine CW.seqDc ?_ | refine CW.seqDb ?_ | refine CW.seqDl ?_ | refine CW.seqDs ?_ | refine CW.seqDk ?_ | refine zN ?_ | refine zO ?_ | refine zP ?_ | refine zQ ?_ | refine zR ?_) | refine zS ?_)
  refine OpsW.call rfl rfl rfl (other8_ H (by omega) hv.tail.tail.tail) ?_
  rintro _ w ⟨xa, xc, rfl, H⟩
  obtain ⟨T1, -, s1, H⟩ := Sat.vopen H
  replace H := (H.perm p1).drop
  have hok3 : ∀ {A B C : HP}, ∀ g ∈ fs, g.ok [A, B, C, snap W] ∧ g.parts.length ≤ 8 := fun g hg => ⟨SlR.tail (SlR.tail (SlR.tail (hok g hg))), hp8 g hg⟩
  have hok4 : ∀ {A B C D : HP}, ∀ g ∈ fs, g.ok [A, B, C, D, snap W] ∧ g.parts.length ≤ 8 := fun g hg => ⟨SlR.tail (hok3 g hg).1, hp8 g hg⟩
  have hok5 : ∀ {A B C D E : HP}, ∀ g ∈ fs, g.ok [A, B, C, D, E, snap W] ∧ g.parts.length ≤ 8 := fun g hg => ⟨SlR.tail (hok4 g hg).1, hp8 g hg⟩
  have mil : ∀ {n : Nat}, n ≤ 8 → n ≤ 1000000 := fun h => by omega
  repeat' (first | (refine zA ?_; first | refine zB ?_ | refine zC H ?_ | refine zD H ?_ | refine zE H fun _ _ H => ?_ | refine zF H fun _ _ H => ?_ | refine zG H fun _ H => ?_ | refine zH H fun _ H => ?_) | (refine zI ?_; first | refine zJ ?_ | refine zK ?_ | refine zL ?_ | refine CW.seqDc ?_ | refine CW.seqDb ?_ | refine CW.seqDl ?_ | refine CW.seqDs ?_ | refine CW.seqDk ?_ | refine zN ?_ | refine zO ?_ | refine zP ?_ | refine zQ ?_ | refine zR ?_) | refine zS ?_)
  refine OpsW.call rfl rfl rfl (holes8_ H h20 (s1 _) hok3 hf8 (SlR.tail (SlR.tail (SlR.tail hf)))) ?_
  rintro _ w ⟨ya, yc, rfl, H⟩
  obtain ⟨T2, -, s2, H⟩ := Sat.vopen (kvec_open H)
  have hff := List.length_filter_le (isHole fs) f.parts
  repeat' (first | (refine zA ?_; first | refine zB ?_ | refine zC H ?_ | refine zD H ?_ | refine zE H fun _ _ H => ?_ | refine zF H fun _ _ H => ?_ | refine zG H fun _ H => ?_ | refine zH H fun _ H => ?_) | (refine zI ?_; first | refine zJ ?_ | refine zK ?_ | refine zL ?_ | refine CW.seqDc ?_ | refine CW.seqDb ?_ | refine CW.seqDl ?_ | refine CW.seqDs ?_ | refine CW.seqDk ?_ | refine zN ?_ | refine zO ?_ | refine zP ?_ | refine zQ ?_ | refine zR ?_) | refine zS ?_)
  (first | refine CW.seqDraw mo H [0, 0, 3, 0, 0, 31, 63, 127, 255, 255, 1023, 255, 4095, 8191, 16383, 32767, 32767, 131071, 32767, 294911, 819199, 2097151, 4194303, 8388607] fun w H => ?_ | refine CW.draw mo H [0, 0, 3, 0, 0, 31, 63, 127, 255, 255, 1023, 255, 4095, 8191, 16383, 32767, 32767, 131071, 32767, 294911, 819199, 2097151, 4194303, 8388607] fun w H => ?_); refine AnyW.seg (m := 8) (by kernel_rfl) (by kernel_rfl) H rfl ?_
  refine .cons rfl (fun τ w H => .ldA H p3 rfl rfl rfl (by rfl) rfl (.nil ⟨rfl, H⟩)) ?_
  refine .cons rfl (fun τ w H => .st rfl (.nil ⟨rfl, H⟩)) ?_
  refine .cons rfl (fun τ w H => .call rfl rfl rfl (hole_is H (by omega) hv.tail.tail.tail.tail (fun g hg => ⟨(hok4 g hg).1, mil (hp8 g hg)⟩) k) fun _ w h => by obtain ⟨rfl, H⟩ := h; exact OpsW.nil ⟨rfl, H⟩) ?_
  refine .cons rfl (fun τ w H => .ldA H p3 rfl rfl rfl (by rfl) rfl (.nil ⟨rfl, H⟩)) ?_
  refine .cons rfl (fun τ w H => .st rfl (.nil ⟨rfl, H⟩)) ?_
  refine .cons rfl (fun τ w H => .call rfl rfl rfl (hole8_ H h20 (SlR.tail (s1 _)) hok4 k) fun _ w h => by obtain ⟨rfl, H⟩ := h; exact OpsW.nil ⟨rfl, H⟩) ?_
  refine .cons rfl (fun τ w H => .stV rfl (congrArg Value.bool (beq_self_eq_true (isHole fs k))) (.nil ⟨rfl, H⟩)) ?_
  refine .cons rfl (fun τ w H => .st rfl (.nil ⟨rfl, H⟩)) ?_
  refine DrawP.nil fun w H => ?_
  refine AnyW.ofN ?_
  repeat' (first | exact AllI.nil' rfl | refine AllI.cons' rfl rfl ?_ ?_ | (first | refine AnyN.take (i := 0) rfl rfl rfl (by decide +kernel) ?_ | refine AnyN.take (i := 1) rfl rfl rfl (by decide +kernel) ?_ | refine AnyN.take (i := 2) rfl rfl rfl (by decide +kernel) ?_ | refine AnyN.take (i := 3) rfl rfl rfl (by decide +kernel) ?_ | refine AnyN.take (i := 4) rfl rfl rfl (by decide +kernel) ?_ | refine AnyN.take (i := 5) rfl rfl rfl (by decide +kernel) ?_ | refine AnyN.take (i := 6) rfl rfl rfl (by decide +kernel) ?_ | refine AnyN.take (i := 7) rfl rfl rfl (by decide +kernel) ?_ | refine AnyN.take (i := 8) rfl rfl rfl (by decide +kernel) ?_ | refine AnyN.take (i := 9) rfl rfl rfl (by decide +kernel) ?_ | refine AnyN.take (i := 10) rfl rfl rfl (by decide +kernel) ?_ | refine AnyN.take (i := 11) rfl rfl rfl (by decide +kernel) ?_ | refine AnyN.take (i := 12) rfl rfl rfl (by decide +kernel) ?_ | refine AnyN.take (i := 13) rfl rfl rfl (by decide +kernel) ?_ | refine AnyN.take (i := 14) rfl rfl rfl (by decide +kernel) ?_ | refine AnyN.take (i := 15) rfl rfl rfl (by decide +kernel) ?_ | refine AnyN.take (i := 16) rfl rfl rfl (by decide +kernel) ?_ | refine AnyN.take (i := 17) rfl rfl rfl (by decide +kernel) ?_ | refine AnyN.take (i := 18) rfl rfl rfl (by decide +kernel) ?_ | refine AnyN.take (i := 19) rfl rfl rfl (by decide +kernel) ?_ | refine AnyN.take (i := 20) rfl rfl rfl (by decide +kernel) ?_ | refine AnyN.take (i := 21) rfl rfl rfl (by decide +kernel) ?_ | refine AnyN.take (i := 22) rfl rfl rfl (by decide +kernel) ?_ | refine AnyN.take (i := 23) rfl rfl rfl (by decide +kernel) ?_ | refine AnyN.take (i := 24) rfl rfl rfl (by decide +kernel) ?_ | refine AnyN.take (i := 25) rfl rfl rfl (by decide +kernel) ?_ | refine AnyN.take (i := 26) rfl rfl rfl (by decide +kernel) ?_ | refine AnyN.take (i := 27) rfl rfl rfl (by decide +kernel) ?_) | refine AnyN.step rfl rfl ?_ | (refine OpsW.call rfl rfl rfl (hole_of f H (by omega) hv.tail.tail.tail.tail (fun g hg => ⟨(hok4 g hg).1, mil (hp8 g hg)⟩) (SlR.tail (SlR.tail (SlR.tail (SlR.tail hf)))) (mil hf8)) ?_; rintro _ w ⟨za, zc, rfl, H⟩; obtain ⟨T3, -, s3, H⟩ := Sat.vopen (kvec_open H)) | (refine OpsW.call rfl rfl rfl (sameKeysR_ H (f.parts.filter (isHole fs)) (by omega) (s3 _) (SlR.tail (s2 _))) ?_; rintro _ w ⟨rfl, H⟩) | (refine OpsW.call rfl rfl rfl (hole_closed f H (by omega) hv.tail.tail.tail.tail.tail (fun g hg => ⟨(hok5 g hg).1, mil (hp8 g hg)⟩) (SlR.tail (SlR.tail (SlR.tail (SlR.tail (SlR.tail hf))))) (mil hf8)) ?_; rintro _ w ⟨rfl, H⟩) | refine OpsW.ldA H p2 rfl rfl rfl (by rfl) rfl ?_ | refine OpsW.ldA H p3 rfl rfl rfl (by rfl) rfl ?_ | refine OpsW.nil ?_)
  refine AnyN.done rfl ?_
  repeat' (first | (refine zA ?_; first | refine zB ?_ | refine zC H ?_ | refine zD H ?_ | refine zE H fun _ _ H => ?_ | refine zF H fun _ _ H => ?_ | refine zG H fun _ H => ?_ | refine zH H fun _ H => ?_) | (refine zI ?_; first | refine zJ ?_ | refine zK ?_ | refine zL ?_ | refine CW.seqDc ?_ | refine CW.seqDb ?_ | refine CW.seqDl ?_ | refine CW.seqDs ?_ | refine CW.seqDk ?_ | refine zN ?_ | refine zO ?_ | refine zP ?_ | refine zQ ?_ | refine zR ?_) | refine zS ?_)
  exact ret1 rfl ⟨congrArg Value.bool (len_eq0 _), H.d5⟩
end Go.Proofs.Ytdbnkimegdogjaa.X
