/- The engine of this seat's proofs, part 4: an operation that looks at slots alone, carried out; conditions: none. -/
import Derived.Test.YtgaabaohkpjllaaDoorX2
namespace Go.Proofs.YtgaabaohkpjllaaDoor.X
open Go
set_option linter.unusedSimpArgs false
set_option linter.unusedVariables false

theorem run_v {P : Program} {s : Sem Value} {v : Value} {w w' : World} (h : s.run P w = .ok v w') : ((do pure (.value (← s)) : Sem Next)).run P w = .ok (.value v) w' := by
  show (s >>= fun r => pure (Next.value r)).run P w = _
  rw [X.run_bind _ _ _ _ _ _ h]; rfl
theorem und_of {T : Tab} {P : Program} (h : T.ok P = true) {t k : Nat} (hk : T.kind.getD t 0 = k) (h0 : k ≠ 0) : ∃ d, P.underlying t = some d := by
  obtain ⟨i, d, hi, hd, _, _, _⟩ := Tab.at_ h hk h0; exact ⟨d, hd⟩
theorem conc_of {T : Tab} {P : Program} (h : T.ok P = true) {t k : Nat} (hk : T.kind.getD t 0 = k) (h0 : k ≠ 0) (h7 : k ≠ 7) : ∃ d, P.underlying t = some d ∧ ∀ ms, d ≠ .interface ms := by
  obtain ⟨i, d, hi, hd, _, _, hk2⟩ := Tab.at_ h hk h0
  refine ⟨d, hd, ?_⟩
  rintro ms rfl
  simp [okDesc] at hk2
  exact h7 hk2
theorem run_mkIface {P : Program} {t : TypeId} {d : TypeDesc} (hd : P.underlying t = some d) (hn : ∀ ms, d ≠ .interface ms) (x : Value) (w : World) : (Instr.makeInterface t x).run P w = .ok (.iface t x) w := by
  rw [Instr.makeInterface, X.run_bind _ _ _ _ _ _ (run_und hd w)]
  cases d <;> first | rfl | exact absurd rfl (hn _)

section
variable {T : Tab} {P : Program} (hT : T.ok P = true)
include hT
theorem fieldAddr_run {s : TypeId} {f b off o n : Nat} {g : Bool} (hk : T.kind.getD s 0 = 6) (hf : (T.flds.getD s [])[f]? = some (o, n, g)) (w : World) :
    (Instr.fieldAt s (.pointer (some ⟨b, off, none⟩)) f).run P w = .ok (.pointer (some ⟨b, off + o, none⟩)) w := by
  obtain ⟨fs, hu, hfl, hs⟩ := Tab.struct_ hT hk
  rw [Instr.fieldAt, X.run_bind _ _ _ _ _ _ (run_und hu w)]
  rw [hfl, List.getElem?_map] at hf
  obtain ⟨fd, hfd, e⟩ := Option.map_eq_some_iff.1 hf
  have hfd' : fs[f]? = some fd := by rw [← Array.getElem?_toList]; exact hfd
  obtain ⟨⟨h1, _⟩, h2⟩ := hs fd (List.mem_of_getElem? hfd)
  obtain ⟨i, hi⟩ := Option.isSome_iff_exists.1 h1
  have hsz : i.size ≠ 0 := by simpa [Program.cellsOf, hi] using h2
  simp only [Prod.mk.injEq] at e
  simp only [hfd']
  have e1 : (fieldPlace ⟨b, off, none⟩ fd).run P w = .ok ⟨b, off + o, none⟩ w := by
    rw [fieldPlace, X.run_bind _ _ _ _ _ _ (run_sizeOf hi w), if_neg hsz, e.1]
    simp only [Addr.add]
    split
    · rename_i h0; subst h0; rfl
    · rfl
  show (Instr.sureAddr _ >>= fun a => (fieldPlace a fd) >>= fun r => pure (Value.pointer (some r))).run P w = _
  rw [X.run_bind _ _ _ _ _ _ (show (Instr.sureAddr (.pointer (some ⟨b, off, none⟩))).run P w = .ok ⟨b, off, none⟩ w from rfl), X.run_bind _ _ _ _ _ _ e1]
  rfl
theorem field_run {s : TypeId} {f o n : Nat} {g : Bool} {cs : Array Value} {v : Value} (hk : T.kind.getD s 0 = 6) (hf : (T.flds.getD s [])[f]? = some (o, n, g))
    (hv : (if g then some (Value.agg ((cs.toList.drop o).take n).toArray) else cs.toList[o]?) = some v) (w : World) : (Instr.field s (.agg cs) f).run P w = .ok v w := by
  obtain ⟨fs, hu, hfl, hs⟩ := Tab.struct_ hT hk
  rw [Instr.field, X.run_bind _ _ _ _ _ _ (run_und hu w)]
  rw [hfl, List.getElem?_map] at hf
  obtain ⟨fd, hfd, e⟩ := Option.map_eq_some_iff.1 hf
  have hfd' : fs[f]? = some fd := by rw [← Array.getElem?_toList]; exact hfd
  obtain ⟨h1, h2⟩ := hs fd (List.mem_of_getElem? hfd)
  simp only [Prod.mk.injEq] at e
  obtain ⟨e1, e2, e3⟩ := e
  simp only [hfd']
  show (asAgg (.agg cs) >>= fun a => part fd.type a fd.offset).run P w = _
  rw [X.run_bind _ _ _ _ _ _ (show (asAgg (.agg cs)).run P w = .ok cs w from rfl)]
  refine run_part h1 _ _ _ ?_
  rw [← hv, e3, e1, e2]
  split
  · congr 2
    apply Array.ext'
    simp only [Array.toList_extract, List.extract_eq_take_drop, Nat.add_sub_cancel_left]
  · rw [← Array.getElem?_toList]
theorem build_run {t : TypeId} {σ : Env} {parts : Array (Nat × Operand)} {v : Value} (h : pureV T σ (.build t parts) = some v) (w : World) :
    (Instr.build t (parts.map fun (i, x) => (i, ev σ x))).run P w = .ok v w := by
  have hp : (parts.map fun (i, x) => (i, ev σ x)).toList = mapP σ parts.toList := by rw [mapP_eq, Array.toList_map]
  simp only [pureV] at h
  split at h
  · rename_i hk
    obtain ⟨fs, hu, hfl, hs⟩ := Tab.struct_ hT hk
    obtain ⟨i, hi, hsz, hz⟩ := Tab.zero_ hT hk (by decide)
    have hzv : T.zeroV t = .agg (T.zero.getD t []).toArray := by
      unfold Tab.zeroV Tab.isAgg; rw [hk]; rfl
    rw [hzv] at hz
    obtain ⟨c, hc, e⟩ := fill_run _ _ _ _ h
    have hm : (fs.mapM (m := Sem) fun f => do pure (f.offset, ← sizeOf f.type)).run P w = .ok ((fs.toList.map fun f => (f.offset, P.cellsOf f.type)).toArray) w := by
      rw [Array.mapM_eq_mapM_toList, Sem.run_map, run_places w fs.toList (fun f hf => (hs f hf).1.1)]
      rfl
    rw [Instr.build, X.run_bind _ _ _ _ _ _ (run_zeroValue hi hz w), X.run_bind _ _ _ _ _ _ (run_und hu w)]
    dsimp only
    rw [X.run_bind _ _ _ _ _ _ hm, hp]
    have hpl : (fun (i : Nat) => (fs.toList.map fun f => (f.offset, P.cellsOf f.type)).toArray[i]?) = plc (T.flds.getD t []) := by
      funext i
      unfold plc
      rw [hfl, List.getElem?_toArray, List.getElem?_map, List.getElem?_map]
      cases fs.toList[i]? <;> rfl
    simp only [hpl]
    simp only [Value.cells, hc, e]
    rfl
  · rename_i hk
    split at h
    · cases h
    · rename_i k hk0 hk1
      have hu := Tab.array_ hT hk
      obtain ⟨i, hi, hsz, hz⟩ := Tab.zero_ hT hk (by decide)
      have hzv : T.zeroV t = .agg (T.zero.getD t []).toArray := by
        unfold Tab.zeroV Tab.isAgg; rw [hk]; rfl
      rw [hzv] at hz
      obtain ⟨ie, hie, hse⟩ := Tab.info_ hT (rfl : T.kind.getD (T.elem.getD t 0) 0 = _) (by assumption)
      rw [← hse] at h
      obtain ⟨c, hc, e⟩ := fill_run _ _ _ _ h
      rw [Instr.build, X.run_bind _ _ _ _ _ _ (run_zeroValue hi hz w), X.run_bind _ _ _ _ _ _ (run_und hu w)]
      dsimp only
      rw [X.run_bind _ _ _ _ _ _ (run_sizeOf hie w), hp]
      simp only [Value.cells, hc, e]
      rfl
  · cases h
theorem pureV_run {σ : Env} {op : Op} {v : Value} (h : pureV T σ op = some v) (dst : Option Tmp) (ty : TypeId) (pos : String) (af : Array Edge) (g : Option (Nat × Bool)) (w : World) :
    (execOp (ev σ) ⟨dst, op, ty, pos, af, g⟩).run P w = .ok (.value v) w := by
  cases op with
  | move x => simp only [pureV, force_eq, Option.some.injEq] at h; rw [← h]; rfl
  | assign x => simp only [pureV, force_eq, Option.some.injEq] at h; rw [← h]; rfl
  | pick c a b =>
    simp only [pureV, force_eq] at h
    split at h
    · rename_i e; simp only [Option.some.injEq] at h; simp [execOp, e, asBool, h]
    · rename_i e; simp only [Option.some.injEq] at h; simp [execOp, e, asBool, h]
    · cases h
  | nilCheck x =>
    simp only [pureV] at h
    split at h
    all_goals first | (cases h; done) | skip
    all_goals
      rename_i e
      simp only [Option.some.injEq] at h
      simp only [execOp, e]
      rw [← h]
      rfl
  | binOp o t x y yt => exact run_v (binV_run hT h w)
  | unOp o t x =>
    simp only [pureV] at h
    split at h
    all_goals first | (cases h; done) | skip
    all_goals
      rename_i e
      simp only [Option.some.injEq] at h
      refine run_v (w' := w) ?_
      rw [e, ← h]
      rfl
  | convert src dst x =>
    simp only [pureV, fk_eq] at h
    split at h
    · rename_i kk n e
      split at h
      · rename_i k h1 h2 h3
        simp only [Option.some.injEq] at h h3
        refine run_v (w' := w) ?_
        obtain ⟨d1, hd1⟩ := und_of hT h1 (by decide)
        rw [e, Go.convert, X.run_bind _ _ _ _ _ _ (run_und hd1 w), X.run_bind _ _ _ _ _ _ (run_und (Tab.int_ hT h2) w), h3, ← h]
        rfl
      · cases h
    · cases h
  | makeInterface t x =>
    simp only [pureV, force_eq] at h
    split at h
    · cases h
    · cases h
    · rename_i k h7 h0
      simp only [Option.some.injEq] at h
      obtain ⟨d, hd, hn⟩ := conc_of hT (rfl : T.kind.getD t 0 = _) (by assumption) (by assumption)
      rw [← h]
      exact run_v (run_mkIface hd hn _ w)
  | makeFunc fn first cap =>
    simp only [pureV, forceL_eq, Option.some.injEq] at h
    rw [← h]
    refine run_v (w' := w) ?_
    simp only [Instr.makeFunc, mapE_eq]
    have e1 : (first.toList.map (ev σ)).toArray = first.map (ev σ) := by rw [← Array.toList_map]
    have e2 : (cap.toList.map (ev σ)).toArray = cap.map (ev σ) := by rw [← Array.toList_map]
    rw [e1, e2]
    rfl
  | fieldAddr s x f =>
    simp only [pureV] at h
    split at h
    · rename_i b off e
      split at h
      · rename_i hk
        split at h
        · rename_i o n g' hf
          simp only [Option.some.injEq] at h
          rw [← h]
          refine run_v (w' := w) ?_
          rw [e]
          exact fieldAddr_run hT hk hf w
        · cases h
      · cases h
    · cases h
  | field s x f =>
    simp only [pureV, forceL_eq, force_eq] at h
    split at h
    · rename_i cs e
      split at h
      · rename_i hk
        split at h
        · rename_i o n hf
          refine run_v (w' := w) ?_
          rw [e]
          exact field_run hT hk hf (by simpa using h) w
        · rename_i o n hf
          refine run_v (w' := w) ?_
          rw [e]
          refine field_run hT hk hf ?_ w
          split at h
          · rename_i u hu
            simp only [Option.some.injEq] at h
            simp [hu, h]
          · cases h
        · cases h
      · cases h
    · cases h
  | extract x i =>
    simp only [pureV, force_eq] at h
    split at h
    · rename_i vs e
      split at h
      · rename_i u hu
        simp only [Option.some.injEq] at h
        refine run_v (w' := w) ?_
        rw [e]
        have : vs[i]? = some u := by rw [← Array.getElem?_toList]; exact hu
        simp [Instr.extract, this, h]
      · cases h
    · cases h
  | build t parts => exact run_v (build_run hT h w)
  | call c =>
    obtain ⟨cl, args, ts⟩ := c
    cases cl with
    | builtin bi =>
      cases bi <;> first | (simp [pureV] at h; done) | skip
      simp only [pureV] at h
      split at h
      · rename_i x t ha ht
        obtain rfl : args = #[x] := by cases args; simp_all
        obtain rfl : ts = #[t] := by cases ts; simp_all
        split at h
        · rename_i a n cp e
          split at h
          · rename_i hk
            simp only [Option.some.injEq] at h
            have hu := Tab.slice_ hT hk
            simp [execOp, resolve, invoke, builtin, Builtin.len_, e, underlying, program, Sem.run, hu, goInt, bind, Sem.bind, pure, ← h]
          · cases h
        · rename_i s e
          split at h
          · rename_i hk
            simp only [Option.some.injEq] at h
            have hu := Tab.string_ hT hk
            simp [execOp, resolve, invoke, builtin, Builtin.len_, e, underlying, program, Sem.run, hu, goInt, bind, Sem.bind, pure, ← h]
          · cases h
        · cases h
      · cases h
    | value f => simp [pureV] at h
    | invoke r m => simp [pureV] at h
  | _ => simp [pureV] at h
end
end Go.Proofs.YtgaabaohkpjllaaDoor.X
