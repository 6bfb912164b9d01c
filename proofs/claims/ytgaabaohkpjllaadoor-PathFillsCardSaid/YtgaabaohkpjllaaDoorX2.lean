/- The engine of this seat's proofs, part 3: what an operation that looks at slots alone gives; conditions: none. -/
import Derived.Test.YtgaabaohkpjllaaDoorX1
namespace Go.Proofs.YtgaabaohkpjllaaDoor.X
open Go
set_option linter.unusedSimpArgs false
set_option linter.unusedVariables false

def splice (l : List Value) (off : Nat) : List Value → List Value
  | [] => l
  | v :: r => splice (l.set off v) (off + 1) r
def fillK (place : Nat → Option (Nat × Nat)) (cells : List Value) : List (Nat × Value) → Option Value
  | [] => forceL cells fun l => some (.agg l.toArray)
  | (i, v) :: r => match place i with
    | none => none
    | some (off, size) => match v.cells.toList.length == size && Nat.ble (off + size) cells.length with
      | true => fillK place (splice cells off v.cells.toList) r
      | false => none
def fk (k : IntKind) : Option IntKind :=
  match k with
  | .i8 => some .i8 | .i16 => some .i16 | .i32 => some .i32 | .i64 => some .i64 | .u8 => some .u8 | .u16 => some .u16 | .u32 => some .u32 | .u64 => some .u64
theorem fk_eq (k : IntKind) : fk k = some k := by cases k <;> rfl
def mapE (σ : Env) : List Operand → List Value
  | [] => []
  | x :: l => ev σ x :: mapE σ l
def mapP (σ : Env) : List (Nat × Operand) → List (Nat × Value)
  | [] => []
  | (i, x) :: l => (i, ev σ x) :: mapP σ l
theorem mapE_eq (σ : Env) (l : List Operand) : mapE σ l = l.map (ev σ) := by induction l <;> simp_all [mapE]
theorem mapP_eq (σ : Env) (l : List (Nat × Operand)) : mapP σ l = l.map (fun (i, x) => (i, ev σ x)) := by induction l <;> simp_all [mapP]

def plc (l : List (Nat × Nat × Bool)) (i : Nat) : Option (Nat × Nat) := match l[i]? with | some (o, n, _) => some (o, n) | none => none
def pureV (T : Tab) (σ : Env) : Op → Option Value
  | .move x => force (ev σ x)
  | .assign x => force (ev σ x)
  | .pick c a b => match ev σ c with
    | .bool true => force (ev σ a)
    | .bool false => force (ev σ b)
    | _ => none
  | .nilCheck x => match ev σ x with
    | .pointer (some a) => some (.pointer (some a))
    | .iface t v => some (.iface t v)
    | .func (.func f) a b => some (.func (.func f) a b)
    | _ => none
  | .binOp op t x y _ => binV T op t x y (ev σ x) (ev σ y)
  | .unOp op _ x => match op, ev σ x with
    | .not, .bool b => some (.bool (!b))
    | .neg, .int k n => some (.int k (k.wrap (0 - n)))
    | .xor, .int k n => some (.int k (bits .xor k (if k.signed then -1 else k.max) n))
    | _, _ => none
  | .convert src dst x => match ev σ x with
    | .int _ n => match T.kind.getD src 0, T.kind.getD dst 0, fk (T.ik.getD dst .i64) with
      | 2, 2, some k => some (.int k (k.wrap n))
      | _, _, _ => none
    | _ => none
  | .makeInterface t x => match T.kind.getD t 0 with
    | 7 => none
    | 0 => none
    | _ => match force (ev σ x) with
      | some v => some (.iface t v)
      | none => none
  | .makeFunc fn first cap => forceL (mapE σ first.toList) fun a => forceL (mapE σ cap.toList) fun c => some (.func fn a.toArray c.toArray)
  | .fieldAddr s x f => match ev σ x with
    | .pointer (some ⟨b, off, none⟩) => match T.kind.getD s 0 with
      | 6 => match (T.flds.getD s [])[f]? with
        | some (o, _, _) => some (.pointer (some ⟨b, off + o, none⟩))
        | none => none
      | _ => none
    | _ => none
  | .field s x f => match ev σ x with
    | .agg cs => match T.kind.getD s 0 with
      | 6 => match (T.flds.getD s [])[f]? with
        | some (o, n, true) => forceL ((cs.toList.drop o).take n) fun l => some (.agg l.toArray)
        | some (o, _, false) => match cs.toList[o]? with
          | some v => force v
          | none => none
        | none => none
      | _ => none
    | _ => none
  | .extract x i => match ev σ x with
    | .tuple vs => match vs.toList[i]? with
      | some v => force v
      | none => none
    | _ => none
  | .build t parts => match T.kind.getD t 0 with
    | 6 => fillK (plc (T.flds.getD t [])) (T.zero.getD t []) (mapP σ parts.toList)
    | 5 => match T.kind.getD (T.elem.getD t 0) 0 with
      | 0 => none
      | _ => fillK (fun i => some (i * T.size.getD (T.elem.getD t 0) 0, T.size.getD (T.elem.getD t 0) 0)) (T.zero.getD t []) (mapP σ parts.toList)
    | _ => none
  | .call ⟨.builtin .len, args, ts⟩ => match args.toList, ts.toList with
    | [x], [t] => match ev σ x with
      | .slice _ n _ => match T.kind.getD t 0 with
        | 4 => some (.int .i64 n)
        | _ => none
      | .string s => match T.kind.getD t 0 with
        | 3 => some (.int .i64 s.size)
        | _ => none
      | _ => none
    | _, _ => none
  | _ => none

theorem splice_length (vs : List Value) : ∀ (l : List Value) (off : Nat), (splice l off vs).length = l.length := by
  induction vs with
  | nil => intro l off; rfl
  | cons v r ih => intro l off; rw [splice, ih, List.length_set]
theorem foldl_splice (vs : List Value) : ∀ (cs : Array Value) (off k : Nat),
    (vs.zipIdx k).foldl (fun cs (p : Value × Nat) => cs.setIfInBounds (off + p.2) p.1) cs = (splice cs.toList (off + k) vs).toArray := by
  induction vs with
  | nil => intro cs off k; rfl
  | cons v r ih =>
    intro cs off k
    rw [List.zipIdx_cons, List.foldl_cons, ih]
    simp only [splice, Array.toList_setIfInBounds]
    rfl
theorem fill_run (place : Nat → Option (Nat × Nat)) : ∀ (parts : List (Nat × Value)) (cells : List Value) (v : Value), fillK place cells parts = some v →
    ∃ c, Instr.fill place cells.toArray parts = some c ∧ v = .agg c := by
  intro parts
  induction parts with
  | nil => intro cells v h; simp only [fillK, forceL_eq, Option.some.injEq] at h; exact ⟨_, rfl, h.symm⟩
  | cons p r ih =>
    obtain ⟨i, u⟩ := p
    intro cells v h
    simp only [fillK] at h
    split at h
    · cases h
    · rename_i off size hp
      split at h
      · rename_i hb
        simp only [Bool.and_eq_true, beq_iff_eq] at hb
        have h2 := Nat.le_of_ble_eq_true hb.2
        have h1 : u.cells.size = size := by simpa using hb.1
        obtain ⟨c, hc, e⟩ := ih _ _ h
        refine ⟨c, ?_, e⟩
        simp only [Instr.fill, hp]
        rw [if_neg (by simp [h1]; exact h2)]
        rw [← hc]
        congr 1
        have := foldl_splice u.cells.toList cells.toArray off 0
        simp only [Nat.add_zero] at this
        rw [← this, ← Array.foldl_toList, Array.toList_zipIdx]
      · cases h
theorem run_typeInfo {P : Program} {t : TypeId} {i : TypeInfo} (h : P.info? t = some i) (w : World) : (typeInfo t).run P w = .ok i w := by
  simp [typeInfo, program, Sem.run, h, bind, Sem.bind, pure]
theorem run_sizeOf {P : Program} {t : TypeId} {i : TypeInfo} (h : P.info? t = some i) (w : World) : (sizeOf t).run P w = .ok i.size w := by
  rw [sizeOf, X.run_bind _ _ _ _ _ _ (run_typeInfo h w)]; rfl
theorem run_zeroValue {P : Program} {t : TypeId} {i : TypeInfo} {z : Value} (h : P.info? t = some i) (hz : i.zero = some z) (w : World) : (zeroValue t).run P w = .ok z w := by
  rw [zeroValue, X.run_bind _ _ _ _ _ _ (run_typeInfo h w), hz]; rfl
theorem run_places {P : Program} (w : World) (l : List Field) (h : ∀ f ∈ l, (P.info? f.type).isSome) :
    (l.mapM (m := Sem) fun f => do pure (f.offset, ← sizeOf f.type)).run P w = .ok (l.map fun f => (f.offset, P.cellsOf f.type)) w := by
  induction l with
  | nil => rfl
  | cons f l ih =>
    obtain ⟨i, hi⟩ := Option.isSome_iff_exists.1 (h f (List.mem_cons_self ..))
    rw [List.mapM_cons]
    have e1 : (do pure (f.offset, ← sizeOf f.type) : Sem (Nat × Nat)).run P w = .ok (f.offset, P.cellsOf f.type) w := by
      show (sizeOf f.type >>= fun r => pure (f.offset, r)).run P w = _
      rw [X.run_bind _ _ _ _ _ _ (run_sizeOf hi w)]; simp [Program.cellsOf, hi]
    rw [X.run_bind _ _ _ _ _ _ e1, X.run_bind _ _ _ _ _ _ (ih fun g hg => h g (List.mem_cons_of_mem _ hg))]
    rfl
theorem isAggOf {P : Program} {t : TypeId} {d : TypeDesc} (h : P.underlying t = some d) (w : World) : (Go.isAgg t).run P w = .ok (aggB P t) w := by
  rw [Go.isAgg, X.run_bind _ _ _ _ _ _ (run_und h w)]; unfold aggB; rw [h]; cases d <;> rfl
theorem run_part {P : Program} {t : TypeId} (h : (P.info? t).isSome ∧ (P.underlying t).isSome) (cs : Array Value) (off : Nat) (w : World) {v : Value}
    (hv : (if aggB P t then some (Value.agg (cs.extract off (off + P.cellsOf t))) else cs[off]?) = some v) : (part t cs off).run P w = .ok v w := by
  obtain ⟨d, hd⟩ := Option.isSome_iff_exists.1 h.2
  obtain ⟨i, hi⟩ := Option.isSome_iff_exists.1 h.1
  rw [part, X.run_bind _ _ _ _ _ _ (isAggOf hd w)]
  by_cases hb : aggB P t = true
  · rw [if_pos hb] at hv ⊢
    rw [X.run_bind _ _ _ _ _ _ (run_sizeOf hi w)]
    simp [Program.cellsOf, hi] at hv
    rw [← hv]; rfl
  · rw [if_neg hb] at hv ⊢
    rw [hv]; rfl
theorem getD_lt {α : Type} {l : List α} {t : Nat} {d x : α} (h : l.getD t d = x) : l[t]?.getD d = x := by simpa using h
end Go.Proofs.YtgaabaohkpjllaaDoor.X
