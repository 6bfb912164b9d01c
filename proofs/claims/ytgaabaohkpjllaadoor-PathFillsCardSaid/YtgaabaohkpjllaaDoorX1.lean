/- The engine of this seat's proofs, part 2: one operation after the other, over an environment of slots; conditions: none. -/
import Derived.Test.YtgaabaohkpjllaaDoorX0
namespace Go.Proofs.YtgaabaohkpjllaaDoor.X
open Go
set_option linter.unusedSimpArgs false
set_option linter.unusedVariables false

/-! ### Slots -/
abbrev Env := Nat → Value
def upd (σ : Env) (d : Nat) (v : Value) : Env := fun i => bif Nat.beq i d then v else σ i
def ev (σ : Env) : Operand → Value
  | .tmp t => σ t
  | .const v => v
  | .global g => .pointer (some ⟨g, 0, none⟩)
  | .func f => .func (.func f) #[] #[]

structure Rel (N : Nat) (a : Act) (σ : Env) : Prop where
  size : a.tmps.size = N
  defers : a.defers = []
  val : ∀ i, a.tmps.getD i undef = σ i

theorem Rel.eval {N : Nat} {a : Act} {σ : Env} (R : Rel N a σ) : a.eval = ev σ := by
  funext x; cases x <;> simp [Act.eval, ev, R.val]
theorem Rel.put {N : Nat} {a : Act} {σ : Env} (R : Rel N a σ) (d : Nat) (v : Value) (hd : d < N) : Rel N (a.put (some d) v) (upd σ d v) := by
  refine ⟨by simp [Act.put, R.size], R.defers, fun i => ?_⟩
  simp only [Act.put, upd]
  have hv := R.val i
  rw [Array.getD_eq_getD_getElem?] at hv ⊢
  rw [Array.getElem?_setIfInBounds]
  by_cases h : i = d
  · subst h
    have : Nat.beq i i = true := by simp
    rw [if_pos rfl, if_pos (by rw [R.size]; exact hd), this]; rfl
  · have : Nat.beq i d = false := by
      cases hb : Nat.beq i d
      · rfl
      · exact absurd (Nat.eq_of_beq_eq_true hb) h
    rw [if_neg (fun e => h e.symm), this]; exact hv
theorem Rel.refl {N : Nat} {a : Act} {σ : Env} (R : Rel N a σ) {d : Nat} {v : Value} (h : σ d = v) : Rel N a (upd σ d v) := by
  refine ⟨R.size, R.defers, fun i => ?_⟩
  rw [R.val]; unfold upd
  cases hb : Nat.beq i d
  · rfl
  · rw [Nat.eq_of_beq_eq_true hb]; exact h

def putE (N : Nat) (σ : Env) (dst : Option Nat) (v : Value) : Option Env :=
  match dst with
  | none => some σ
  | some d => match Nat.blt d N with | true => some (upd σ d v) | false => none
theorem Rel.putE {N : Nat} {a : Act} {σ σ' : Env} {dst : Option Nat} {v : Value} (R : Rel N a σ) (h : putE N σ dst v = some σ') : Rel N (a.put dst v) σ' := by
  cases dst with
  | none => simp only [X.putE, Option.some.injEq] at h; subst h; exact R
  | some d =>
    simp only [X.putE] at h
    split at h
    · rename_i hb
      simp only [Option.some.injEq] at h; subst h
      exact R.put d v (Nat.le_of_ble_eq_true hb)
    · cases h

/-! ### Values laid open -/
def force : Value → Option Value
  | .bool b => some (.bool b)
  | .int k n => some (.int k n)
  | .float k n => some (.float k n)
  | .complex k r i => some (.complex k r i)
  | .string s => some (.string s)
  | .pointer a => some (.pointer a)
  | .slice a l c => some (.slice a l c)
  | .map r => some (.map r)
  | .chan r => some (.chan r)
  | .func f a c => some (.func f a c)
  | .nilFunc => some .nilFunc
  | .iface t v => some (.iface t v)
  | .nilIface => some .nilIface
  | .agg c => some (.agg c)
  | .tuple v => some (.tuple v)
theorem force_eq (v : Value) : force v = some v := by cases v <;> rfl
def forceL {β : Type} (l : List Value) (k : List Value → Option β) : Option β :=
  match l with
  | [] => k []
  | a :: r => match force a with
    | some a' => forceL r fun r' => k (a' :: r')
    | none => none
theorem forceL_eq {β : Type} (l : List Value) : ∀ (k : List Value → Option β), forceL l k = k l := by
  induction l with
  | nil => intro k; rfl
  | cons a r ih => intro k; simp only [forceL, force_eq, ih]

/-! ### What is known of types -/
structure Tab where
  kind : List Nat       -- 1 bool, 2 whole number, 3 string, 4 slice, 5 array, 6 struct, 7 interface, 8 pointer
  size : List Nat
  ik : List IntKind
  elem : List Nat
  alen : List Nat
  flds : List (List (Nat × Nat × Bool))   -- a struct's fields: where, how many cells, is it a struct or an array
  zero : List (List Value)

def veq : Value → Value → Bool
  | .bool a, .bool b => a == b
  | .int k a, .int k' b => decide (k = k') && a == b
  | .string a, .string b => a.data.isEmpty && b.data.isEmpty
  | .pointer none, .pointer none => true
  | .slice none 0 0, .slice none 0 0 => true
  | .nilIface, .nilIface => true
  | .nilFunc, .nilFunc => true
  | _, _ => false
theorem veq_eq {a b : Value} (h : veq a b = true) : a = b := by
  unfold veq at h
  split at h <;> first | rfl | (cases h; done) | skip
  · simp at h; rw [h]
  · simp at h; rw [h.1, h.2]
  · rename_i a b
    simp at h
    cases a; cases b; simp_all
def veqL : List Value → List Value → Bool
  | [], [] => true
  | a :: l, b :: m => veq a b && veqL l m
  | _, _ => false
theorem veqL_eq : ∀ {l m : List Value}, veqL l m = true → l = m
  | [], [], _ => rfl
  | a :: l, b :: m, h => by
    simp only [veqL, Bool.and_eq_true] at h
    rw [veq_eq h.1, veqL_eq h.2]
  | [], _ :: _, h => by simp [veqL] at h
  | _ :: _, [], h => by simp [veqL] at h

def okZero (isAgg : Bool) (z : Option Value) (l : List Value) : Bool :=
  match z, isAgg with
  | some (.agg c), true => veqL c.toList l
  | some v, false => match l with | [u] => veq v u | _ => false
  | _, _ => false
def aggB (P : Program) (t : TypeId) : Bool := match P.underlying t with | some (.struct _) | some (.array _ _) => true | _ => false
def okDesc (T : Tab) (P : Program) (t k : Nat) (d : TypeDesc) : Bool :=
  match d with
        | .bool => k == 1
        | .int kk => k == 2 && decide (T.ik.getD t .i64 = kk)
        | .string => k == 3
        | .slice e => k == 4 && T.elem.getD t 0 == e
        | .array n e => k == 5 && T.elem.getD t 0 == e && T.alen.getD t 0 == n
        | .struct fs => k == 6 && (T.flds.getD t [] == fs.toList.map fun f => (f.offset, P.cellsOf f.type, aggB P f.type)) && fs.toList.all fun f => (P.info? f.type).isSome && (P.underlying f.type).isSome && P.cellsOf f.type != 0
        | .interface _ => k == 7
        | .pointer e => k == 8 && T.elem.getD t 0 == e
        | _ => false
def Tab.okAt (T : Tab) (P : Program) (t : Nat) : Bool :=
  match T.kind.getD t 0 with
  | 0 => true
  | k => match P.info? t, P.underlying t with
    | some i, some d => i.size == T.size.getD t 0 && okZero (k == 5 || k == 6) i.zero (T.zero.getD t []) &&
      okDesc T P t k d
    | _, _ => false
def Tab.ok (T : Tab) (P : Program) : Bool := (List.range T.kind.length).all (T.okAt P)

theorem Tab.ok_at {T : Tab} {P : Program} (h : T.ok P = true) (t : Nat) : T.okAt P t = true := by
  unfold Tab.ok at h
  by_cases ht : t < T.kind.length
  · exact List.all_eq_true.1 h t (List.mem_range.2 ht)
  · unfold Tab.okAt
    have : T.kind.getD t 0 = 0 := by rw [List.getD_eq_getElem?_getD, List.getElem?_eq_none (by omega)]; rfl
    simp only [this]

def TypeOk (T : Tab) (P : Program) (t : Nat) (k : Nat) : Prop :=
  ∃ (i : TypeInfo) (d : TypeDesc), P.info? t = some i ∧ P.underlying t = some d ∧ i.size = T.size.getD t 0 ∧
    okZero (k == 5 || k == 6) i.zero (T.zero.getD t []) = true ∧ okDesc T P t k d = true
theorem Tab.at_ {T : Tab} {P : Program} (h : T.ok P = true) {t k : Nat} (hk : T.kind.getD t 0 = k) (h0 : k ≠ 0) : TypeOk T P t k := by
  have := T.ok_at h t
  unfold Tab.okAt at this
  rw [hk] at this
  split at this
  · exact absurd rfl h0
  · split at this
    · rename_i i d hi hd
      simp only [Bool.and_eq_true, beq_iff_eq] at this
      exact ⟨i, d, hi, hd, this.1.1, this.1.2, this.2⟩
    · cases this
section
variable {T : Tab} {P : Program} (h : T.ok P = true) {t : Nat}
include h
theorem Tab.slice_ (hk : T.kind.getD t 0 = 4) : P.underlying t = some (.slice (T.elem.getD t 0)) := by
  obtain ⟨i, d, hi, hd, hs, hz, k⟩ := Tab.at_ h hk (by decide)
  cases d <;> simp [okDesc] at k
  simp [hd, k]
theorem Tab.array_ (hk : T.kind.getD t 0 = 5) : P.underlying t = some (.array (T.alen.getD t 0) (T.elem.getD t 0)) := by
  obtain ⟨i, d, hi, hd, hs, hz, k⟩ := Tab.at_ h hk (by decide)
  cases d <;> simp [okDesc] at k
  simp [hd, k.1, k.2]
theorem Tab.int_ (hk : T.kind.getD t 0 = 2) : P.underlying t = some (.int (T.ik.getD t .i64)) := by
  obtain ⟨i, d, hi, hd, hs, hz, k⟩ := Tab.at_ h hk (by decide)
  cases d <;> simp [okDesc] at k
  simp [hd, k]
theorem Tab.bool_ (hk : T.kind.getD t 0 = 1) : P.underlying t = some .bool := by
  obtain ⟨i, d, hi, hd, hs, hz, k⟩ := Tab.at_ h hk (by decide)
  cases d <;> simp [okDesc] at k
  rw [hd]
theorem Tab.string_ (hk : T.kind.getD t 0 = 3) : P.underlying t = some .string := by
  obtain ⟨i, d, hi, hd, hs, hz, k⟩ := Tab.at_ h hk (by decide)
  cases d <;> simp [okDesc] at k
  rw [hd]
theorem Tab.iface_ (hk : T.kind.getD t 0 = 7) : ∃ ms, P.underlying t = some (.interface ms) := by
  obtain ⟨i, d, hi, hd, hs, hz, k⟩ := Tab.at_ h hk (by decide)
  cases d <;> simp [okDesc] at k
  exact ⟨_, hd⟩
theorem Tab.ptr_ (hk : T.kind.getD t 0 = 8) : P.underlying t = some (.pointer (T.elem.getD t 0)) := by
  obtain ⟨i, d, hi, hd, hs, hz, k⟩ := Tab.at_ h hk (by decide)
  cases d <;> simp [okDesc] at k
  simp [hd, k]
theorem Tab.struct_ (hk : T.kind.getD t 0 = 6) : ∃ fs : Array Field, P.underlying t = some (.struct fs) ∧ T.flds.getD t [] = fs.toList.map (fun f => (f.offset, P.cellsOf f.type, aggB P f.type)) ∧ ∀ f ∈ fs.toList, ((P.info? f.type).isSome ∧ (P.underlying f.type).isSome) ∧ P.cellsOf f.type ≠ 0 := by
  obtain ⟨i, d, hi, hd, hs, hz, k⟩ := Tab.at_ h hk (by decide)
  cases d <;> simp [okDesc] at k
  rename_i fs
  refine ⟨fs, hd, by simpa using k.1, ?_⟩
  intro f hf
  obtain ⟨j, hj, e⟩ := Array.getElem_of_mem (Array.mem_toList_iff.1 hf)
  have := k.2 j hj
  rw [e] at this
  exact this
theorem Tab.info_ {k : Nat} (hk : T.kind.getD t 0 = k) (h0 : k ≠ 0) : ∃ i, P.info? t = some i ∧ i.size = T.size.getD t 0 := by
  obtain ⟨i, d, hi, hd, hs, hz, k⟩ := Tab.at_ h hk h0
  exact ⟨i, hi, hs⟩
end
def Tab.isAgg (T : Tab) (t : Nat) : Bool := match T.kind.getD t 0 with | 5 => true | 6 => true | _ => false
/-- the zero value of a type, laid open -/
def Tab.zeroV (T : Tab) (t : Nat) : Value :=
  match T.isAgg t with
  | true => .agg (T.zero.getD t []).toArray
  | false => match T.zero.getD t [] with | [v] => v | _ => undef
theorem Tab.zero_ {T : Tab} {P : Program} (h : T.ok P = true) {t k : Nat} (hk : T.kind.getD t 0 = k) (h0 : k ≠ 0) : ∃ i, P.info? t = some i ∧ i.size = T.size.getD t 0 ∧ i.zero = some (T.zeroV t) := by
  obtain ⟨i, d, hi, hd, hs, hz, k2⟩ := Tab.at_ h hk h0
  refine ⟨i, hi, hs, ?_⟩
  have ha : T.isAgg t = (k == 5 || k == 6) := by
    unfold Tab.isAgg; rw [hk]
    split
    · simp
    · simp
    · rename_i n5 n6
      have a5 : (k == 5) = false := by simpa using n5
      have a6 : (k == 6) = false := by simpa using n6
      rw [a5, a6]; rfl
  unfold okZero at hz
  unfold Tab.zeroV
  rw [ha]
  split at hz
  · rename_i c e1 e2
    rw [e2, e1]
    have := veqL_eq hz
    show some (Value.agg c) = some (.agg (T.zero.getD t []).toArray)
    rw [← this]
  · split at hz
    · rename_i v e1 e2 e3 u e4
      have := veq_eq hz
      rw [e2, e1]
      show some v = some u
      rw [this]
    · cases hz
  · cases hz
theorem Tab.run_isAgg {T : Tab} {P : Program} (h : T.ok P = true) {t k : Nat} (hk : T.kind.getD t 0 = k) (h0 : k ≠ 0) (w : World) : (Go.isAgg t).run P w = .ok (T.isAgg t) w := by
  obtain ⟨i, d, hi, hd, hs, hz, k2⟩ := Tab.at_ h hk h0
  unfold Tab.isAgg; rw [hk]
  cases d <;> simp [okDesc] at k2 <;> simp [Go.isAgg, underlying, program, Sem.run, hd, bind, Sem.bind, pure, k2]

/-! ### Operations that look at slots alone -/
def intV (op : BinOp) (k k' : IntKind) (a b : Int) : Option Value :=
  match decide (k = k') with
  | false => none
  | true => match op with
    | .add => some (.int k (k.wrap (a + b)))
    | .sub => some (.int k (k.wrap (a - b)))
    | .mul => some (.int k (k.wrap (a * b)))
    | .quo => match b == 0 with | false => some (.int k (k.wrap (a.tdiv b))) | true => none
    | .rem => match b == 0 with | false => some (.int k (a.tmod b)) | true => none
    | .and => some (.int k (bits .and k a b))
    | .or => some (.int k (bits .or k a b))
    | .xor => some (.int k (bits .xor k a b))
    | .andNot => some (.int k (bits .andNot k a b))
    | .eql => some (.bool (a == b))
    | .neq => some (.bool (a != b))
    | .lss => some (.bool (decide (a < b)))
    | .leq => some (.bool (decide (a ≤ b)))
    | .gtr => some (.bool (decide (a > b)))
    | .geq => some (.bool (decide (a ≥ b)))
    | _ => none
def isC : Operand → Bool
  | .const _ => true
  | _ => false
def binV (T : Tab) (op : BinOp) (t : TypeId) (x y : Operand) (vx vy : Value) : Option Value :=
  match vx with
  | .int k a => match vy with
    | .int k' b => match op with
      | .shl => match decide (b < 0) with | false => some (.int k (k.wrap (a * 2 ^ min b.toNat k.bits))) | true => none
      | .shr => match decide (b < 0) with | false => some (.int k (a.fdiv (2 ^ min b.toNat k.bits))) | true => none
      | _ => intV op k k' a b
    | _ => none
  | .bool a => match vy, T.kind.getD t 0, op with
    | .bool b, 1, .eql => some (.bool (a == b))
    | .bool b, 1, .neq => some (.bool (!(a == b)))
    | _, _, _ => none
  | .string a => match vy, op with
    | .string b, .eql => some (.bool (a.toList == b.toList))
    | .string b, .neq => some (.bool (!(a.toList == b.toList)))
    | _, _ => none
  | .pointer none => match vy, T.kind.getD t 0, op with
    | .pointer b, 8, .eql => some (.bool b.isNone)
    | .pointer b, 8, .neq => some (.bool (!b.isNone))
    | _, _, _ => none
  | .pointer (some _) => match vy, T.kind.getD t 0, op with
    | .pointer none, 8, .eql => some (.bool false)
    | .pointer none, 8, .neq => some (.bool true)
    | _, _, _ => none
  | .nilIface => match vy, T.kind.getD t 0, op, (isC x || isC y) with
    | .nilIface, 7, .eql, true => some (.bool true)
    | .nilIface, 7, .neq, true => some (.bool false)
    | .iface _ _, 7, .eql, _ => some (.bool false)
    | .iface _ _, 7, .neq, _ => some (.bool true)
    | _, _, _, _ => none
  | .iface _ _ => match vy, T.kind.getD t 0, op with
    | .nilIface, 7, .eql => some (.bool false)
    | .nilIface, 7, .neq => some (.bool true)
    | _, _, _ => none
  | .slice a _ _ => match vy, T.kind.getD t 0, op with
    | .slice none _ _, 4, .eql => some (.bool a.isNone)
    | .slice none _ _, 4, .neq => some (.bool (!a.isNone))
    | _, _, _ => none
  | _ => none

theorem run_und {P : Program} {t : TypeId} {d : TypeDesc} (h : P.underlying t = some d) (w : World) : (underlying t).run P w = .ok d w := by
  simp [underlying, program, Sem.run, h, bind, Sem.bind, pure]

theorem intV_run {op : BinOp} {k k' : IntKind} {a b : Int} {v : Value} (hop : op ≠ .shl ∧ op ≠ .shr) (h : intV op k k' a b = some v) (P : Program) (t : TypeId) (w : World) :
    (binOp op t (.int k a) (.int k' b)).run P w = .ok v w := by
  unfold intV at h
  split at h
  · cases h
  · rename_i hk
    have hk := of_decide_eq_true hk
    subst hk
    cases op <;> simp at h hop <;> simp [binOp, Op.intArith, Op.intBits, Op.intCmp, Sem.run, pure, bits, ← h]
    · split at h
      · rename_i e
        have e : b ≠ 0 := by simpa using e
        simp at h
        simp [Op.intDiv, Sem.run, pure, e, ← h]
      · cases h
    · split at h
      · rename_i e
        have e : b ≠ 0 := by simpa using e
        simp at h
        simp [Op.intDiv, Sem.run, pure, e, ← h]
      · cases h
theorem run_bind {α β : Type} (s : Sem α) (f : α → Sem β) (P : Program) (w w' : World) (a : α) (h : s.run P w = .ok a w') : (s >>= f).run P w = (f a).run P w' := by
  show (Sem.bind s f).run P w = _
  induction s generalizing w with
  | pure a' => simp [Sem.run] at h; obtain ⟨rfl, rfl⟩ := h; rfl
  | load m ad k ih =>
    simp only [Sem.bind, Sem.run] at h ⊢
    split at h
    · exact ih _ _ h
    · split at h
      · exact ih _ _ h
      · cases h
  | store m ad v k ih =>
    cases v <;> simp only [Sem.bind, Sem.run] at h ⊢ <;> first | (cases h; done) | skip
    all_goals
      split at h
      · split at h
        · cases h
        · rename_i hf; simp only [hf]; exact ih _ h
      · split at h
        · exact ih _ h
        · cases h
  | new o k ih => exact ih _ _ h
  | shape r k ih => exact ih _ _ h
  | freeze ad n k ih => exact ih _ h
  | frozen ad k ih => exact ih _ _ h
  | getObj r k ih =>
    simp only [Sem.bind, Sem.run] at h ⊢
    split at h <;> first | (cases h; done) | exact ih _ _ h
  | setObj r o k ih =>
    simp only [Sem.bind, Sem.run] at h ⊢
    split at h <;> first | (cases h; done) | exact ih _ h
  | choose q k ih =>
    simp only [Sem.bind, Sem.run] at h ⊢
    split at h
    · rename_i hq; simp only [hq]; exact ih _ _ h
    · rename_i hq; simp only [hq]; exact ih _ _ h
  | sys c k ih => exact ih _ _ h
  | program k ih => exact ih _ _ h
  | mark m k ih => exact ih _ h
  | halt hh => simp [Sem.run] at h

theorem eq_bool {P : Program} {t : TypeId} (a b : Bool) (hu : P.underlying t = some .bool) (w : World) : (Op.equal t (.bool a) (.bool b)).run P w = .ok (a == b) w := by
  rw [show Op.equal t (.bool a) (.bool b) = Op.equalIn (9999 + 1) t (.bool a) (.bool b) from rfl, Op.equalIn, run_bind _ _ _ _ _ _ (run_und hu w)]
  rfl
theorem eq_pn {P : Program} {t : TypeId} {e : TypeId} (b : Option Addr) (hu : P.underlying t = some (.pointer e)) (w : World) : (Op.equal t (.pointer none) (.pointer b)).run P w = .ok b.isNone w := by
  rw [show Op.equal t (.pointer none) (.pointer b) = Op.equalIn (9999 + 1) t (.pointer none) (.pointer b) from rfl, Op.equalIn, run_bind _ _ _ _ _ _ (run_und hu w)]
  rfl
theorem eq_ps {P : Program} {t : TypeId} {e : TypeId} (a : Addr) (hu : P.underlying t = some (.pointer e)) (w : World) : (Op.equal t (.pointer (some a)) (.pointer none)).run P w = .ok false w := by
  rw [show Op.equal t (.pointer (some a)) (.pointer none) = Op.equalIn (9999 + 1) t (.pointer (some a)) (.pointer none) from rfl, Op.equalIn, run_bind _ _ _ _ _ _ (run_und hu w)]
  rfl
theorem eq_nn {P : Program} {t : TypeId} {e : Array (String × TypeId)} (hu : P.underlying t = some (.interface e)) (w : World) : (Op.equal t .nilIface .nilIface).run P w = .ok true w := by
  rw [show Op.equal t .nilIface .nilIface = Op.equalIn (9999 + 1) t .nilIface .nilIface from rfl, Op.equalIn, run_bind _ _ _ _ _ _ (run_und hu w)]
  rfl
theorem eq_ni {P : Program} {t : TypeId} {e : Array (String × TypeId)} (u : TypeId) (v : Value) (hu : P.underlying t = some (.interface e)) (w : World) : (Op.equal t .nilIface (.iface u v)).run P w = .ok false w := by
  rw [show Op.equal t .nilIface (.iface u v) = Op.equalIn (9999 + 1) t .nilIface (.iface u v) from rfl, Op.equalIn, run_bind _ _ _ _ _ _ (run_und hu w)]
  rfl
theorem eq_in {P : Program} {t : TypeId} {e : Array (String × TypeId)} (u : TypeId) (v : Value) (hu : P.underlying t = some (.interface e)) (w : World) : (Op.equal t (.iface u v) .nilIface).run P w = .ok false w := by
  rw [show Op.equal t (.iface u v) .nilIface = Op.equalIn (9999 + 1) t (.iface u v) .nilIface from rfl, Op.equalIn, run_bind _ _ _ _ _ _ (run_und hu w)]
  rfl
theorem eq_sn {P : Program} {t : TypeId} {e : TypeId} (l c l' c' : Nat) (hu : P.underlying t = some (.slice e)) (w : World) : (Op.equal t (.slice none l c) (.slice none l' c')).run P w = .ok true w := by
  rw [show Op.equal t (.slice none l c) (.slice none l' c') = Op.equalIn (9999 + 1) t (.slice none l c) (.slice none l' c') from rfl, Op.equalIn, run_bind _ _ _ _ _ _ (run_und hu w)]
  rfl
theorem eq_ss {P : Program} {t : TypeId} {e : TypeId} (a : Addr) (l c l' c' : Nat) (hu : P.underlying t = some (.slice e)) (w : World) : (Op.equal t (.slice (some a) l c) (.slice none l' c')).run P w = .ok false w := by
  rw [show Op.equal t (.slice (some a) l c) (.slice none l' c') = Op.equalIn (9999 + 1) t (.slice (some a) l c) (.slice none l' c') from rfl, Op.equalIn, run_bind _ _ _ _ _ _ (run_und hu w)]
  rfl

theorem guard_noneq {op : BinOp} {t : TypeId} {x y : Operand} {a b : Value} (P : Program) (w : World) (h : a ≠ .nilIface ∨ b ≠ .nilIface ∨ isC x = true ∨ isC y = true)
    (h2 : ∀ c, a ≠ .agg c) : (eqGuard op t x y a b).run P w = .ok () w := by
  unfold eqGuard
  cases op <;> try rfl
  all_goals
    cases a <;> cases b <;> try rfl
    all_goals first
      | exact absurd rfl (h2 _)
      | (cases x <;> cases y <;> simp [isC] at h <;> rfl)
theorem bin_eql {P : Program} {t : TypeId} {a b : Value} {v : Bool} {w : World} (h : (Op.equal t a b).run P w = .ok v w) : (do pure (Value.bool (← Op.equal t a b)) : Sem Value).run P w = .ok (.bool v) w := by
  show (Op.equal t a b >>= fun r => pure (Value.bool r)).run P w = _
  rw [run_bind _ _ _ _ _ _ h]; rfl
theorem bin_neq {P : Program} {t : TypeId} {a b : Value} {v : Bool} {w : World} (h : (Op.equal t a b).run P w = .ok v w) : (do pure (Value.bool (!(← Op.equal t a b))) : Sem Value).run P w = .ok (.bool !v) w := by
  show (Op.equal t a b >>= fun r => pure (Value.bool !r)).run P w = _
  rw [run_bind _ _ _ _ _ _ h]; rfl
theorem binV_run {T : Tab} {P : Program} (hT : T.ok P = true) {op : BinOp} {t : TypeId} {x y : Operand} {vx vy v : Value} (h : binV T op t x y vx vy = some v) (w : World) :
    (do eqGuard op t x y vx vy; binOp op t vx vy).run P w = .ok v w := by
  have hg : (eqGuard op t x y vx vy).run P w = .ok () w := by
    refine guard_noneq P w ?_ ?_
    · by_cases ex : vx = .nilIface
      case neg => exact .inl ex
      by_cases ey : vy = .nilIface
      case neg => exact .inr (.inl ey)
      subst ex; subst ey
      cases hx : isC x
      · cases hy : isC y
        · simp [binV, hx, hy] at h
        · exact .inr (.inr (.inr rfl))
      · exact .inr (.inr (.inl rfl))
    · rintro c rfl; simp [binV] at h
  rw [run_bind _ _ _ _ _ _ hg]
  unfold binV at h
  split at h
  · rename_i k a
    split at h
    · rename_i k' b
      split at h
      · split at h
        · rename_i e
          have e := of_decide_eq_false e
          simp at h
          simp [binOp, Op.shift, if_neg e, Sem.run, pure, ← h]
        · cases h
      · split at h
        · rename_i e
          have e := of_decide_eq_false e
          simp at h
          simp [binOp, Op.shift, if_neg e, Sem.run, pure, ← h]
        · cases h
      · rename_i h1 h2
        exact intV_run ⟨h1, h2⟩ h P t w
    · cases h
  · rename_i a
    split at h <;> first | (cases h; done) | skip
    · rename_i b hk
      simp only [Option.some.injEq] at h; subst h
      exact bin_eql (eq_bool _ _ (Tab.bool_ hT hk) w)
    · rename_i b hk
      simp only [Option.some.injEq] at h; subst h
      exact bin_neq (eq_bool _ _ (Tab.bool_ hT hk) w)
  · rename_i a
    split at h <;> first | (cases h; done) | (simp only [Option.some.injEq] at h; subst h; simp [binOp, Op.stringOp, Sem.run, pure])
  · split at h <;> first | (cases h; done) | skip
    · rename_i b hk
      simp only [Option.some.injEq] at h; subst h
      exact bin_eql (eq_pn _ (Tab.ptr_ hT hk) w)
    · rename_i b hk
      simp only [Option.some.injEq] at h; subst h
      exact bin_neq (eq_pn _ (Tab.ptr_ hT hk) w)
  · split at h <;> first | (cases h; done) | skip
    · rename_i hk
      simp only [Option.some.injEq] at h; subst h
      exact bin_eql (eq_ps _ (Tab.ptr_ hT hk) w)
    · rename_i hk
      simp only [Option.some.injEq] at h; subst h
      exact bin_neq (eq_ps _ (Tab.ptr_ hT hk) w)
  · split at h <;> first | (cases h; done) | skip
    · rename_i hk hc
      simp only [Option.some.injEq] at h; subst h
      obtain ⟨ms, hu⟩ := Tab.iface_ hT hk
      exact bin_eql (eq_nn hu w)
    · rename_i hk hc
      simp only [Option.some.injEq] at h; subst h
      obtain ⟨ms, hu⟩ := Tab.iface_ hT hk
      exact bin_neq (eq_nn hu w)
    · rename_i hk
      simp only [Option.some.injEq] at h; subst h
      obtain ⟨ms, hu⟩ := Tab.iface_ hT hk
      exact bin_eql (eq_ni _ _ hu w)
    · rename_i hk
      simp only [Option.some.injEq] at h; subst h
      obtain ⟨ms, hu⟩ := Tab.iface_ hT hk
      exact bin_neq (eq_ni _ _ hu w)
  · split at h <;> first | (cases h; done) | skip
    · rename_i hk
      simp only [Option.some.injEq] at h; subst h
      obtain ⟨ms, hu⟩ := Tab.iface_ hT hk
      exact bin_eql (eq_in _ _ hu w)
    · rename_i hk
      simp only [Option.some.injEq] at h; subst h
      obtain ⟨ms, hu⟩ := Tab.iface_ hT hk
      exact bin_neq (eq_in _ _ hu w)
  · rename_i a _ _
    split at h <;> first | (cases h; done) | skip
    · rename_i hk
      simp only [Option.some.injEq] at h; subst h
      cases a
      · exact bin_eql (eq_sn _ _ _ _ (Tab.slice_ hT hk) w)
      · exact bin_eql (eq_ss _ _ _ _ _ (Tab.slice_ hT hk) w)
    · rename_i hk
      simp only [Option.some.injEq] at h; subst h
      cases a
      · exact bin_neq (eq_sn _ _ _ _ (Tab.slice_ hT hk) w)
      · exact bin_neq (eq_ss _ _ _ _ _ (Tab.slice_ hT hk) w)
  · cases h
end Go.Proofs.YtgaabaohkpjllaaDoor.X
