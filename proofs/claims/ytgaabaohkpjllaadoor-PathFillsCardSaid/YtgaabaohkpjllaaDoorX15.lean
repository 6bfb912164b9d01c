/- The engine of this seat's proofs, part 16: make; pure operations, told apart from the world; conditions: none. -/
import Derived.Test.YtgaabaohkpjllaaDoorX14
namespace Go.Proofs.YtgaabaohkpjllaaDoor.X
open Go
set_option linter.unusedSimpArgs false
set_option linter.unusedVariables false
theorem repl_one (n : Nat) (v : Value) : repl n [v] = List.replicate n v := by
  induction n with
  | zero => rfl
  | succ n ih => rw [repl, ih, List.replicate_succ]; rfl
section
variable {C : Cfg} {N : Nat} {gd : List (Option Nat)} {r : List Oper} {σ σ' : Env} {w z : World} {Q : Env → World → Prop} {As Rs : List HP} {x y : Operand} {d t b off n1 cap1 n2 sz : Nat} {ty : TypeId} {pos : String} {af : Array Edge} {g : Option (Nat × Bool)} {v2 : Value} {c c1 c2 rest : List Value} {a : Option Addr} {dst : Option Nat}
theorem OpsW.mkc {k n : Nat} {i j : Int} {kx ky : IntKind} (H : Sat z w As) (hg : wan gd σ g = some true) (hx : ev σ x = .int kx i) (hy : ev σ y = .int ky j) (hi : i = k) (hj : j = n) (hkn : k ≤ n) (hn : n ≤ 1000000)
    (hk : Nat.beq (C.T.kind.getD t 0) 4 = true) (he : Nat.blt 0 (C.T.kind.getD (C.T.elem.getD t 0) 0) = true) (hby : ((C.P.info? (C.T.elem.getD t 0)).elim false fun i => Nat.ble i.bytes 4096) = true) (hzc : (C.T.zero.getD (C.T.elem.getD t 0) []).length = C.T.size.getD (C.T.elem.getD t 0) 0) (hd : Nat.blt d N = true)
    (K : ∀ b' w', Sat z w' (blk b' (C.T.elem.getD t 0) (repl n (C.T.zero.getD (C.T.elem.getD t 0) [])) :: As) → OpsW C N gd r (upd σ d (.slice (some ⟨b', 0, none⟩) k n)) w' Q) :
    OpsW C N gd (⟨some d, .makeSlice t x y, ty, pos, af, g⟩ :: r) σ w Q := by
  have hu := Tab.slice_ C.ok (Nat.eq_of_beq_eq_true hk)
  have he0 : C.T.kind.getD (C.T.elem.getD t 0) 0 ≠ 0 := by have := Nat.le_of_ble_eq_true he; omega
  obtain ⟨ie, hie, hs, hz⟩ := Tab.zero_ C.ok (rfl : C.T.kind.getD (C.T.elem.getD t 0) 0 = _) he0
  have hzc' := zeroV_cells C.ok (rfl : C.T.kind.getD (C.T.elem.getD t 0) 0 = _) he0
  rw [hie] at hby
  have hby : ie.bytes ≤ 4096 := Nat.le_of_ble_eq_true hby
  have hbytes : ie.bytes * n ≤ 4096 * 1000000 := Nat.mul_le_mul hby hn
  have hbi : (ie.bytes : Int) * (n : Int) ≤ 281474976710656 := by
    have : ((ie.bytes * n : Nat) : Int) ≤ ((4096 * 1000000 : Nat) : Int) := Int.ofNat_le.2 hbytes
    rw [Int.natCast_mul] at this
    omega
  subst hi hj
  have hw : IntKind.wrap .i64 (n : Int) = n := wrap64_id (by omega) (by omega)
  have hwk : IntKind.wrap .i64 (k : Int) = k := wrap64_id (by omega) (by omega)
  refine .val (v := .slice (some ⟨w.heap.size, 0, none⟩) k n) (w' := { w with heap := w.heap.push (.cells (repl n (C.T.zero.getD (C.T.elem.getD t 0) [])).toArray (C.T.elem.getD t 0)) }) hg (run_v ?_) (by simp only [putE, hd]) (K w.heap.size _ (H.new _ _))
  show (Instr.makeSlice t (ev σ x) (ev σ y)).run C.P w = _
  rw [hx, hy]
  have hcells : ∀ zc : Array Value, zc.size = ie.size → (Array.range (n * ie.size)).map (fun i => zc[i % zc.size]!) = (repl n zc.toList).toArray := fun zc h => by
    have := range_repl n zc; rw [h] at this ⊢; exact this
  have hzs : (C.T.zeroV (C.T.elem.getD t 0)).cells.size = ie.size := by rw [hzc', hs, ← hzc]; simp
  have hzl : (C.T.zeroV (C.T.elem.getD t 0)).cells.toList = C.T.zero.getD (C.T.elem.getD t 0) [] := by rw [hzc']
  have hzr : (zeroValue (C.T.elem.getD t 0)).run C.P w = .ok (C.T.zeroV (C.T.elem.getD t 0)) w := run_zeroValue hie hz w
  rw [← hzl]
  clear K hk he hd H hzc hzc' hs he0 hzl hz
  generalize C.T.zeroV (C.T.elem.getD t 0) = zv at *
  generalize C.T.elem.getD t 0 = E at *
  have hti : (typeInfo E).run C.P w = .ok ie w := run_typeInfo hie w
  have hso : (sizeOf E).run C.P w = .ok ie.size w := run_sizeOf hie w
  have hroom : ∀ m, (askRoom m).run C.P w = .ok () w := fun m => by unfold askRoom; split <;> rfl
  rw [Instr.makeSlice, X.run_bind _ _ _ _ _ _ (run_und hu w)]
  dsimp only
  rw [X.run_bind _ _ _ _ _ _ (show (asInt (.int kx (k : Int))).run C.P w = .ok (k : Int) w from rfl)]
  rw [X.run_bind _ _ _ _ _ _ (show (asInt (.int ky (n : Int))).run C.P w = .ok (n : Int) w from rfl)]
  rw [X.run_bind _ _ _ _ _ _ hti]
  simp only [hw, hwk]
  have hf : ((decide ((n : Int) < 0) || decide ((ie.bytes : Int) * (n : Int) > 2 ^ 48)) || decide ((k : Int) < 0) || decide ((k : Int) > (n : Int))) = false := by
    simp only [Bool.or_eq_false_iff, decide_eq_false_iff_not]
    refine ⟨⟨⟨by omega, ?_⟩, by omega⟩, by omega⟩
    show ¬ ((ie.bytes : Int) * (n : Int) > 281474976710656)
    omega
  simp only [hf, Bool.false_eq_true, if_false]
  rw [X.run_bind _ _ _ _ _ _ (hroom _), X.run_bind _ _ _ _ _ _ hso]
  have hn' : ((n : Int)).toNat = n := rfl
  have hk' : ((k : Int)).toNat = k := rfl
  simp only [hn', hk']
  by_cases h0 : n * ie.size = 0
  · have e0 : (repl n zv.cells.toList).toArray = #[] := by
      have : (repl n zv.cells.toList).length = 0 := by rw [repl_length, Array.length_toList, hzs]; exact h0
      rw [List.length_eq_zero_iff.1 this]
    rw [if_pos h0, X.run_bind _ _ _ _ _ _ (show (pure #[] : Sem (Array Value)).run C.P w = .ok #[] w from rfl), e0, h0, show (Array.range 0).map (fun x => (#[] : Array Value)[x % (#[] : Array Value).size]!) = #[] by simp]
    rfl
  · rw [if_neg h0]
    simp only [Sem.run_bind, hzr, Result.andThen_ok, Sem.run_pure]
    rw [hcells _ hzs]
    rfl
theorem OpsW.mks {n : Nat} {i j : Int} {kx ky : IntKind} (H : Sat z w As) (hg : wan gd σ g = some true) (hx : ev σ x = .int kx i) (hy : ev σ y = .int ky j) (hi : i = n) (hj : j = n) (hn : n ≤ 1000000)
    (hk : Nat.beq (C.T.kind.getD t 0) 4 = true) (he : Nat.blt 0 (C.T.kind.getD (C.T.elem.getD t 0) 0) = true) (hby : ((C.P.info? (C.T.elem.getD t 0)).elim false fun i => Nat.ble i.bytes 4096) = true) (hzc : (C.T.zero.getD (C.T.elem.getD t 0) []).length = C.T.size.getD (C.T.elem.getD t 0) 0) (hd : Nat.blt d N = true)
    (K : ∀ b' w', Sat z w' (blk b' (C.T.elem.getD t 0) (repl n (C.T.zero.getD (C.T.elem.getD t 0) [])) :: As) → OpsW C N gd r (upd σ d (.slice (some ⟨b', 0, none⟩) n n)) w' Q) :
    OpsW C N gd (⟨some d, .makeSlice t x y, ty, pos, af, g⟩ :: r) σ w Q :=
  .mkc H hg hx hy hi hj (Nat.le_refl n) hn hk he hby hzc hd K
end
end Go.Proofs.YtgaabaohkpjllaaDoor.X
