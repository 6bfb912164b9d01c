/- Contracts of the statements' helpers on errors; conditions: none. -/
import Derived.Test.YtbmfpkpcljihgaaDoorR2
import Derived.LaidEql
namespace Go.Proofs.YtbmfpkpcljihgaaDoor.X
open Go Go.Proofs
set_option linter.unusedSimpArgs false
set_option linter.unusedVariables false
attribute [local irreducible] CW OpsW RetW Spec blk snap DrawP AnyW AnyM AnyN bits IntKind.wrap vec
abbrev errV (a : Addr) : Value := .iface 187 (.pointer (some a))
abbrev errGs : List Nat := [5, 4, 1, 6, 0, 3, 7, 8, 2, 9, 10, 11]
section
variable {C : Cfg} {N : Nat} {gd : List (Option Nat)} {r : List Oper} {σ : Env} {w z : World} {Q : Env → World → Prop} {As : List HP} {x y : Operand} {d t U E : Nat} {ty yt : TypeId} {pos : String} {af : Array Edge} {g : Option (Nat × Bool)} {a b : Addr} {i j : TypeInfo} {ms : Array (String × TypeId)}
theorem OpsW.eqE (hg : wan gd σ g = some true) (hx : ev σ x = .iface U (.pointer (some a))) (hy : ev σ y = .iface U (.pointer (some b)))
    (hi : C.P.underlying t = some (.interface ms)) (hp : C.P.underlying U = some (.pointer E)) (hinfo : C.P.info? U = some i) (hcomp : i.comparable = true) (hte : C.P.info? E = some j) (hsz : j.size ≠ 0)
    (ha : ∃ c t, w.heap[a.block]? = some (.cells c t (0, 0))) (hb : ∃ c t, w.heap[b.block]? = some (.cells c t (0, 0))) (hd : Nat.blt d N = true)
    (k : OpsW C N gd r (upd σ d (.bool (decide (a = b)))) w Q) : OpsW C N gd (⟨some d, .binOp .eql t x y yt, ty, pos, af, g⟩ :: r) σ w Q := by
  refine .val (v := .bool (decide (a = b))) (w' := w) hg (run_v ?_) (by simp only [putE, hd]) k
  have hgu : (eqGuard .eql t x y (ev σ x) (ev σ y)).run C.P w = .ok () w := guard_noneq C.P w (.inl (by rw [hx]; intro e; cases e)) (by intro c e; rw [hx] at e; cases e)
  rw [X.run_bind _ _ _ _ _ _ hgu, hx, hy]
  by_cases e : a = b
  · subst e
    rw [decide_eq_true rfl]
    exact run_eql_iface_ptr_same w a hi hp hinfo hcomp hte
  · rw [decide_eq_false e]
    obtain ⟨ca, ta, ha⟩ := ha
    obtain ⟨cb, tb, hb⟩ := hb
    exact run_eql_iface_ptr_other w hi hp hinfo hcomp hte hsz e ha hb
theorem OpsW.tasF {u xt : TypeId} {v : Value} (hg : wan gd σ g = some true) (hx : ev σ x = .iface u v) (hne : Nat.beq u t = false) (hk : Nat.beq (C.T.kind.getD t 0) 8 = true) (hz : C.T.zeroV t = .pointer none) (hd : Nat.blt d N = true)
    (k : OpsW C N gd r (upd σ d (.tuple #[.pointer none, .bool false])) w Q) : OpsW C N gd (⟨some d, .typeAssert x xt t true, ty, pos, af, g⟩ :: r) σ w Q := by
  have hk8 := Nat.eq_of_beq_eq_true hk
  have hu := Tab.ptr_ C.ok hk8
  obtain ⟨i, hi, _, hzv⟩ := Tab.zero_ C.ok hk8 (by decide)
  rw [hz] at hzv
  have hzr : (zeroValue t).run C.P w = .ok (.pointer none) w := run_zeroValue hi hzv w
  have hut : ¬ u = t := fun e => by subst e; rw [Nat.beq_refl] at hne; cases hne
  refine .val (v := .tuple #[.pointer none, .bool false]) (w' := w) hg (run_v ?_) (by simp only [putE, hd]) k
  show (Instr.typeAssert (ev σ x) xt t true).run C.P w = _
  rw [hx, Instr.typeAssert]
  simp [run_underlying hu, hut, hzr]
end
section
variable {z w : World} {As : List HP} {ads : List Addr}
set_option maxHeartbeats 4000000 in
theorem sentinels_ (H : Sat z w As) (hE : ErrsIn As 187 errGs ads) :
    Spec cf 105 #[] w fun e w' => ∃ b, e = .slice (some ⟨b, 0, none⟩) 12 12 ∧ Sat z w' (blk b 26 (ads.map errV) :: As) := by
  refine enter (l := []) Tryd.func105 rfl rfl rfl rfl rfl ?_
  have hlen : ads.length = 12 := hE.1
  match ads, hlen with
  | [a0, a1, a2, a3, a4, a5, a6, a7, a8, a9, a10, a11], _ =>
    repeat' (first | (refine zA ?_; first | refine zB ?_ | refine zC H ?_ | refine zD H ?_ | refine zE H fun _ _ H => ?_ | refine zF H fun _ _ H => ?_ | refine zG H fun _ H => ?_ | refine zH H fun _ H => ?_) | (refine zI ?_; first | refine zJ ?_ | refine zK ?_ | refine zL ?_ | refine zM ?_ | refine zN ?_ | refine zO ?_ | refine zP ?_ | refine zQ ?_ | refine zR ?_) | refine zS ?_)
    refine OpsW.ldg H (hE.get 0 rfl rfl) rfl rfl rfl rfl rfl ?_
    refine OpsW.ldg H (hE.get 1 rfl rfl) rfl rfl rfl rfl rfl ?_
    refine OpsW.ldg H (hE.get 2 rfl rfl) rfl rfl rfl rfl rfl ?_
    refine OpsW.ldg H (hE.get 3 rfl rfl) rfl rfl rfl rfl rfl ?_
    refine OpsW.ldg H (hE.get 4 rfl rfl) rfl rfl rfl rfl rfl ?_
    refine OpsW.ldg H (hE.get 5 rfl rfl) rfl rfl rfl rfl rfl ?_
    refine OpsW.ldg H (hE.get 6 rfl rfl) rfl rfl rfl rfl rfl ?_
    refine OpsW.ldg H (hE.get 7 rfl rfl) rfl rfl rfl rfl rfl ?_
    refine OpsW.ldg H (hE.get 8 rfl rfl) rfl rfl rfl rfl rfl ?_
    refine OpsW.ldg H (hE.get 9 rfl rfl) rfl rfl rfl rfl rfl ?_
    refine OpsW.ldg H (hE.get 10 rfl rfl) rfl rfl rfl rfl rfl ?_
    refine OpsW.ldg H (hE.get 11 rfl rfl) rfl rfl rfl rfl rfl ?_
    refine OpsW.bsl H rfl rfl rfl rfl rfl rfl rfl rfl fun b w H => ?_
    repeat' (first | (refine zA ?_; first | refine zB ?_ | refine zC H ?_ | refine zD H ?_ | refine zE H fun _ _ H => ?_ | refine zF H fun _ _ H => ?_ | refine zG H fun _ H => ?_ | refine zH H fun _ H => ?_) | (refine zI ?_; first | refine zJ ?_ | refine zK ?_ | refine zL ?_ | refine zM ?_ | refine zN ?_ | refine zO ?_ | refine zP ?_ | refine zQ ?_ | refine zR ?_) | refine zS ?_)
    exact ret1 rfl ⟨b, rfl, H⟩
theorem errT : ∃ i j, cf.P.info? 187 = some i ∧ i.comparable = true ∧ cf.P.info? 209 = some j ∧ j.size ≠ 0 := by
  have h1 : (cf.P.info? 187).map (·.comparable) = some true := by kernel_rfl
  have h2 : (cf.P.info? 209).map (·.size) = some 1 := by kernel_rfl
  cases e1 : cf.P.info? 187 with
  | none => rw [e1] at h1; cases h1
  | some i =>
    cases e2 : cf.P.info? 209 with
    | none => rw [e2] at h2; cases h2
    | some j =>
      rw [e1] at h1; rw [e2] at h2
      exact ⟨i, j, rfl, by simpa using h1, rfl, by simp at h2; omega⟩
theorem alike_ (H : Sat z w As) (a b : Addr) (ha : ∃ c t, Has As a.block (.cells c t (0, 0))) (hb : ∃ c t, Has As b.block (.cells c t (0, 0))) :
    Spec cf 106 #[errV a, errV b] w fun e w' => e = .bool (decide (a = b)) ∧ Sat z w' As := by
  refine enter (l := [errV a, errV b]) Tryd.func106 rfl rfl rfl rfl rfl ?_
  obtain ⟨i, j, e1, e2, e3, e4⟩ := errT
  repeat' (first | (refine zA ?_; first | refine zB ?_ | refine zC H ?_ | refine zD H ?_ | refine zE H fun _ _ H => ?_ | refine zF H fun _ _ H => ?_ | refine zG H fun _ H => ?_ | refine zH H fun _ H => ?_) | (refine zI ?_; first | refine zJ ?_ | refine zK ?_ | refine zL ?_ | refine zM ?_ | refine zN ?_ | refine zO ?_ | refine zP ?_ | refine zQ ?_ | refine zR ?_) | refine zS ?_)
  refine OpsW.eqE rfl rfl rfl Tryd.underlying26 Tryd.underlying187 e1 e2 e3 e4 (let ⟨c, t, h⟩ := ha; ⟨c, t, H.has h⟩) (let ⟨c, t, h⟩ := hb; ⟨c, t, H.has h⟩) rfl ?_
  repeat' (first | (refine zA ?_; first | refine zB ?_ | refine zC H ?_ | refine zD H ?_ | refine zE H fun _ _ H => ?_ | refine zF H fun _ _ H => ?_ | refine zG H fun _ H => ?_ | refine zH H fun _ H => ?_) | (refine zI ?_; first | refine zJ ?_ | refine zK ?_ | refine zL ?_ | refine zM ?_ | refine zN ?_ | refine zO ?_ | refine zP ?_ | refine zQ ?_ | refine zR ?_) | refine zS ?_)
  exact ret1 rfl ⟨rfl, H⟩
theorem sentinel_ (H : Sat z w As) (hE : ErrsIn As 187 errGs ads) (j : Nat) (a : Addr) (hj : ads[j]? = some a) :
    Spec cf 101 #[errV a] w fun e w' => e = .int .i64 (101 + j : Nat) ∧ Sat z w' As := by
  refine enter (l := [errV a]) Tryd.func101 rfl rfl rfl rfl rfl ?_
  repeat' (first | (refine zA ?_; first | refine zB ?_ | refine zC H ?_ | refine zD H ?_ | refine zE H fun _ _ H => ?_ | refine zF H fun _ _ H => ?_ | refine zG H fun _ H => ?_ | refine zH H fun _ H => ?_) | (refine zI ?_; first | refine zJ ?_ | refine zK ?_ | refine zL ?_ | refine zM ?_ | refine zN ?_ | refine zO ?_ | refine zP ?_ | refine zQ ?_ | refine zR ?_) | refine zS ?_)
  refine OpsW.call rfl rfl rfl (sentinels_ H hE) ?_
  rintro _ w ⟨b, rfl, H⟩
  repeat' (first | (refine zA ?_; first | refine zB ?_ | refine zC H ?_ | refine zD H ?_ | refine zE H fun _ _ H => ?_ | refine zF H fun _ _ H => ?_ | refine zG H fun _ H => ?_ | refine zH H fun _ H => ?_) | (refine zI ?_; first | refine zJ ?_ | refine zK ?_ | refine zL ?_ | refine zM ?_ | refine zN ?_ | refine zO ?_ | refine zP ?_ | refine zQ ?_ | refine zR ?_) | refine zS ?_)
  have hjl : j < ads.length := (List.getElem?_eq_some_iff.1 hj).1
  have hja : ads[j] = a := (List.getElem?_eq_some_iff.1 hj).2
  have h12 : ads.length = 12 := hE.1
  refine CW.loopF (X := Nat) (fun j => Nat.ble 4 j) (fun i => [(4, .int .i64 (i : Int))]) (fun i w => i ≤ j ∧ Sat z w (blk b 26 (ads.map errV) :: As)) (fun i => j - i) 0 ⟨rfl, trivial⟩ ⟨Nat.zero_le _, H⟩ ?_
  clear H
  rintro i τ w ⟨hi, H⟩
  have hx : (ads.map errV)[0 + i * 1]? = some (errV (ads[i]'(by omega))) := by
    rw [Nat.zero_add, Nat.mul_one, List.getElem?_map, List.getElem?_eq_getElem (by omega)]; rfl
  repeat' (first | (refine zA ?_; first | refine zB ?_ | refine zC H ?_ | refine zD H ?_ | refine zE H fun _ _ H => ?_ | refine zF H fun _ _ H => ?_ | refine zG H fun _ H => ?_ | refine zH H fun _ H => ?_) | (refine zI ?_; first | refine zJ ?_ | refine zK ?_ | refine zL ?_ | refine zM ?_ | refine zN ?_ | refine zO ?_ | refine zP ?_ | refine zQ ?_ | refine zR ?_) | refine zS ?_)
  refine CW.cond rfl (fun h => ?_) (fun h => absurd (of_decide_eq_false h) (by omega))
  repeat' (first | (refine zA ?_; first | refine zB ?_ | refine zC H ?_ | refine zD H ?_ | refine zE H fun _ _ H => ?_ | refine zF H fun _ _ H => ?_ | refine zG H fun _ H => ?_ | refine zH H fun _ H => ?_) | (refine zI ?_; first | refine zJ ?_ | refine zK ?_ | refine zL ?_ | refine zM ?_ | refine zN ?_ | refine zO ?_ | refine zP ?_ | refine zQ ?_ | refine zR ?_) | refine zS ?_)
  refine OpsW.ix (n := i) rfl rfl rfl rfl rfl rfl rfl (by omega) rfl ?_
  refine OpsW.ld H (by (first | exact p0 | exact p1 | exact p2 | exact p3 | exact p4 | exact p5 | exact p6 | exact p7)) rfl rfl rfl rfl hx rfl ?_
  repeat' (first | (refine zA ?_; first | refine zB ?_ | refine zC H ?_ | refine zD H ?_ | refine zE H fun _ _ H => ?_ | refine zF H fun _ _ H => ?_ | refine zG H fun _ H => ?_ | refine zH H fun _ H => ?_) | (refine zI ?_; first | refine zJ ?_ | refine zK ?_ | refine zL ?_ | refine zM ?_ | refine zN ?_ | refine zO ?_ | refine zP ?_ | refine zQ ?_ | refine zR ?_) | refine zS ?_)
  refine OpsW.call rfl rfl rfl (alike_ H a (ads[i]'(by omega)) (by
    obtain ⟨c, t, h⟩ := hE.2.2.1 a (by rw [← hja]; exact List.getElem_mem hjl)
    exact ⟨c, t, h.tail⟩) (by
    obtain ⟨c, t, h⟩ := hE.2.2.1 _ (List.getElem_mem (by omega : i < ads.length))
    exact ⟨c, t, h.tail⟩)) ?_
  rintro _ w ⟨rfl, H⟩
  by_cases hij : i = j
  · subst hij
    rw [decide_eq_true hja.symm]
    repeat' (first | (refine zA ?_; first | refine zB ?_ | refine zC H ?_ | refine zD H ?_ | refine zE H fun _ _ H => ?_ | refine zF H fun _ _ H => ?_ | refine zG H fun _ H => ?_ | refine zH H fun _ H => ?_) | (refine zI ?_; first | refine zJ ?_ | refine zK ?_ | refine zL ?_ | refine zM ?_ | refine zN ?_ | refine zO ?_ | refine zP ?_ | refine zQ ?_ | refine zR ?_) | refine zS ?_)
    refine ret1 rfl ⟨?_, by (first | exact H | exact H.drop | exact H.d2 | exact H.d3 | exact H.d4 | exact H.d5 | exact H.d6 | exact H.d7)⟩
    rw [wrap64_id (by omega) (by omega)]; congr 1
  · have hne : ¬ a = ads[i]'(by omega) := fun e => by
      rw [← hja] at e
      exact hij ((List.getElem_inj hE.2.1).1 e).symm
    rw [decide_eq_false hne]
    repeat' (first | (refine zA ?_; first | refine zB ?_ | refine zC H ?_ | refine zD H ?_ | refine zE H fun _ _ H => ?_ | refine zF H fun _ _ H => ?_ | refine zG H fun _ H => ?_ | refine zH H fun _ H => ?_) | (refine zI ?_; first | refine zJ ?_ | refine zK ?_ | refine zL ?_ | refine zM ?_ | refine zN ?_ | refine zO ?_ | refine zP ?_ | refine zQ ?_ | refine zR ?_) | refine zS ?_)
    exact ⟨i + 1, (by (repeat (first | (with_reducible exact Agree.refl _ _) | (with_reducible refine Agree.trim (by assumption) ?_) | refine Agree.upd ?_ rfl | exact Agree.mix' | refine Agree.mixL ?_ (fun j h => by simp only [Bool.or_eq_true, Bool.and_eq_true, Nat.beq_eq, Nat.ble_eq] at h ⊢; omega) rfl))), ⟨nat_succ (n := 12) (by omega) (by omega), trivial⟩, ⟨by omega, H⟩, by omega⟩
abbrev fltV (c : Int) (p : Bool) (n : Int) : Value := .agg #[.int .i64 c, .bool p, .int .i64 n]
theorem bare_ (H : Sat z w As) (code : Int) : Spec cf 68 #[.int .i64 code] w fun e w' => e = fltV code false 0 ∧ Sat z w' As := by
  refine enter (l := [.int .i64 code]) Tryd.func68 rfl rfl rfl rfl rfl ?_
  repeat' (first | (refine zA ?_; first | refine zB ?_ | refine zC H ?_ | refine zD H ?_ | refine zE H fun _ _ H => ?_ | refine zF H fun _ _ H => ?_ | refine zG H fun _ H => ?_ | refine zH H fun _ H => ?_) | (refine zI ?_; first | refine zJ ?_ | refine zK ?_ | refine zL ?_ | refine zM ?_ | refine zN ?_ | refine zO ?_ | refine zP ?_ | refine zQ ?_ | refine zR ?_) | refine zS ?_)
  refine ret1c (resA H (by (first | exact p0 | exact p1 | exact p2 | exact p3 | exact p4 | exact p5 | exact p6 | exact p7)) rfl rfl (by rfl)) ?_
  exact ⟨rfl, by (first | exact H | exact H.drop | exact H.d2 | exact H.d3 | exact H.d4 | exact H.d5 | exact H.d6 | exact H.d7)⟩
theorem none_ (H : Sat z w As) : Spec cf 100 #[] w fun e w' => e = fltV 0 false 0 ∧ Sat z w' As := by
  refine enter (l := []) Tryd.func100 rfl rfl rfl rfl rfl ?_
  repeat' (first | (refine zA ?_; first | refine zB ?_ | refine zC H ?_ | refine zD H ?_ | refine zE H fun _ _ H => ?_ | refine zF H fun _ _ H => ?_ | refine zG H fun _ H => ?_ | refine zH H fun _ H => ?_) | (refine zI ?_; first | refine zJ ?_ | refine zK ?_ | refine zL ?_ | refine zM ?_ | refine zN ?_ | refine zO ?_ | refine zP ?_ | refine zQ ?_ | refine zR ?_) | refine zS ?_)
  refine ret1c (resA H (by (first | exact p0 | exact p1 | exact p2 | exact p3 | exact p4 | exact p5 | exact p6 | exact p7)) rfl rfl (by rfl)) ?_
  exact ⟨rfl, by (first | exact H | exact H.drop | exact H.d2 | exact H.d3 | exact H.d4 | exact H.d5 | exact H.d6 | exact H.d7)⟩
theorem sameFault_ (H : Sat z w As) (c d : Int) (p q : Bool) (m n : Int) : Spec cf 92 #[fltV c p m, fltV d q n] w fun e w' => e = .bool (c == d && (p == q && m == n)) ∧ Sat z w' As := by
  refine enter (l := [fltV c p m, fltV d q n]) Tryd.func92 rfl rfl rfl rfl rfl ?_
  repeat' (first | (refine zA ?_; first | refine zB ?_ | refine zC H ?_ | refine zD H ?_ | refine zE H fun _ _ H => ?_ | refine zF H fun _ _ H => ?_ | refine zG H fun _ H => ?_ | refine zH H fun _ H => ?_ | (refine OpsW.gs rfl rfl rfl (fun h => ?_) (fun h => ?_); fail_if_success (with_reducible have h2 : true = true := h); fail_if_success (with_reducible have h2 : false = true := h))) | (refine zI ?_; first | refine zJ ?_ | refine zK ?_ | refine zL ?_ | refine zM ?_ | refine zN ?_ | refine zO ?_ | refine zP ?_ | refine zQ ?_ | refine zR ?_ | (refine CW.cond rfl (fun h => ?_) (fun h => ?_))) | refine zS ?_)
  all_goals
    refine ret1 rfl ⟨?_, by (first | exact H | exact H.drop | exact H.d2 | exact H.d3 | exact H.d4 | exact H.d5 | exact H.d6 | exact H.d7)⟩
    clear H
    simp_all
theorem fault_nil (H : Sat z w As) : Spec cf 93 #[.nilIface] w fun e w' => e = fltV 0 false 0 ∧ Sat z w' As := by
  refine enter (l := [.nilIface]) Tryd.func93 rfl rfl rfl rfl rfl ?_
  repeat' (first | (refine zA ?_; first | refine zB ?_ | (refine OpsW.goCall ?_; first | (refine OpsW.call rfl rfl rfl (none_ H) ?_; rintro _ w ⟨rfl, H⟩)) | refine zC H ?_ | refine zD H ?_ | refine zE H fun _ _ H => ?_ | refine zF H fun _ _ H => ?_ | refine zG H fun _ H => ?_ | refine zH H fun _ H => ?_) | (refine zI ?_; first | refine zJ ?_ | refine zK ?_ | refine zL ?_ | refine zM ?_ | refine zN ?_ | refine zO ?_ | refine zP ?_ | refine zQ ?_ | refine zR ?_) | refine zS ?_)
  refine ret1c (resA H (by (first | exact p0 | exact p1 | exact p2 | exact p3 | exact p4 | exact p5 | exact p6 | exact p7)) rfl rfl (by rfl)) ?_
  exact ⟨rfl, by (first | exact H | exact H.drop | exact H.d2 | exact H.d3 | exact H.d4 | exact H.d5 | exact H.d6 | exact H.d7)⟩
theorem fault_err (H : Sat z w As) (hE : ErrsIn As 187 errGs ads) (j : Nat) (a : Addr) (hj : ads[j]? = some a) : Spec cf 93 #[errV a] w fun e w' => e = fltV (101 + j : Nat) false 0 ∧ Sat z w' As := by
  refine enter (l := [errV a]) Tryd.func93 rfl rfl rfl rfl rfl ?_
  repeat' (first | (refine zA ?_; first | refine zB ?_ | refine zC H ?_ | refine zD H ?_ | refine zE H fun _ _ H => ?_ | refine zF H fun _ _ H => ?_ | refine zG H fun _ H => ?_ | refine zH H fun _ H => ?_) | (refine zI ?_; first | refine zJ ?_ | refine zK ?_ | refine zL ?_ | refine zM ?_ | refine zN ?_ | refine zO ?_ | refine zP ?_ | refine zQ ?_ | refine zR ?_) | refine zS ?_)
  refine OpsW.tasF rfl rfl rfl rfl rfl rfl ?_
  repeat' (first | (refine zA ?_; first | refine zB ?_ | (refine OpsW.goCall ?_; first | (refine OpsW.call rfl rfl rfl (sentinel_ H hE.tail j a hj) ?_; rintro _ w ⟨rfl, H⟩) | (refine OpsW.call rfl rfl rfl (bare_ H (101 + j : Nat)) ?_; rintro _ w ⟨rfl, H⟩)) | refine zC H ?_ | refine zD H ?_ | refine zE H fun _ _ H => ?_ | refine zF H fun _ _ H => ?_ | refine zG H fun _ H => ?_ | refine zH H fun _ H => ?_) | (refine zI ?_; first | refine zJ ?_ | refine zK ?_ | refine zL ?_ | refine zM ?_ | refine zN ?_ | refine zO ?_ | refine zP ?_ | refine zQ ?_ | refine zR ?_) | refine zS ?_)
  refine ret1c (resA H (by (first | exact p0 | exact p1 | exact p2 | exact p3 | exact p4 | exact p5 | exact p6 | exact p7)) rfl rfl (by rfl)) ?_
  exact ⟨rfl, by (first | exact H | exact H.drop | exact H.d2 | exact H.d3 | exact H.d4 | exact H.d5 | exact H.d6 | exact H.d7)⟩
theorem see_same_nil (H : Sat z w As) (c : Int) (p : Bool) (n : Int) : Spec cf 67 #[.nilIface, fltV c p n] w fun e w' => e = .bool (0 == c && (false == p && 0 == n)) ∧ Sat z w' As := by
  refine enter (l := [.nilIface, fltV c p n]) Tryd.func67 rfl rfl rfl rfl rfl ?_
  repeat' (first | (refine zA ?_; first | refine zB ?_ | refine zC H ?_ | refine zD H ?_ | refine zE H fun _ _ H => ?_ | refine zF H fun _ _ H => ?_ | refine zG H fun _ H => ?_ | refine zH H fun _ H => ?_) | (refine zI ?_; first | refine zJ ?_ | refine zK ?_ | refine zL ?_ | refine zM ?_ | refine zN ?_ | refine zO ?_ | refine zP ?_ | refine zQ ?_ | refine zR ?_) | refine zS ?_)
  (first | refine CW.drawN mo H fun w H => ?_ | refine CW.seqDrawN mo H fun w H => ?_)
  repeat' (first | refine AnyN.take (i := 0) rfl rfl rfl (by decide +kernel) ?_ | refine AnyN.take (i := 1) rfl rfl rfl (by decide +kernel) ?_ | refine AnyN.take (i := 2) rfl rfl rfl (by decide +kernel) ?_ | refine AnyN.take (i := 3) rfl rfl rfl (by decide +kernel) ?_ | refine AnyN.take (i := 4) rfl rfl rfl (by decide +kernel) ?_ | refine AnyN.take (i := 5) rfl rfl rfl (by decide +kernel) ?_ | refine AnyN.take (i := 6) rfl rfl rfl (by decide +kernel) ?_ | refine AnyN.take (i := 7) rfl rfl rfl (by decide +kernel) ?_ | refine AnyN.take (i := 8) rfl rfl rfl (by decide +kernel) ?_ | refine AnyN.take (i := 9) rfl rfl rfl (by decide +kernel) ?_ | refine AnyN.take (i := 10) rfl rfl rfl (by decide +kernel) ?_ | refine AnyN.take (i := 11) rfl rfl rfl (by decide +kernel) ?_ | refine AnyN.take (i := 12) rfl rfl rfl (by decide +kernel) ?_ | refine AnyN.take (i := 13) rfl rfl rfl (by decide +kernel) ?_ | refine AnyN.take (i := 14) rfl rfl rfl (by decide +kernel) ?_ | refine AnyN.take (i := 15) rfl rfl rfl (by decide +kernel) ?_ | refine AnyN.take (i := 16) rfl rfl rfl (by decide +kernel) ?_ | refine AnyN.take (i := 17) rfl rfl rfl (by decide +kernel) ?_ | refine AnyN.take (i := 18) rfl rfl rfl (by decide +kernel) ?_ | refine AnyN.take (i := 19) rfl rfl rfl (by decide +kernel) ?_ | refine AnyN.take (i := 20) rfl rfl rfl (by decide +kernel) ?_ | refine AnyN.take (i := 21) rfl rfl rfl (by decide +kernel) ?_ | refine AnyN.take (i := 22) rfl rfl rfl (by decide +kernel) ?_ | refine AnyN.take (i := 23) rfl rfl rfl (by decide +kernel) ?_ | refine AnyN.take (i := 24) rfl rfl rfl (by decide +kernel) ?_ | refine AnyN.take (i := 25) rfl rfl rfl (by decide +kernel) ?_ | refine AnyN.take (i := 26) rfl rfl rfl (by decide +kernel) ?_ | refine AnyN.take (i := 27) rfl rfl rfl (by decide +kernel) ?_)
  repeat' (first | exact AllI.nil' rfl | refine AllI.cons' rfl rfl ?_ ?_ | (first | refine AnyN.take (i := 0) rfl rfl rfl (by decide +kernel) ?_ | refine AnyN.take (i := 1) rfl rfl rfl (by decide +kernel) ?_ | refine AnyN.take (i := 2) rfl rfl rfl (by decide +kernel) ?_ | refine AnyN.take (i := 3) rfl rfl rfl (by decide +kernel) ?_ | refine AnyN.take (i := 4) rfl rfl rfl (by decide +kernel) ?_ | refine AnyN.take (i := 5) rfl rfl rfl (by decide +kernel) ?_ | refine AnyN.take (i := 6) rfl rfl rfl (by decide +kernel) ?_ | refine AnyN.take (i := 7) rfl rfl rfl (by decide +kernel) ?_ | refine AnyN.take (i := 8) rfl rfl rfl (by decide +kernel) ?_ | refine AnyN.take (i := 9) rfl rfl rfl (by decide +kernel) ?_ | refine AnyN.take (i := 10) rfl rfl rfl (by decide +kernel) ?_ | refine AnyN.take (i := 11) rfl rfl rfl (by decide +kernel) ?_ | refine AnyN.take (i := 12) rfl rfl rfl (by decide +kernel) ?_ | refine AnyN.take (i := 13) rfl rfl rfl (by decide +kernel) ?_ | refine AnyN.take (i := 14) rfl rfl rfl (by decide +kernel) ?_ | refine AnyN.take (i := 15) rfl rfl rfl (by decide +kernel) ?_ | refine AnyN.take (i := 16) rfl rfl rfl (by decide +kernel) ?_ | refine AnyN.take (i := 17) rfl rfl rfl (by decide +kernel) ?_ | refine AnyN.take (i := 18) rfl rfl rfl (by decide +kernel) ?_ | refine AnyN.take (i := 19) rfl rfl rfl (by decide +kernel) ?_ | refine AnyN.take (i := 20) rfl rfl rfl (by decide +kernel) ?_ | refine AnyN.take (i := 21) rfl rfl rfl (by decide +kernel) ?_ | refine AnyN.take (i := 22) rfl rfl rfl (by decide +kernel) ?_ | refine AnyN.take (i := 23) rfl rfl rfl (by decide +kernel) ?_ | refine AnyN.take (i := 24) rfl rfl rfl (by decide +kernel) ?_ | refine AnyN.take (i := 25) rfl rfl rfl (by decide +kernel) ?_ | refine AnyN.take (i := 26) rfl rfl rfl (by decide +kernel) ?_ | refine AnyN.take (i := 27) rfl rfl rfl (by decide +kernel) ?_) | refine AnyN.step rfl rfl ?_ | (refine OpsW.call rfl rfl rfl (fault_nil H) ?_; rintro _ w ⟨rfl, H⟩) | (refine OpsW.call rfl rfl rfl (sameFault_ H 0 c false p 0 n) ?_; rintro _ w ⟨rfl, H⟩) | (first | (refine zA ?_; first | refine zB ?_ | refine zC H ?_ | refine zD H ?_ | refine zE H fun _ _ H => ?_ | refine zF H fun _ _ H => ?_ | refine zG H fun _ H => ?_ | refine zH H fun _ H => ?_) | (refine zI ?_; first | refine zJ ?_ | refine zK ?_ | refine zL ?_ | refine zM ?_ | refine zN ?_ | refine zO ?_ | refine zP ?_ | refine zQ ?_ | refine zR ?_) | refine zS ?_))
  all_goals
    refine AnyN.done rfl ?_
    repeat' (first | (refine zA ?_; first | refine zB ?_ | refine zC H ?_ | refine zD H ?_ | refine zE H fun _ _ H => ?_ | refine zF H fun _ _ H => ?_ | refine zG H fun _ H => ?_ | refine zH H fun _ H => ?_) | (refine zI ?_; first | refine zJ ?_ | refine zK ?_ | refine zL ?_ | refine zM ?_ | refine zN ?_ | refine zO ?_ | refine zP ?_ | refine zQ ?_ | refine zR ?_) | refine zS ?_)
    exact ret1 rfl ⟨rfl, by (first | exact H | exact H.drop | exact H.d2 | exact H.d3 | exact H.d4 | exact H.d5 | exact H.d6 | exact H.d7)⟩
theorem see_same_err (H : Sat z w As) (hE : ErrsIn As 187 errGs ads) (j : Nat) (a : Addr) (hj : ads[j]? = some a) (c : Int) (p : Bool) (n : Int) : Spec cf 67 #[errV a, fltV c p n] w fun e w' => e = .bool (((101 + j : Nat) : Int) == c && (false == p && 0 == n)) ∧ Sat z w' As := by
  refine enter (l := [errV a, fltV c p n]) Tryd.func67 rfl rfl rfl rfl rfl ?_
  repeat' (first | (refine zA ?_; first | refine zB ?_ | refine zC H ?_ | refine zD H ?_ | refine zE H fun _ _ H => ?_ | refine zF H fun _ _ H => ?_ | refine zG H fun _ H => ?_ | refine zH H fun _ H => ?_) | (refine zI ?_; first | refine zJ ?_ | refine zK ?_ | refine zL ?_ | refine zM ?_ | refine zN ?_ | refine zO ?_ | refine zP ?_ | refine zQ ?_ | refine zR ?_) | refine zS ?_)
  (first | refine CW.drawN mo H fun w H => ?_ | refine CW.seqDrawN mo H fun w H => ?_)
  repeat' (first | refine AnyN.take (i := 0) rfl rfl rfl (by decide +kernel) ?_ | refine AnyN.take (i := 1) rfl rfl rfl (by decide +kernel) ?_ | refine AnyN.take (i := 2) rfl rfl rfl (by decide +kernel) ?_ | refine AnyN.take (i := 3) rfl rfl rfl (by decide +kernel) ?_ | refine AnyN.take (i := 4) rfl rfl rfl (by decide +kernel) ?_ | refine AnyN.take (i := 5) rfl rfl rfl (by decide +kernel) ?_ | refine AnyN.take (i := 6) rfl rfl rfl (by decide +kernel) ?_ | refine AnyN.take (i := 7) rfl rfl rfl (by decide +kernel) ?_ | refine AnyN.take (i := 8) rfl rfl rfl (by decide +kernel) ?_ | refine AnyN.take (i := 9) rfl rfl rfl (by decide +kernel) ?_ | refine AnyN.take (i := 10) rfl rfl rfl (by decide +kernel) ?_ | refine AnyN.take (i := 11) rfl rfl rfl (by decide +kernel) ?_ | refine AnyN.take (i := 12) rfl rfl rfl (by decide +kernel) ?_ | refine AnyN.take (i := 13) rfl rfl rfl (by decide +kernel) ?_ | refine AnyN.take (i := 14) rfl rfl rfl (by decide +kernel) ?_ | refine AnyN.take (i := 15) rfl rfl rfl (by decide +kernel) ?_ | refine AnyN.take (i := 16) rfl rfl rfl (by decide +kernel) ?_ | refine AnyN.take (i := 17) rfl rfl rfl (by decide +kernel) ?_ | refine AnyN.take (i := 18) rfl rfl rfl (by decide +kernel) ?_ | refine AnyN.take (i := 19) rfl rfl rfl (by decide +kernel) ?_ | refine AnyN.take (i := 20) rfl rfl rfl (by decide +kernel) ?_ | refine AnyN.take (i := 21) rfl rfl rfl (by decide +kernel) ?_ | refine AnyN.take (i := 22) rfl rfl rfl (by decide +kernel) ?_ | refine AnyN.take (i := 23) rfl rfl rfl (by decide +kernel) ?_ | refine AnyN.take (i := 24) rfl rfl rfl (by decide +kernel) ?_ | refine AnyN.take (i := 25) rfl rfl rfl (by decide +kernel) ?_ | refine AnyN.take (i := 26) rfl rfl rfl (by decide +kernel) ?_ | refine AnyN.take (i := 27) rfl rfl rfl (by decide +kernel) ?_)
  repeat' (first | exact AllI.nil' rfl | refine AllI.cons' rfl rfl ?_ ?_ | (first | refine AnyN.take (i := 0) rfl rfl rfl (by decide +kernel) ?_ | refine AnyN.take (i := 1) rfl rfl rfl (by decide +kernel) ?_ | refine AnyN.take (i := 2) rfl rfl rfl (by decide +kernel) ?_ | refine AnyN.take (i := 3) rfl rfl rfl (by decide +kernel) ?_ | refine AnyN.take (i := 4) rfl rfl rfl (by decide +kernel) ?_ | refine AnyN.take (i := 5) rfl rfl rfl (by decide +kernel) ?_ | refine AnyN.take (i := 6) rfl rfl rfl (by decide +kernel) ?_ | refine AnyN.take (i := 7) rfl rfl rfl (by decide +kernel) ?_ | refine AnyN.take (i := 8) rfl rfl rfl (by decide +kernel) ?_ | refine AnyN.take (i := 9) rfl rfl rfl (by decide +kernel) ?_ | refine AnyN.take (i := 10) rfl rfl rfl (by decide +kernel) ?_ | refine AnyN.take (i := 11) rfl rfl rfl (by decide +kernel) ?_ | refine AnyN.take (i := 12) rfl rfl rfl (by decide +kernel) ?_ | refine AnyN.take (i := 13) rfl rfl rfl (by decide +kernel) ?_ | refine AnyN.take (i := 14) rfl rfl rfl (by decide +kernel) ?_ | refine AnyN.take (i := 15) rfl rfl rfl (by decide +kernel) ?_ | refine AnyN.take (i := 16) rfl rfl rfl (by decide +kernel) ?_ | refine AnyN.take (i := 17) rfl rfl rfl (by decide +kernel) ?_ | refine AnyN.take (i := 18) rfl rfl rfl (by decide +kernel) ?_ | refine AnyN.take (i := 19) rfl rfl rfl (by decide +kernel) ?_ | refine AnyN.take (i := 20) rfl rfl rfl (by decide +kernel) ?_ | refine AnyN.take (i := 21) rfl rfl rfl (by decide +kernel) ?_ | refine AnyN.take (i := 22) rfl rfl rfl (by decide +kernel) ?_ | refine AnyN.take (i := 23) rfl rfl rfl (by decide +kernel) ?_ | refine AnyN.take (i := 24) rfl rfl rfl (by decide +kernel) ?_ | refine AnyN.take (i := 25) rfl rfl rfl (by decide +kernel) ?_ | refine AnyN.take (i := 26) rfl rfl rfl (by decide +kernel) ?_ | refine AnyN.take (i := 27) rfl rfl rfl (by decide +kernel) ?_) | refine AnyN.step rfl rfl ?_ | (refine OpsW.call rfl rfl rfl (fault_err H hE.tail j a hj) ?_; rintro _ w ⟨rfl, H⟩) | (refine OpsW.call rfl rfl rfl (sameFault_ H (101 + j : Nat) c false p 0 n) ?_; rintro _ w ⟨rfl, H⟩) | (first | (refine zA ?_; first | refine zB ?_ | refine zC H ?_ | refine zD H ?_ | refine zE H fun _ _ H => ?_ | refine zF H fun _ _ H => ?_ | refine zG H fun _ H => ?_ | refine zH H fun _ H => ?_) | (refine zI ?_; first | refine zJ ?_ | refine zK ?_ | refine zL ?_ | refine zM ?_ | refine zN ?_ | refine zO ?_ | refine zP ?_ | refine zQ ?_ | refine zR ?_) | refine zS ?_))
  all_goals
    refine AnyN.done rfl ?_
    repeat' (first | (refine zA ?_; first | refine zB ?_ | refine zC H ?_ | refine zD H ?_ | refine zE H fun _ _ H => ?_ | refine zF H fun _ _ H => ?_ | refine zG H fun _ H => ?_ | refine zH H fun _ H => ?_) | (refine zI ?_; first | refine zJ ?_ | refine zK ?_ | refine zL ?_ | refine zM ?_ | refine zN ?_ | refine zO ?_ | refine zP ?_ | refine zQ ?_ | refine zR ?_) | refine zS ?_)
    exact ret1 rfl ⟨rfl, by (first | exact H | exact H.drop | exact H.d2 | exact H.d3 | exact H.d4 | exact H.d5 | exact H.d6 | exact H.d7)⟩
theorem see_is_nil (H : Sat z w As) (code : Int) : Spec cf 29 #[.nilIface, .int .i64 code] w fun e w' => e = .bool (0 == code) ∧ Sat z w' As := by
  refine enter (l := [.nilIface, .int .i64 code]) Tryd.func29 rfl rfl rfl rfl rfl ?_
  repeat' (first | (refine zA ?_; first | refine zB ?_ | (refine OpsW.goCall ?_; first | (refine OpsW.call rfl rfl rfl (bare_ H code) ?_; rintro _ w ⟨rfl, H⟩) | (refine OpsW.call rfl rfl rfl (see_same_nil H code false 0) ?_; rintro _ w ⟨rfl, H⟩)) | refine zC H ?_ | refine zD H ?_ | refine zE H fun _ _ H => ?_ | refine zF H fun _ _ H => ?_ | refine zG H fun _ H => ?_ | refine zH H fun _ H => ?_) | (refine zI ?_; first | refine zJ ?_ | refine zK ?_ | refine zL ?_ | refine zM ?_ | refine zN ?_ | refine zO ?_ | refine zP ?_ | refine zQ ?_ | refine zR ?_) | refine zS ?_)
  exact ret1 rfl ⟨by simp, by (first | exact H | exact H.drop | exact H.d2 | exact H.d3 | exact H.d4 | exact H.d5 | exact H.d6 | exact H.d7)⟩
theorem see_is_err (H : Sat z w As) (hE : ErrsIn As 187 errGs ads) (j : Nat) (a : Addr) (hj : ads[j]? = some a) (code : Int) : Spec cf 29 #[errV a, .int .i64 code] w fun e w' => e = .bool (((101 + j : Nat) : Int) == code) ∧ Sat z w' As := by
  refine enter (l := [errV a, .int .i64 code]) Tryd.func29 rfl rfl rfl rfl rfl ?_
  repeat' (first | (refine zA ?_; first | refine zB ?_ | (refine OpsW.goCall ?_; first | (refine OpsW.call rfl rfl rfl (bare_ H code) ?_; rintro _ w ⟨rfl, H⟩) | (refine OpsW.call rfl rfl rfl (see_same_err H hE j a hj code false 0) ?_; rintro _ w ⟨rfl, H⟩)) | refine zC H ?_ | refine zD H ?_ | refine zE H fun _ _ H => ?_ | refine zF H fun _ _ H => ?_ | refine zG H fun _ H => ?_ | refine zH H fun _ H => ?_) | (refine zI ?_; first | refine zJ ?_ | refine zK ?_ | refine zL ?_ | refine zM ?_ | refine zN ?_ | refine zO ?_ | refine zP ?_ | refine zQ ?_ | refine zR ?_) | refine zS ?_)
  exact ret1 rfl ⟨by simp, by (first | exact H | exact H.drop | exact H.d2 | exact H.d3 | exact H.d4 | exact H.d5 | exact H.d6 | exact H.d7)⟩
end
end Go.Proofs.YtbmfpkpcljihgaaDoor.X
