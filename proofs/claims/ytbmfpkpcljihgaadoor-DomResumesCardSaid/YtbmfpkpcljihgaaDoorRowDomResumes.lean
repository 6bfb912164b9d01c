/- The statement of turnkeylaw16.DomResumes, whatever the input: out of the walk's theorem; conditions: none beyond the statement's own. -/
import Derived.Test.YtbmfpkpcljihgaaDoorRows
import Derived.Test.YtbmfpkpcljihgaaDoorR0
import Derived.Test.YtbmfpkpcljihgaaDoorL16r
import Derived.Test.YtbmfpkpcljihgaaDoorTie
import Derived.Test.YtbmfpkpcljihgaaDoorCards
import Derived.Test.YtbmfpkpcljihgaaDoorR2
import Derived.LaidMore
import Derived.LaidHandle
import Derived.LaidLaws
import Derived.MakeChecks
import Derived.SevenTiedAt
import Derived.Stop.Joined
import Derived.ChangeVars
import Derived.JoinedOf
import Derived.WalkKit
import Derived.ProofKit
import Derived.OpenShut
import Derived.ShutString
import Derived.ChangeOld
import Derived.Below
import Derived.SizedLaws
namespace Go.Proofs.YtbmfpkpcljihgaaDoor.domResumes
open Go.ChangeShapes Go.WideShapes Go.ChangeAt Go.RowKit
open Go.ChangeMaps (open_string shut_string)
set_option linter.unusedVariables false
set_option linter.unusedSimpArgs false
theorem own : ownKnob Tryd.prog.godebug = none := by kernel_rfl
theorem laidOut : laidOutB Tryd.prog = true := by kernel_rfl
def laidL : List (String × DataW Unit) := [("turnkey/api.ErrShape", Rows.laid_turnkey_api_ErrShape), ("turnkey/api.ErrRange", Rows.laid_turnkey_api_ErrRange), ("turnkey/api.ErrNone", Rows.laid_turnkey_api_ErrNone), ("turnkey/api.ErrFull", Rows.laid_turnkey_api_ErrFull)]
theorem door_met (os : Os) (args : Array Value) : laidMetH Tryd.prog laidL ((World.doorLaid Tryd.prog 400 os).forCall (fun _ _ => 0) ⟨#[], args, []⟩).memory :=
  laidMetH_of_parts3 (fuel := 8) (laidMet_of_run' 8 (by kernel_rfl) (by kernel_rfl)) (by kernel_rfl) (by kernel_rfl)
theorem errT (u : TypeId) (h : Tryd.prog.typeName? 3 u = some "*errors.errorString") : u = 187 :=
  typeName_ptr_named (P := Tryd.prog) (nm := "errors.errorString") (tp := 187) (by kernel_rfl) (by kernel_rfl) (by decide) u (h.trans (by decide))
theorem errs_at {W : World} (h : laidMetH Tryd.prog laidL W) : X.Errs W 187 [4, 1, 0, 3] := by
  rw [MakeChecks.laidMetH_plain _ _ _ (by kernel_rfl)] at h
  refine X.Errs.of_laid (name := "*errors.errorString") errT (E := 209) (by kernel_rfl) (by kernel_rfl) h ?_ (by kernel_rfl)
  intro x hx
  have hint : ∃ ms, Tryd.prog.underlying 26 = some (.interface ms) := ⟨_, Tryd.underlying26⟩
  simp only [laidL, List.mem_cons, List.not_mem_nil, or_false] at hx
  rcases hx with rfl | rfl | rfl | rfl
  · refine ⟨⟨_, rfl⟩, fun g t hg ht => ?_⟩
    obtain rfl := Option.some.inj ((show Tryd.prog.globalNamed "turnkey/api.ErrShape" = some 4 by kernel_rfl).symm.trans hg)
    obtain rfl := Option.some.inj ((show (Tryd.prog.globals[4]?).map (·.type) = some 26 by kernel_rfl).symm.trans ht)
    exact hint
  · refine ⟨⟨_, rfl⟩, fun g t hg ht => ?_⟩
    obtain rfl := Option.some.inj ((show Tryd.prog.globalNamed "turnkey/api.ErrRange" = some 1 by kernel_rfl).symm.trans hg)
    obtain rfl := Option.some.inj ((show (Tryd.prog.globals[1]?).map (·.type) = some 26 by kernel_rfl).symm.trans ht)
    exact hint
  · refine ⟨⟨_, rfl⟩, fun g t hg ht => ?_⟩
    obtain rfl := Option.some.inj ((show Tryd.prog.globalNamed "turnkey/api.ErrNone" = some 0 by kernel_rfl).symm.trans hg)
    obtain rfl := Option.some.inj ((show (Tryd.prog.globals[0]?).map (·.type) = some 26 by kernel_rfl).symm.trans ht)
    exact hint
  · refine ⟨⟨_, rfl⟩, fun g t hg ht => ?_⟩
    obtain rfl := Option.some.inj ((show Tryd.prog.globalNamed "turnkey/api.ErrFull" = some 3 by kernel_rfl).symm.trans hg)
    obtain rfl := Option.some.inj ((show (Tryd.prog.globals[3]?).map (·.type) = some 26 by kernel_rfl).symm.trans ht)
    exact hint
set_option maxRecDepth 100000 in
theorem lifted (os : Os) (started : os.Started) (H : Type) (enc : TypeId × Value → H) :
    ReturnsInHanded {} Tryd.checked os 4 .any (fun w args => (Rows.domResumesSpec.pre enc Tryd.prog Tryd.f4 [] false w args ∧ laidMetH Tryd.prog laidL w) ∧ sizedMet enc Tryd.prog Tryd.f4 (OpenSpec.ofChange Rows.domResumesSpec) false w args) (Rows.domResumesSpec.post enc Tryd.prog Tryd.f4 false true false false) := by
  refine returnsInHanded_of_change_and (C := Tryd.checked) (X := fun w _ => laidMetH Tryd.prog laidL w) (fun _ _ _ hh h => h.of_heap hh) own started (by kernel_rfl) Tryd.func4
    (ChangeSpec.witness_shaped (enc := enc) (C := Tryd.checked) (os := os) (X := fun w _ => laidMetH Tryd.prog laidL w) false (World.doorLaid Tryd.prog 400 os) #[.int .i64 0, .int .i64 0] 8 rfl (World.shaped_of_RefB (by kernel_rfl) (by kernel_rfl)) (by kernel_rfl) (by kernel_rfl) (by kernel_rfl) (door_met os _)) ?_
  intro W base args ds gs before hval0 hW _ _ hL _
  have hval : ∀ (j : Nat) t v, Tryd.f4.params[j]? = some t → args[j]? = some v → Value.okWide Tryd.prog W .any base t v := hval0
  have hW' := hW
  obtain ⟨p, q, hA0, hV, rfl, hfz, hnd⟩ := hW
  have hA : DataW.TrodAll enc Tryd.prog W 0 (fun _ => true) true Tryd.f4.params.toList args.toList ds p := hA0
  rw [Tryd.params4] at hA hval
  obtain ⟨v0, vs0, d0, ds0, p0, q0, hargs, rfl, rfl, h0, r0⟩ := trodAll_cons hA
  obtain ⟨v1, vs1, d1, ds1, p1, q1, rfl, rfl, rfl, h1, r1⟩ := trodAll_cons r0
  obtain ⟨rfl, rfl, rfl⟩ := trodAll_nil r1
  obtain rfl : args = #[v0, v1] := by cases args; simp_all
  obtain ⟨rfl, rfl⟩ := trodVars_none hV
  have k0 := h0
  have lt0 : ∀ x ∈ p0, x.block < W.heap.size := by obtain ⟨m, hm⟩ := k0; exact DataW.trod_lt m _ _ _ hm
  obtain ⟨a0, rfl, rfl, rfl, w0⟩ := open_int Tryd.underlying3 (hval 0 3 v0 rfl rfl) h0
  have k1 := h1
  have lt1 : ∀ x ∈ p1, x.block < W.heap.size := by obtain ⟨m, hm⟩ := k1; exact DataW.trod_lt m _ _ _ hm
  obtain ⟨a1, rfl, rfl, rfl, w1⟩ := open_int Tryd.underlying3 (hval 1 3 v1 rfl rfl) h1
  clear hA0 hval0
  refine (X.domResumes_ W (errs_at hL) a0 w0 a1 w1).2.mono fun e W' ⟨v, he, hv, hs⟩ => ?_
  subst he; subst hv
  have bel := hs.snap_
  exact ⟨_, rfl, _, _, _, [], _, [], hW', trodAll_mk1 (shut_bool Tryd.underlying4 _), (trodAll_cons_mk (Below.trod laidOut (by kernel_rfl) (of_decide_eq_true (by kernel_rfl)) k0 bel lt0) (trodAll_cons_mk (Below.trod laidOut (by kernel_rfl) (of_decide_eq_true (by kernel_rfl)) k1 bel lt1) trodAll_mk0)), rfl, bel.frame _, fun h => by cases h⟩
theorem over : Rows.domResumesRow.holds Tryd.pinned (OpenSpec.ofChange Rows.domResumesSpec) :=
  OpenClaim.holds_of_wide 4 Tryd.f4 rfl rfl rfl rfl rfl rfl rfl ⟨rfl, rfl, rfl, rfl, rfl⟩ rfl rfl rfl rfl rfl (by kernel_rfl) Tryd.func4 (by kernel_rfl)
    (of_decide_eq_true (by kernel_rfl)) (by unfold Func.isWrapper; first | (rw [if_pos (by decide +kernel)]; kernel_rfl) | (rw [if_neg (by decide +kernel)]; exact ⟨rfl, rfl⟩))
    (fun os started H enc _ => lifted os started H enc)
theorem card : Rows.DomResumesCardSaid :=
  Claim7.holds_tied_plain_at .later [] [.sentinel, .sentinel, .sentinel, .sentinel] true (true, "8bdd53d79ffafaab47ba51fd20a08cc4f8b4841aa389d99f6707fe0ab6650243") true over (fun _ h => by cases h) (by kernel_rfl) (fun _ h => by cases h) domResumes_row_tie rfl ⟨rfl, rfl⟩ (by kernel_rfl) rfl
    (fun f fn hf hfn => by
      obtain rfl : f = 4 := Option.some.inj ((show Tryd.prog.funcNamed "turnkey/turnkeylaw16.DomResumes" = some 4 by kernel_rfl).symm.trans hf) |>.symm
      obtain rfl : fn = Tryd.f4 := (Option.some.inj (Tryd.func4.symm.trans hfn)).symm
      exact ⟨by kernel_rfl, fun j t ht => by
        rw [Tryd.params4] at ht
        have hm : t ∈ ([3, 3] : List Nat) := by simpa using Array.mem_of_getElem? ht
        have hall : (([3, 3] : List Nat).all fun u => !Tryd.prog.wantsStandIn u) = true := by kernel_rfl
        exact (show Tryd.prog.wantsStandIn t = false by simpa using List.all_eq_true.1 hall t hm)⟩)
    (by kernel_rfl)
end Go.Proofs.YtbmfpkpcljihgaaDoor.domResumes
namespace Go.Proofs.YtbmfpkpcljihgaaDoor
/-- The statement, under a short name. -/
theorem domResumes_holds : Rows.DomResumesCardSaid := domResumes.card
end Go.Proofs.YtbmfpkpcljihgaaDoor
#print axioms Go.Proofs.YtbmfpkpcljihgaaDoor.domResumes_holds
