/- What the condition on the laid variables gives: of each error its cell, and that no two are at one place; conditions: none. -/
import Derived.Test.YtbmfpkpcljihgaaDoorGB
import Derived.Deep.Slices
import Derived.Deep.Fields
import Derived.ChangeSame
import Derived.ProofKit
import Derived.OpenShut
import Derived.ChangeOld
import Derived.LaidHandle
import Derived.LaidMore
import Derived.FnData
import Derived.LaidLaws
import Derived.ChangeArms
namespace Go.Proofs.YtbmfpkpcljihgaaDoor.X
open Go Go.WideShapes
set_option linter.unusedSimpArgs false
set_option linter.unusedVariables false
theorem trod_err {H : Type} {enc : TypeId × Value → H} {P : Program} {W : World} {base : Nat} {sp : Nat → Bool} {fuel : Nat} {t U E : TypeId} {ms : Array (String × TypeId)} {cs : List Value} {name : String} {d' : DataW H} {p : List MemPlace}
    (ht : P.underlying t = some (.interface ms)) (hU : ∀ u, P.typeName? 3 u = some name → u = U) (hp : P.underlying U = some (.pointer E)) (hok : ∀ u v, cs = [.iface u v] → Value.okWide P W .any 0 u v) (h : DataW.trod enc P W base sp false fuel t cs = some (.iface name (.ptr d'), p)) :
    ∃ a q, cs = [.iface U (.pointer (some a))] ∧ p = MemPlace.row a (P.cellsOf E) ++ q := by
  cases fuel with
  | zero => simp [DataW.trod] at h
  | succ n =>
    unfold DataW.trod at h
    rw [ht] at h
    cases cs with
    | nil => simp at h
    | cons v r =>
      cases r with
      | cons v' r => cases v <;> simp at h
      | nil =>
        cases v <;> simp at h
        rename_i u y
        cases hn : P.typeName? 3 u with
        | none => rw [hn] at h; simp at h
        | some nm =>
          rw [hn] at h
          simp only [Option.map_eq_some_iff] at h
          obtain ⟨⟨x1, x2⟩, h1, h2⟩ := h
          simp only [Prod.mk.injEq, DataW.iface.injEq] at h2
          obtain ⟨⟨rfl, rfl⟩, rfl⟩ := h2
          have hu : u = U := hU u hn
          subst hu
          rcases DataW.trod_pointer hp h1 with ⟨_, e⟩ | ⟨a, cs', y', m, _, hc, hx, _, _⟩
          · simp at e
          · simp only [Prod.mk.injEq] at hx
            obtain ⟨a0, rfl⟩ := okWide_pointer hp (hok _ _ rfl)
            have hy : a0 = some a := by simpa [Value.cells] using hc
            subst hy
            exact ⟨a, y'.2, rfl, hx.2⟩
/-- The errors of a list of laid variables: where they are. -/
theorem laid_errs {P : Program} {W : World} {U E : TypeId} {name : String} (hU : ∀ u, P.typeName? 3 u = some name → u = U) (hp : P.underlying U = some (.pointer E)) (hE : P.cellsOf E = 1) : ∀ (l : List (String × DataW Unit)) (ps : List MemPlace), DataW.LaidVars P W l ps → ps.Nodup → (∀ b off, MemPlace.cell b off ∈ ps → ∀ u v, W.cell? ⟨b, off, none⟩ = some (.iface u v) → Value.okWide P W .any 0 u v) →
    (∀ x ∈ l, (∃ d, x.2 = .iface name (.ptr d)) ∧ ∀ g t, P.globalNamed x.1 = some g → (P.globals[g]?).map (·.type) = some t → ∃ ms, P.underlying t = some (.interface ms)) →
    ∃ ads : List Addr, ads.length = l.length ∧ (∀ (i : Nat) (x : String × DataW Unit), l[i]? = some x → ∃ a g, ads[i]? = some a ∧ P.globalNamed x.1 = some g ∧ W.cell? ⟨g, 0, none⟩ = some (.iface U (.pointer (some a)))) ∧ (ads.map fun a => (a.block, a.off)).Nodup ∧ ∀ a ∈ ads, MemPlace.cell a.block a.off ∈ ps := by
  intro l
  induction l with
  | nil => intro ps _ _ _ _; exact ⟨[], rfl, by simp, by simp, by simp⟩
  | cons x l ih =>
    intro ps hL hnd hok hall
    obtain ⟨n, d⟩ := x
    obtain ⟨g, t, cs, fuel, p, q, hg, ht, hv, hd, hr, rfl⟩ := hL
    obtain ⟨⟨d', rfl⟩, hms⟩ := hall (n, d) List.mem_cons_self
    obtain ⟨ms, hms⟩ := hms g t hg ht
    have hcell : ∀ v, cs.toList = [v] → W.cell? ⟨g, 0, none⟩ = some v := fun v hcs => by
      have := World.var?_cell hg hv 0
      rw [Array.eq_one_of_toList hcs] at this
      simpa using this
    obtain ⟨a, q', hcs, rfl⟩ := trod_err hms hU hp (fun u v hcs => hok g 0 (List.mem_append_left _ (List.mem_append_left _ (by
      rw [Array.eq_one_of_toList hcs]; simp [MemPlace.row]))) u v (hcell _ hcs)) hd
    have hnd2 := List.nodup_append.1 hnd
    obtain ⟨ads, h1, h2, h3, h4⟩ := ih q hr hnd2.2.1 (fun b off hb => hok b off (List.mem_append_right _ hb)) (fun x hx => hall x (List.mem_cons_of_mem _ hx))
    have ha : MemPlace.cell a.block a.off ∈ MemPlace.row ⟨g, 0, none⟩ cs.size ++ (MemPlace.row a (P.cellsOf E) ++ q') := by
      refine List.mem_append_right _ (List.mem_append_left _ ?_)
      rw [hE]; simp [MemPlace.row]
    refine ⟨a :: ads, by simp [h1], ?_, ?_, ?_⟩
    · intro i x hi
      cases i with
      | zero =>
        simp only [List.getElem?_cons_zero, Option.some.injEq] at hi
        subst hi
        exact ⟨a, g, rfl, hg, hcell _ hcs⟩
      | succ i => exact h2 i x (by simpa using hi)
    · rw [List.map_cons, List.nodup_cons]
      refine ⟨fun hm => ?_, h3⟩
      obtain ⟨b, hb, e⟩ := List.mem_map.1 hm
      simp only [Prod.mk.injEq] at e
      have := h4 b hb
      rw [e.1, e.2] at this
      exact hnd2.2.2 _ ha _ this rfl
    · intro b hb
      rcases List.mem_cons.1 hb with rfl | hb
      · exact List.mem_append_left _ ha
      · exact List.mem_append_right _ (h4 b hb)
/-- Of each of these globals: it holds an error of its own. -/
def ErrsIn (As : List HP) (U : TypeId) (gs : List Nat) (ads : List Addr) : Prop := ads.length = gs.length ∧ ads.Nodup ∧ (∀ a ∈ ads, ∃ c t, Has As a.block (.cells c t (0, 0))) ∧ ∀ (i g : Nat) (a : Addr), gs[i]? = some g → ads[i]? = some a → GlobV As g (.iface U (.pointer (some a)))
theorem ErrsIn.tail {A : HP} {As : List HP} {U : TypeId} {gs : List Nat} {ads : List Addr} (h : ErrsIn As U gs ads) : ErrsIn (A :: As) U gs ads :=
  ⟨h.1, h.2.1, fun a ha => (let ⟨c, t, h3⟩ := h.2.2.1 a ha; ⟨c, t, h3.tail⟩), fun i g a h1 h2 => (h.2.2.2 i g a h1 h2).tail⟩
def Errs (W : World) (U : TypeId) (gs : List Nat) : Prop := ∃ ads : List Addr, ErrsIn [snap W] U gs ads
theorem ErrsIn.get {As : List HP} {U : TypeId} {gs : List Nat} {ads : List Addr} (h : ErrsIn As U gs ads) (i : Nat) {g : Nat} {a : Addr} (hg : gs[i]? = some g) (ha : ads[i]? = some a) : GlobV As g (.iface U (.pointer (some a))) := h.2.2.2 i g a hg ha
theorem Errs.get {W : World} {U : TypeId} {gs : List Nat} (h : Errs W U gs) (i : Nat) {g : Nat} (hg : gs[i]? = some g) : ∃ a, GlobV [snap W] g (.iface U (.pointer (some a))) := by
  obtain ⟨ads, h⟩ := h
  have hi : i < ads.length := by rw [h.1]; exact (List.getElem?_eq_some_iff.1 hg).1
  exact ⟨ads[i], h.get i hg (List.getElem?_eq_getElem hi)⟩
theorem Errs.of_laid {P : Program} {W : World} {U E : TypeId} {name : String} {l : List (String × DataW Unit)} {gs : List Nat} (hU : ∀ u, P.typeName? 3 u = some name → u = U) (hp : P.underlying U = some (.pointer E)) (hE : P.cellsOf E = 1)
    (hL : laidMet P l W) (hall : ∀ x ∈ l, (∃ d, x.2 = .iface name (.ptr d)) ∧ ∀ g t, P.globalNamed x.1 = some g → (P.globals[g]?).map (·.type) = some t → ∃ ms, P.underlying t = some (.interface ms))
    (hgs : l.map (fun x => P.globalNamed x.1) = gs.map some) : Errs W U gs := by
  obtain ⟨ps, h1, h2, h3⟩ := hL
  obtain ⟨ads, a1, a2, a3, a4⟩ := laid_errs hU hp hE l ps h1 h2 (fun b off hb => (h3 b off hb).2) hall
  have hlen : l.length = gs.length := by simpa using congrArg List.length hgs
  refine ⟨ads, a1.trans hlen, ?_, fun a ha => ?_, fun i g a hg ha => ?_⟩
  · exact List.Pairwise.imp (fun h e => h (by rw [e])) (List.pairwise_map.1 a3)
  · obtain ⟨c, t, h⟩ := (h3 _ _ (a4 a ha)).1
    exact ⟨c, t, Has.of_snap h⟩
  · have hi : i < l.length := by rw [hlen]; exact (List.getElem?_eq_some_iff.1 hg).1
    obtain ⟨a', g', b1, b2, b3⟩ := a2 i l[i] (List.getElem?_eq_getElem hi)
    have := congrArg (fun m => m[i]?) hgs
    simp only [List.getElem?_map, hg, List.getElem?_eq_getElem hi, Option.map_some, Option.some.injEq] at this
    rw [b2] at this
    simp only [Option.some.injEq] at this
    subst this
    rw [ha] at b1
    cases b1
    exact GlobV.of_cell b3
end Go.Proofs.YtbmfpkpcljihgaaDoor.X
