/- The engine of this seat's proofs: a stretch in any order in which one operation stands that nobody hangs on; conditions: none. -/
import Derived.Test.YtnfefbhjdncccaaDoorX25
namespace Go.Proofs.YtnfefbhjdncccaaDoor.X
open Go
set_option linter.unusedSimpArgs false
set_option linter.unusedVariables false
def msk (dq : Nat) (τ σ : Env) : Env := fun s => bif Nat.beq s dq then τ s else σ s
def maskD (n m q : Nat) : List Bool := (List.replicate m true ++ List.replicate (n - m) false).set q false
def segOkD (l : List Oper) (B : List Nat) (k m q : Nat) : Bool :=
  Nat.ble k m && Nat.ble m l.length && Nat.ble k q && Nat.blt q m &&
  (List.range l.length).all (fun i => (Nat.blt i m) || (List.range m).all fun j => Nat.blt j k || Nat.beq j q || Nat.testBit (B.getD i 0) j) &&
  (List.range m).all (fun i => Nat.blt i k || (List.range m).all fun j => Nat.blt j k || Nat.beq i j || (match (l[i]?).bind (·.dst), (l[j]?).bind (·.dst) with | some a, some b => !Nat.beq a b | _, _ => true))
section
variable {C : Cfg} {N : Nat} {σ : Env} {w : World} {l : List Oper} {B : List Nat}
theorem segOkD_at {k m q : Nat} (h : segOkD l B k m q = true) : k ≤ m ∧ m ≤ l.length ∧ (∀ i j, m ≤ i → i < l.length → k ≤ j → j < m → j ≠ q → Nat.testBit (B.getD i 0) j = true) ∧
    (∀ i j a, k ≤ i → i < m → k ≤ j → j < m → (l[i]?).bind (·.dst) = some a → (l[j]?).bind (·.dst) = some a → i = j) ∧ k ≤ q ∧ q < m := by
  unfold segOkD at h
  simp only [Bool.and_eq_true] at h
  obtain ⟨⟨⟨⟨⟨h1, h2⟩, hq1⟩, hq2⟩, h3⟩, h4⟩ := h
  refine ⟨Nat.le_of_ble_eq_true h1, Nat.le_of_ble_eq_true h2, fun i j hi hil hj hjm hjq => ?_, fun i j a hi him hj hjm ha hb => ?_, Nat.le_of_ble_eq_true hq1, Nat.le_of_ble_eq_true hq2⟩
  · have := List.all_eq_true.1 h3 i (List.mem_range.2 hil)
    rw [Bool.or_eq_true] at this
    rcases this with this | this
    · have := Nat.le_of_ble_eq_true this; omega
    · have := List.all_eq_true.1 this j (List.mem_range.2 hjm)
      rw [Bool.or_eq_true, Bool.or_eq_true] at this
      rcases this with (this | this) | this
      · have := Nat.le_of_ble_eq_true this; omega
      · exact absurd (Nat.eq_of_beq_eq_true this) hjq
      · exact this
  · have := List.all_eq_true.1 h4 i (List.mem_range.2 him)
    rw [Bool.or_eq_true] at this
    rcases this with this | this
    · have := Nat.le_of_ble_eq_true this; omega
    · have := List.all_eq_true.1 this j (List.mem_range.2 hjm)
      rw [ha, hb] at this
      simp only [Nat.beq_refl, Bool.not_true, Bool.or_false, Bool.or_eq_true] at this
      rcases this with this | this
      · have := Nat.le_of_ble_eq_true this; omega
      · exact Nat.eq_of_beq_eq_true this
/-- As AnyW.seg, but the operation q need not be ahead of what comes behind. -/
theorem AnyW.segD {k m q dq : Nat} {oq : Oper} {z : World} {As : List HP} {rest : List Oper} {Q : Env → World → Prop} (hB : drawOk l B = true) (hs : segOkD l B k m q = true) (hoq : l[q]? = some oq) (hdq : oq.dst = some dq) (htk : takeOk l (maskD l.length m q) q = true) (H : Sat z w As) (hr : (l.drop k).take (m - k) = rest)
    (h : DrawP C N l B k m z As σ (fun σ w => AnyW C N l B m σ w Q ∧ ∀ τ, ∃ v, stepE C.T N (dsts l) (msk dq τ σ) oq = some (upd (msk dq τ σ) dq v) ∧ σ dq = v) k [] σ rest) : AnyW C N l B k σ w Q := by
  intro a Q' R hq
  obtain ⟨hkm, hml, hseg, huniq, hkq, hqm⟩ := segOkD_at hs
  obtain ⟨vs, hvl, hv, hend⟩ := DrawP.all rest k [] σ rfl h
  have hrl : rest.length = m - k := by rw [← hr, List.length_take, List.length_drop]; omega
  have hrest : ∀ t, t < m - k → rest[t]? = l[k + t]? := fun t ht => by rw [← hr, List.getElem?_take, if_pos ht, List.getElem?_drop]
  have hdst : ∀ t d v, vs[t]? = some (d, v) → (l[k + t]?).bind (·.dst) = some d := by
    intro t d v ht
    have htl : t < m - k := by have := (List.getElem?_eq_some_iff.1 ht).1; omega
    obtain ⟨d', v', e1, e2, _⟩ := hv t (rest[t]'(by omega)) (List.getElem?_eq_getElem _)
    rw [ht] at e1; simp at e1
    rw [← hrest t htl, List.getElem?_eq_getElem (by omega)]
    simp [e2, e1.1]
  have hvu : ∀ (t u d : Nat) (v v' : Value), vs[t]? = some (d, v) → vs[u]? = some (d, v') → t = u := by
    intro t u d v v' h1 h2
    have htl : t < m - k := by have := (List.getElem?_eq_some_iff.1 h1).1; omega
    have hul : u < m - k := by have := (List.getElem?_eq_some_iff.1 h2).1; omega
    have := huniq (k + t) (k + u) d (by omega) (by omega) (by omega) (by omega) (hdst _ _ _ h1) (hdst _ _ _ h2)
    omega
  -- what holds while some of them are carried out
  have key : ∀ fuel (listed : Array Bool) (a : Act) (σ₁ : Env) (w : World), listed.size = l.length → (∀ j, j < k → listed[j]? = some true) → (∀ j, m ≤ j → j < l.length → listed[j]? = some false) →
      (∀ i j, listed[i]? = some true → Nat.testBit (B.getD i 0) j = true → listed[j]? = some true) →
      (∀ t d v, vs[t]? = some (d, v) → listed[k + t]? = some true → σ₁ d = v) → (∀ s, (∀ t v, vs[t]? = some (s, v) → listed[k + t]? = some false) → σ₁ s = σ s) →
      Rel N a σ₁ → Sat z w As → listed.toList.count false = fuel → wpAny C.P .any l.toArray Q' fuel listed a w := by
    intro fuel
    induction fuel
    case' succ fuel ih => intro listed a σ₁ w hsz hlo hhi hcl f1 f2 R H hc
    case' zero => intro listed a σ₁ w hsz hlo hhi hcl f1 f2 R H hc
    all_goals
      by_cases hall : ∀ j, k ≤ j → j < m → j ≠ q → listed[j]? = some true
      · -- all of them are, but one that nobody hangs on
        have hqv : ∃ v, vs[q - k]? = some (dq, v) := by
          obtain ⟨d', v', e1, e2, _⟩ := hv (q - k) (rest[q - k]'(by omega)) (List.getElem?_eq_getElem _)
          have e3 := hrest (q - k) (by omega)
          rw [show k + (q - k) = q by omega, hoq, List.getElem?_eq_getElem (by omega)] at e3
          have e4 := Option.some.inj e3
          rw [e4, hdq] at e2
          have e5 := Option.some.inj e2
          exact ⟨v', by rw [e1, e5]⟩
        obtain ⟨vq, hvq⟩ := hqv
        have hlast : vs.foldl (fun σ p => upd σ p.1 p.2) σ dq = vq := (fold_upd vs σ dq hvu).1 _ _ hvq
        have hoth : ∀ s, s ≠ dq → σ₁ s = vs.foldl (fun σ p => upd σ p.1 p.2) σ s := by
          intro s hsq
          by_cases hx : ∃ (t : Nat) (v : Value), vs[t]? = some (s, v)
          · obtain ⟨t, v, ht⟩ := hx
            have htl : t < m - k := by have := (List.getElem?_eq_some_iff.1 ht).1; omega
            rw [(fold_upd vs σ s hvu).1 t v ht]
            refine f1 t s v ht (hall _ (by omega) (by omega) ?_)
            intro e
            have : t = q - k := by omega
            rw [this, hvq] at ht
            exact hsq (by simpa using (congrArg (fun x => x.map Prod.fst) ht).symm)
          · rw [(fold_upd vs σ s hvu).2 fun t v ht => hx ⟨t, v, ht⟩]
            exact f2 s fun t v ht => absurd ⟨t, v, ht⟩ hx
        have hlp : ∀ (b : Bool), listed[q]? = some b → listed = ((pref l.length m).toList.set q b).toArray := by
          intro b hb
          apply Array.ext'
          apply List.ext_getElem?
          intro j
          rw [Array.getElem?_toList]
          show _ = ((pref l.length m).toList.set q b)[j]?
          rw [List.getElem?_set]
          by_cases hjq : q = j
          · subst hjq
            rw [if_pos rfl, if_pos (by unfold pref; simp; omega)]; exact hb
          rw [if_neg hjq]
          unfold pref
          show _ = (List.replicate m true ++ List.replicate (l.length - m) false)[j]?
          by_cases h1 : j < m
          · rw [List.getElem?_append_left (by simpa using h1)]
            simp only [List.getElem?_replicate, h1, if_true]
            by_cases h2 : j < k
            · exact hlo j h2
            · exact hall j (by omega) h1 (fun e => hjq e.symm)
          · rw [List.getElem?_append_right (by simpa using h1)]
            simp only [List.getElem?_replicate, List.length_replicate]
            by_cases h2 : j < l.length
            · rw [if_pos (by omega)]; exact hhi j (by omega) h2
            · rw [if_neg (by omega)]; exact Array.getElem?_eq_none (by omega)
        obtain ⟨hK1, hK2⟩ := hend w H
        have hset1 : (pref l.length m).toList.set q true = (pref l.length m).toList := by
          apply List.ext_getElem?
          intro j
          rw [List.getElem?_set]
          by_cases hjq : q = j
          · subst hjq
            unfold pref
            show _ = (List.replicate m true ++ List.replicate (l.length - m) false)[q]?
            rw [if_pos rfl, if_pos (by simp; omega), List.getElem?_append_left (by simpa using hqm)]
            simp [List.getElem?_replicate, hqm]
          · rw [if_neg hjq]
        cases hlq : listed[q]? with
        | none => have := Array.getElem?_eq_none_iff.1 hlq; omega
        | some b =>
          have hL := hlp b hlq
          cases b
          · -- the one is not
            have hσ : σ₁ = msk dq σ₁ (vs.foldl (fun σ p => upd σ p.1 p.2) σ) := by
              funext s
              unfold msk
              cases hb : Nat.beq s dq
              · refine hoth s ?_
                rintro rfl
                rw [Nat.beq_refl] at hb; cases hb
              · rfl
            obtain ⟨v, hst, hev⟩ := hK2 σ₁
            rw [← hσ] at hst
            have hv' : upd σ₁ dq v = vs.foldl (fun σ p => upd σ p.1 p.2) σ := by
              funext s
              by_cases hsq : s = dq
              · subst hsq
                rw [hev]; unfold upd; rw [Nat.beq_refl]; rfl
              · rw [← hoth s hsq]
                have : Nat.beq s dq = false := by
                  cases h : Nat.beq s dq
                  · rfl
                  · exact absurd (Nat.eq_of_beq_eq_true h) hsq
                unfold upd; rw [this]; rfl
            have hM : (maskD l.length m q)[q]? = some false := by
              unfold maskD
              rw [List.getElem?_set_self (by simp; omega)]
            have hfin : AnyN C N l (l.length - m + 1) (maskD l.length m q) σ₁ w Q := by
              refine AnyN.take hM hoq hst htk ?_
              rw [hv']
              have hms : (maskD l.length m q).set q true = List.replicate m true ++ List.replicate (l.length - m) false := by
                unfold maskD
                rw [List.set_set]
                exact hset1
              exact AnyN.ofW hms rfl hK1
            have hcnt : listed.toList.count false = l.length - m + 1 := by
              rw [hL]
              show ((pref l.length m).toList.set q false).count false = _
              have h1 : ((pref l.length m).toList.set q false)[q]? = some false := by rw [List.getElem?_set_self (by unfold pref; simp; omega)]
              have h2 := count_set _ q h1
              rw [List.set_set, hset1] at h2
              have h3 : (pref l.length m).toList.count false = l.length - m := by unfold pref; simp [List.count_replicate]
              omega
            rw [← hc, hcnt, hL]
            refine wpAny_monoQ ?_ _ _ _ _ (hfin a R)
            intro e a w he
            cases e with
            | normal => obtain ⟨σ', R', hQ⟩ := he; exact hq _ _ _ R' hQ
            | _ => exact he.elim
          · have hpre : listed = pref l.length m := by
              rw [hL, hset1]
            have hfu : listed.toList.count false = l.length - m := by
              rw [hpre]; unfold pref; simp [List.count_replicate]
            have hσ : σ₁ = vs.foldl (fun σ p => upd σ p.1 p.2) σ := by
              funext s
              by_cases hsq : s = dq
              · subst hsq
                rw [hlast]
                exact f1 _ _ _ hvq (by rw [show k + (q - k) = q by omega]; exact hlq)
              · exact hoth s hsq
            have := hK1 a Q' (hσ ▸ R) hq
            rw [hpre, ← hc, hfu]; exact this
    · -- none is left, and yet not all
      exfalso
      apply hall
      intro j hj hjm _
      cases hlj : listed[j]? with
      | none => have := Array.getElem?_eq_none_iff.1 hlj; omega
      | some b =>
        cases b
        · have : false ∈ listed.toList := by
            rw [Array.mem_toList_iff]; exact Array.mem_of_getElem? hlj
          have := List.count_pos_iff.2 this; omega
        · rfl
    · -- the least of those that are not
      have hready : Region.ready .any l.toArray listed ≠ [] := by
        have hex : ∃ j, k ≤ j ∧ j < m ∧ listed[j]? = some false ∧ ∀ i, i < j → listed[i]? = some true := by
          have h1 : ∃ j, k ≤ j ∧ j < m ∧ listed[j]? ≠ some true := by
            apply Classical.byContradiction
            intro hn
            apply hall
            intro j hj hjm _
            apply Classical.byContradiction
            intro h; exact hn ⟨j, hj, hjm, h⟩
          obtain ⟨j, hj⟩ := h1
          have : ∀ n j, j ≤ n → (k ≤ j ∧ j < m ∧ listed[j]? ≠ some true) → ∃ j, k ≤ j ∧ j < m ∧ listed[j]? ≠ some true ∧ ∀ i, i < j → listed[i]? = some true := by
            intro n
            induction n with
            | zero =>
              intro j hjn hj
              have hj0 : j = 0 := by omega
              subst hj0
              exact ⟨0, hj.1, hj.2.1, hj.2.2, fun i hi => by omega⟩
            | succ n ihn =>
              intro j hjn hj
              by_cases hb : ∃ i, i < j ∧ k ≤ i ∧ listed[i]? ≠ some true
              · obtain ⟨i, h1, h2, h3⟩ := hb
                exact ihn i (by omega) ⟨h2, by omega, h3⟩
              · refine ⟨j, hj.1, hj.2.1, hj.2.2, fun i hi => ?_⟩
                by_cases hik : i < k
                · exact hlo i hik
                · apply Classical.byContradiction
                  intro h; exact hb ⟨i, hi, by omega, h⟩
          obtain ⟨j, h1, h2, h3, h4⟩ := this j j (Nat.le_refl _) hj
          refine ⟨j, h1, h2, ?_, h4⟩
          cases hlj : listed[j]? with
          | none => have := Array.getElem?_eq_none_iff.1 hlj; omega
          | some b => cases b
                      · rfl
                      · exact absurd hlj h3
        obtain ⟨j, h1, h2, h3, h4⟩ := hex
        have hol : l.toArray[j]? = some (l[j]'(by omega)) := by rw [List.getElem?_toArray]; exact List.getElem?_eq_getElem _
        intro he
        have := mem_ready (listed := listed) hol (by rw [Array.getD_eq_getD_getElem?, h3]; rfl) (fun e hm hb => by
          have := (drawOk_at hB).2 j _ (List.getElem?_eq_getElem (by omega)) e hm hb
          rw [Array.getD_eq_getD_getElem?, h4 _ this]; rfl)
        rw [he] at this; simp at this
      refine ⟨fun h => absurd h hready, fun i hi => ?_⟩
      obtain ⟨hi1, hi2, hi3⟩ := ready_mem hi
      simp only [List.size_toArray] at hi1
      have hio : l[i]? = some l[i] := List.getElem?_eq_getElem hi1
      have hil : listed[i]? = some false := by
        rw [Array.getD_eq_getD_getElem?] at hi2
        cases hx : listed[i]? with
        | none => rw [hx] at hi2; simp at hi2
        | some b => rw [hx] at hi2; simp at hi2; rw [hi2]
      have hdir : ∀ e ∈ (l[i]).after.toList, Region.binds .any e = true → listed[e.on]? = some true := by
        intro e he hb
        have := hi3 l[i] (by rw [List.getElem?_toArray]; exact hio) e he hb
        rw [Array.getD_eq_getD_getElem?] at this
        cases hx : listed[e.on]? with
        | none => rw [hx] at this; simp at this
        | some b => rw [hx] at this; simp at this; rw [this]
      have hbits : ∀ j, Nat.testBit (B.getD i 0) j = true → listed[j]? = some true := by
        intro j hj
        obtain ⟨e, he, hb, h1⟩ := bit_of hB hio hj
        rcases h1 with rfl | h1
        · exact hdir e he hb
        · exact hcl _ _ (hdir e he hb) h1
      have hki : k ≤ i := by
        apply Classical.byContradiction
        intro h; have := hlo i (by omega); rw [hil] at this; cases this
      have him : i < m := by
        apply Classical.byContradiction
        intro h
        apply hall
        intro j hj hjm hjq
        exact hbits j (hseg i j (by omega) hi1 hj hjm hjq)
      obtain ⟨t, rfl⟩ : ∃ t, i = k + t := ⟨i - k, by omega⟩
      obtain ⟨d, v, e1, e2, e3⟩ := hv t l[k + t] (by rw [hrest t (by omega)]; exact hio)
      have henv : envAt (dsts l) B k m (k + t) ((vs.take t).map som) σ₁ σ = σ₁ := by
        funext s
        unfold envAt
        rcases knownE_spec (B.getD (k + t) 0) k s ((vs.take t).map som) k (mix (unkB (dsts l) B k m (k + t)) σ₁ σ) with ⟨u, x, a1, a2, a3⟩ | ⟨a1, a2⟩
        · rw [a3]
          rw [List.getElem?_map, List.getElem?_take] at a1
          split at a1
          · rename_i hut
            cases hx : vs[u]? with
            | none => rw [hx] at a1; simp at a1
            | some p =>
              rw [hx] at a1; simp [som] at a1
              obtain ⟨p1, p2⟩ := p
              simp at a1
              obtain ⟨rfl, rfl⟩ := a1
              exact (f1 u p1 p2 hx (hbits _ a2)).symm
          · simp at a1
        · rw [a1]
          unfold mix
          cases hb : unkB (dsts l) B k m (k + t) s
          · -- whoever writes it is not carried out yet
            refine (f2 s fun u x hx => ?_).symm
            have hul : u < m - k := by have := (List.getElem?_eq_some_iff.1 hx).1; omega
            have hds := hdst u s x hx
            unfold unkB at hb
            have hb2 := List.any_eq_false.1 hb (k + u) (List.mem_range.2 (by omega))
            have g1 : Nat.blt (k + u) k = false := by
              cases h : Nat.blt (k + u) k
              · rfl
              · have := Nat.le_of_ble_eq_true h; omega
            have g2 : (dsts l).getD (k + u) none = some s := by
              unfold dsts
              rw [List.getD_eq_getElem?_getD, List.getElem?_map]
              cases h : l[k + u]? with
              | none => rw [h] at hds; simp at hds
              | some o => rw [h] at hds; simpa using hds
            rw [g1, g2] at hb2
            simp only [Nat.beq_refl, Bool.not_false, Bool.true_and, Bool.and_true] at hb2
            by_cases hue : k + u = k + t
            · rw [hue]; exact hil
            · have g3 : Nat.beq (k + u) (k + t) = false := by
                cases h : Nat.beq (k + u) (k + t)
                · rfl
                · exact absurd (Nat.eq_of_beq_eq_true h) hue
              rw [g3] at hb2
              simp only [Bool.not_false, Bool.true_and, Bool.not_eq_true, Bool.and_eq_false_iff, Bool.not_eq_false'] at hb2
              rcases hb2 with hb2 | hb2
              · -- it hangs on this one
                cases hx2 : listed[k + u]? with
                | none => have := Array.getElem?_eq_none_iff.1 hx2; omega
                | some b => cases b
                            · rfl
                            · have := hcl _ _ hx2 hb2; rw [hil] at this; cases this
              · simp only [Bool.and_eq_true] at hb2
                have hlt : u < t := by have := Nat.le_of_ble_eq_true hb2.1; omega
                exact absurd hb2.2 (by rw [a2 u x (by rw [List.getElem?_map, List.getElem?_take, if_pos hlt, hx]; rfl)]; simp)
          · rfl
      have hop := e3 σ₁ w H
      rw [List.reverse_nil, List.nil_append, henv] at hop
      refine wpOp_of (o := l[k + t]) (by rw [List.getElem?_toArray]; exact hio) R (by simpa [dsts] using hop) ?_
      rintro a' σ' w' R' ⟨rfl, H'⟩
      have hset : ∀ j, (listed.setIfInBounds (k + t) true)[j]? = if j = k + t then some true else listed[j]? := by
        intro j
        rw [Array.getElem?_setIfInBounds]
        by_cases hj : k + t = j
        · subst hj; rw [if_pos rfl, if_pos (by omega), if_pos rfl]
        · rw [if_neg hj, if_neg (fun e => hj e.symm)]
      refine ih _ a' _ w' (by simpa using hsz) ?_ ?_ ?_ ?_ ?_ R' H' ?_
      · intro j hj; rw [hset, if_neg (by omega)]; exact hlo j hj
      · intro j hj hjl; rw [hset, if_neg (by omega)]; exact hhi j hj hjl
      · intro i' j hi' hj
        rw [hset] at hi' ⊢
        by_cases hi'' : i' = k + t
        · subst hi''
          split
          · rfl
          · exact hbits j hj
        · rw [if_neg hi''] at hi'
          split
          · rfl
          · exact hcl _ _ hi' hj
      · intro u d' x hx hl
        rw [hset] at hl
        by_cases hd : d' = d
        · subst hd
          have := hvu u t d' x v hx e1
          subst this
          rw [e1] at hx; simp at hx; subst hx
          show upd σ₁ d' v d' = v
          unfold upd; rw [Nat.beq_refl]; rfl
        · have hne : k + u ≠ k + t := by
            intro h; have : u = t := by omega
            subst this; rw [e1] at hx; simp at hx; exact hd hx.1.symm
          rw [if_neg hne] at hl
          have hbq : Nat.beq d' d = false := by
            cases h : Nat.beq d' d
            · rfl
            · exact absurd (Nat.eq_of_beq_eq_true h) hd
          show upd σ₁ d v d' = x
          unfold upd; rw [hbq]; exact f1 u d' x hx hl
      · intro s hs
        have hd : s ≠ d := by
          rintro rfl
          have := hs t v e1
          rw [hset, if_pos rfl] at this; cases this
        have hbq : Nat.beq s d = false := by
          cases h : Nat.beq s d
          · rfl
          · exact absurd (Nat.eq_of_beq_eq_true h) hd
        show upd σ₁ d v s = σ s
        unfold upd; rw [hbq]
        refine f2 s fun u x hx => ?_
        have := hs u x hx
        rw [hset] at this
        split at this
        · cases this
        · exact this
      · have := count_set listed.toList (k + t) (by rw [Array.getElem?_toList]; exact hil)
        rw [Array.toList_setIfInBounds]; omega
  refine key (l.length - k) (pref l.length k) a σ w ?_ ?_ ?_ ?_ ?_ ?_ R H ?_
  · simp [pref]; omega
  · intro j hj; unfold pref; rw [List.getElem?_toArray, List.getElem?_append_left (by simpa using hj)]; simp [List.getElem?_replicate, hj]
  · intro j hj hjl; unfold pref; rw [List.getElem?_toArray, List.getElem?_append_right (by simp; omega)]; simp [List.getElem?_replicate]; omega
  · intro i j hi hj
    have hik : i < k := by
      apply Classical.byContradiction
      intro h
      unfold pref at hi
      rw [List.getElem?_toArray, List.getElem?_append_right (by simp; omega)] at hi
      simp [List.getElem?_replicate] at hi
    have hlt := bit_lt hB i _ (List.getElem?_eq_getElem (by omega)) j hj
    unfold pref; rw [List.getElem?_toArray, List.getElem?_append_left (by simp; omega)]; simp [List.getElem?_replicate]; omega
  · intro t d v hv hl
    exfalso
    have htl : t < m - k := by have := (List.getElem?_eq_some_iff.1 hv).1; omega
    unfold pref at hl
    rw [List.getElem?_toArray, List.getElem?_append_right (by simp)] at hl
    simp [List.getElem?_replicate] at hl
  · intro s _; rfl
  · unfold pref; simp [List.count_replicate]
end
end Go.Proofs.YtnfefbhjdncccaaDoor.X
