/- The engine of this seat's proofs, part 18: values put in another form as they are made; conditions: none. -/
import Derived.Test.YtbmfpkpcljihgaaDoorGB
namespace Go.Proofs.YtbmfpkpcljihgaaDoor.X
open Go
set_option linter.unusedSimpArgs false
set_option linter.unusedVariables false
section
variable {C : Cfg} {N : Nat} {gd : List (Option Nat)} {r : List Oper} {σ : Env} {w z : World} {Q : Env → World → Prop} {d : Nat}
theorem OpsW.stV {o : Oper} {v0 v : Value} (h : stepE C.T N gd σ o = some (upd σ d v0)) (e : v0 = v) (k : OpsW C N gd r (upd σ d v) w Q) : OpsW C N gd (o :: r) σ w Q := by
  subst e; exact .st h k
end
theorem upds_self {σ : Env} : ∀ {l : List (Nat × Value)}, AllEq σ l → upds σ l = σ
  | [], _ => rfl
  | (d, v) :: l, ⟨h1, h2⟩ => by rw [upds, upds_self h2, upd_self h1]
theorem CW.trim {C : Cfg} {N : Nat} {x : Code} {σ : Env} {w : World} {Q : Post} (l : List (Nat × Value)) (h : AllEq σ l) (k : ∀ τ, upds τ l = σ → CW C N x (upds τ l) w Q) : CW C N x σ w Q := by
  have := k σ (upds_self h); rwa [upds_self h] at this
theorem OpsW.trim {C : Cfg} {N : Nat} {gd : List (Option Nat)} {r : List Oper} {σ : Env} {w : World} {Q : Env → World → Prop} (l : List (Nat × Value)) (h : AllEq σ l) (k : ∀ τ, upds τ l = σ → OpsW C N gd r (upds τ l) w Q) : OpsW C N gd r σ w Q := by
  have := k σ (upds_self h); rwa [upds_self h] at this
theorem Agree.trim {D : Nat → Bool} {τ σ σ₀ : Env} {l : List (Nat × Value)} (hτ : upds τ l = σ) (h : Agree D σ σ₀) : Agree D (upds τ l) σ₀ := hτ ▸ h
end Go.Proofs.YtbmfpkpcljihgaaDoor.X
namespace Go.Proofs.YtbmfpkpcljihgaaDoor.X
open Go
set_option linter.unusedSimpArgs false
set_option linter.unusedVariables false
section
variable {α : Type} (c : α → List Value) (sz : Nat) (hc : ∀ x, (c x).length = sz)
include hc
end
section
variable {C : Cfg} {N : Nat} {gd : List (Option Nat)} {r : List Oper} {σ σ' : Env} {w z : World} {Q : Env → World → Prop} {As Rs : List HP} {x y : Operand} {d t t2 b off n1 cap1 n2 sz : Nat} {ty E : TypeId} {pos : String} {af : Array Edge} {g : Option (Nat × Bool)} {v2 : Value} {c c2 : List Value} {dst : Option Nat}
end
end Go.Proofs.YtbmfpkpcljihgaaDoor.X
namespace Go.Proofs.YtbmfpkpcljihgaaDoor.X
open Go
set_option linter.unusedSimpArgs false
set_option linter.unusedVariables false
section
variable {C : Cfg} {N : Nat} {gd : List (Option Nat)} {r : List Oper} {σ : Env} {w z : World} {Q : Env → World → Prop} {As : List HP} {x y : Operand} {d t E : Nat} {ty yt : TypeId} {pos : String} {af : Array Edge} {g : Option (Nat × Bool)}
end
end Go.Proofs.YtbmfpkpcljihgaaDoor.X
namespace Go.Proofs.YtbmfpkpcljihgaaDoor.X
open Go
set_option linter.unusedSimpArgs false
set_option linter.unusedVariables false
theorem mk_add {α : Type} (n m : Nat) (g : Nat → α) : mk (n + m) g = mk n g ++ mk m fun i => g (n + i) := by
  rw [mk, List.range_add, List.map_append, List.map_map]; rfl
theorem fl_spliceR {α : Type} (c : α → List Value) (sz : Nat) (hc : ∀ x, (c x).length = sz) (l : List α) (rest : List Value) (i : Nat) (hi : i < l.length) (x : α) : splice (l.flatMap c ++ rest) (i * sz) (c x) = (l.set i x).flatMap c ++ rest := by
  have h1 : ((l.take i).flatMap c).length = i * sz := by rw [fl_length c sz hc, List.length_take, Nat.min_eq_left (by omega)]
  rw [fl_split c l i hi, ← List.append_assoc, List.append_assoc _ _ rest, ← h1, splice_mid _ _ _ _ (by rw [hc, hc])]
  rw [List.set_eq_take_append_cons_drop, if_pos hi, List.flatMap_append, List.flatMap_cons, List.append_assoc, List.append_assoc, List.append_assoc]
theorem takeK_run {β : Type} : ∀ (n : Nat) (l : List Value) (k : List Value → Option β), n ≤ l.length → takeK n l k = k (l.take n)
  | 0, _, k, _ => by simp [takeK]
  | n + 1, [], _, h => by simp at h
  | n + 1, a :: r, k, h => by simp only [takeK, force_eq]; rw [takeK_run n r _ (by simpa using h)]; rfl
end Go.Proofs.YtbmfpkpcljihgaaDoor.X
namespace Go.Proofs.YtbmfpkpcljihgaaDoor.X
open Go Go.Proofs
set_option linter.unusedSimpArgs false
set_option linter.unusedVariables false
section
variable {C : Cfg} {N : Nat} {gd : List (Option Nat)} {r : List Oper} {σ : Env} {w z : World} {Q : Env → World → Prop} {As : List HP} {x y y' : Operand} {d t : Nat} {ty yt : TypeId} {pos : String} {af : Array Edge} {g : Option (Nat × Bool)}
end
end Go.Proofs.YtbmfpkpcljihgaaDoor.X
namespace Go.Proofs.YtbmfpkpcljihgaaDoor.X
open Go
set_option linter.unusedSimpArgs false
set_option linter.unusedVariables false
section
variable {C : Cfg} {N : Nat} {gd : List (Option Nat)} {r : List Oper} {σ σ' : Env} {w z : World} {Q : Env → World → Prop} {As Rs : List HP} {x y : Operand} {d t t2 b off n1 cap1 n2 sz : Nat} {ty E : TypeId} {pos : String} {af : Array Edge} {g : Option (Nat × Bool)} {v2 : Value} {c c2 : List Value} {dst : Option Nat}
end
end Go.Proofs.YtbmfpkpcljihgaaDoor.X
namespace Go.Proofs.YtbmfpkpcljihgaaDoor.X
open Go
section
variable {C : Cfg} {N : Nat} {σ : Env} {w : World} {Q : Post} {x y u : Code} {c : Operand} {i : Nat}
theorem CW.seqDc (h : CW C N (.cond c x y) σ w (thenQ (fun σ w => CW C N u σ w Q) Q)) : CW C N (.seq (.cond c x y) u) σ w Q := .seqD h
theorem CW.seqDb (h : CW C N (.block i x) σ w (thenQ (fun σ w => CW C N u σ w Q) Q)) : CW C N (.seq (.block i x) u) σ w Q := .seqD h
theorem CW.seqDl (h : CW C N (.loop x) σ w (thenQ (fun σ w => CW C N u σ w Q) Q)) : CW C N (.seq (.loop x) u) σ w Q := .seqD h
theorem CW.seqDs (h : CW C N (.seq x y) σ w (thenQ (fun σ w => CW C N u σ w Q) Q)) : CW C N (.seq (.seq x y) u) σ w Q := .seqD h
theorem CW.seqDk (h : CW C N .skip σ w (thenQ (fun σ w => CW C N u σ w Q) Q)) : CW C N (.seq .skip u) σ w Q := .seqD h
end
section
variable {C : Cfg} {N : Nat} {gd : List (Option Nat)} {r : List Oper} {σ : Env} {w z : World} {Q : Env → World → Prop} {As : List HP} {x : Operand} {d t b off : Nat} {ty : TypeId} {pos : String} {af : Array Edge} {g : Option (Nat × Bool)}
theorem OpsW.ldS {n cap k : Nat} {c : List Value} {v : Value} (H : Sat z w As) (h : SlR As (.slice (some ⟨b, off, none⟩) n cap) 1 n c) (hg : wan gd σ g = some true) (ha : ev σ x = .pointer (some ⟨b, off + k * 1, none⟩)) (hu : C.T.isAgg t = false)
    (h0 : Nat.blt 0 (C.T.kind.getD t 0) = true) (hl : k < n) (hv : c[k]? = some v) (hd : Nat.blt d N = true)
    (K : OpsW C N gd r (upd σ d v) w Q) : OpsW C N gd (⟨some d, .load t x, ty, pos, af, g⟩ :: r) σ w Q := by
  obtain ⟨h1, a, cap', e, hcp, h2⟩ := h
  rcases h2 with h2 | ⟨b', off', m, E, fr, h3, h4, h5⟩
  · omega
  · subst h3
    simp only [Value.slice.injEq, Option.some.injEq, Addr.mk.injEq] at e
    obtain ⟨⟨rfl, rfl, -⟩, -, -⟩ := e
    refine .ldh (H.has h4) hg ha hu h0 ?_ hd K
    rw [Nat.mul_one, h5 k (by omega)]; exact hv
end
end Go.Proofs.YtbmfpkpcljihgaaDoor.X
namespace Go.Proofs.YtbmfpkpcljihgaaDoor.X
open Go
set_option linter.unusedSimpArgs false
section
variable {C : Cfg} {N : Nat} {gd : List (Option Nat)} {r : List Oper} {σ : Env} {w : World} {Q : Env → World → Prop}
end
end Go.Proofs.YtbmfpkpcljihgaaDoor.X
