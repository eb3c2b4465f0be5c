/- Plain law of decisions: clean copies, options put into claims, choices; that deciding one after the other is applying. No walk. -/
import Derived.Test.YtokmkopihhnggaaGreatDoorGu4M
import Derived.Test.YtokmkopihhnggaaGreatDoorAr1M
set_option linter.unusedVariables false
set_option linter.unusedSimpArgs false
namespace Go.Proofs.YtokmkopihhnggaaGreatDoor
open Go Go.RowKit
noncomputable def clR (r : GRat) : GRat := enc (qOf r)
noncomputable def clC (c : GClaim) : GClaim := ⟨c.holder, c.rank, clR c.amount⟩
noncomputable def clP (p : GPart) : GPart := ⟨p.claim, p.capped, clR p.cap⟩
noncomputable def clT (t : List GPart) : List GPart := t.map clP
noncomputable def clA (a : GAgr) : GAgr := a.map clT
noncomputable def clE (e : GEst) : GEst := ⟨clR e.cash, e.claims.map clC, e.agrs.map clA⟩
noncomputable def clD (d : GDebt) : GDebt := ⟨clR d.whole, d.legs⟩
noncomputable def clG (g : GGrp) : GGrp := ⟨g.ests.map clE, g.debts.map clD⟩
theorem set_all {Pr : GEst → Prop} {es : List GEst} (h : ∀ e ∈ es, Pr e) (j : Nat) (x : GEst) (hx : j < es.length → Pr x) : ∀ e ∈ es.set j x, Pr e := fun e he => by
 obtain ⟨i, hi, rfl⟩ := List.getElem_of_mem he
 rw [List.getElem_set]
 split
 ·rename_i hji; subst hji; exact hx (by simpa using hi)
 exact h _ (List.getElem_mem _)
noncomputable def opC (c : GClaim) (o : GOpt) : GClaim := ⟨c.holder, o.rank, clR o.amount⟩
noncomputable def stC (e : GEst) (k : Nat) (o : GOpt) : GEst := ⟨e.cash, e.claims.set k (opC (e.claims.getD k default) o), e.agrs⟩
noncomputable def stE (es : List GEst) (i k : Nat) (o : GOpt) : List GEst := es.set i (stC (es.getD i ztEst) k o)
noncomputable def stL (es : List GEst) (d : GDisp) (c : Int) : List GEst := stE es d.est.toNat d.cl.toNat (d.opts.getD c.toNat default)
noncomputable def apF (c : List Int) : List GDisp → Nat → List GEst → List GEst
 | [], _, es => es
 | d :: l, i, es => apF c l (i + 1) (stL es d (c.getD i 0))
def ftL (c : List Int) : List GDisp → Nat → Bool
 | [], _ => true
 | d :: l, i => if c.getD i 0 < 0 then false else if (d.opts.length : Int) ≤ c.getD i 0 then false else ftL c l (i + 1)
noncomputable def apS (dc : Int) (g : GGrp) (l : List GDisp) (c : List Int) : GGrp × Int := if dc = 0 then (if c.length = l.length then (if ftL c l 0 = true then (⟨apF c l 0 (clG g).ests, (clG g).debts⟩, 0) else (⟨[], []⟩, 41)) else (⟨[], []⟩, 4)) else (⟨[], []⟩, dc)
theorem stE_len (es : List GEst) (i k : Nat) (o : GOpt) : (stE es i k o).length = es.length := List.length_set ..
theorem stE_def (es : List GEst) (i k : Nat) (o : GOpt) : stE es i k o = es.set i (stC (es.getD i ztEst) k o) := rfl
def shp (es : List GEst) : List (List Int) := es.map fun e => e.claims.map (·.holder)
theorem stC_shp (e : GEst) (k : Nat) (o : GOpt) : (stC e k o).claims.map (·.holder) = e.claims.map (·.holder) := by
 unfold stC
 dsimp only
 rw [List.map_set]
 by_cases hk : k < e.claims.length
 ·have : (e.claims.getD k default).holder = (e.claims.map (·.holder))[k]'(by simpa using hk) := by simp [List.getD_eq_getElem?_getD, hk]
  unfold opC
  dsimp only
  rw [this]
  exact List.set_getElem_self _
 exact List.set_eq_of_length_le (by simpa using hk)
theorem stE_shp (es : List GEst) (i k : Nat) (o : GOpt) : shp (stE es i k o) = shp es := by
  unfold shp stE
  rw [List.map_set]
  by_cases hi : i < es.length
  · have h1 : (stC (es.getD i ztEst) k o).claims.map (·.holder) = (es.map fun e => e.claims.map (·.holder))[i]'(by simpa using hi) := by
      rw [stC_shp, getD_at es i hi]; simp
    rw [h1]
    exact List.set_getElem_self _
  exact List.set_eq_of_length_le (by simpa using hi)
theorem shp_at {es fs : List GEst} (h : shp es = shp fs) (i : Nat) : (es.getD i ztEst).claims.map (·.holder) = (fs.getD i ztEst).claims.map (·.holder) := by
 have h1 : (shp es).getD i [] = (shp fs).getD i [] := by rw [h]
 have key : ∀ l : List GEst, (shp l).getD i [] = (l.getD i ztEst).claims.map (·.holder) := fun l => by
  simp only [shp, List.getD_eq_getElem?_getD, List.getElem?_map]
  cases l[i]? <;> rfl
 rwa [key, key] at h1
theorem shp_cl {es fs : List GEst} (h : shp es = shp fs) (i : Nat) : (es.getD i ztEst).claims.length = (fs.getD i ztEst).claims.length := by
 have := congrArg List.length (shp_at h i)
 simpa using this
theorem exB_lt {g : GGrp} {i c : Int} (h : exB g i c = true) : 0 ≤ i ∧ i < g.ests.length ∧ 0 ≤ c ∧ c < (g.ests.getD i.toNat ztEst).claims.length := by
 unfold exB at h
 split at h
 ·split at h
  ·split at h
   ·exact ⟨‹_›, ‹_›, ‹_›, by simpa using h⟩
   cases h
  cases h
 cases h
def fits (l : List GDisp) (c : List Int) : Prop := c.length = l.length ∧ ∀ i (h : i < l.length) (h' : i < c.length), 0 ≤ c[i] ∧ c[i] < (l[i].opts.length : Int)
end Go.Proofs.YtokmkopihhnggaaGreatDoor
