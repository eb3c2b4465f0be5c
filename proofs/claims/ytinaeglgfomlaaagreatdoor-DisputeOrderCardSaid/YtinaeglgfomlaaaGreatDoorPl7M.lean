/- Plain law of decisions: clean copies, options put into claims, choices; that deciding one after the other is applying. No walk. -/
import Derived.Test.YtinaeglgfomlaaaGreatDoorDp1M
import Derived.Test.YtinaeglgfomlaaaGreatDoorAr1M
set_option linter.unusedVariables false
set_option linter.unusedSimpArgs false
set_option linter.defProp false
set_option linter.unnecessarySimpa false
/- Plain law of decisions: clean copies, options put into claims, choices; that deciding one after the other is applying. No walk. -/
namespace Go.Proofs.YtinaeglgfomlaaaGreatDoor
open Go Go.RowKit
noncomputable def clR (r : GRat) : GRat := enc (qOf r)
noncomputable def clC (c : GClaim) : GClaim := ⟨c.holder, c.rank, clR c.amount⟩
noncomputable def clP (p : GPart) : GPart := ⟨p.claim, p.capped, clR p.cap⟩
noncomputable def clT (t : List GPart) : List GPart := t.map clP
noncomputable def clA (a : GAgr) : GAgr := a.map clT
noncomputable def clE (e : GEst) : GEst := ⟨clR e.cash, e.claims.map clC, e.agrs.map clA⟩
noncomputable def clD (d : GDebt) : GDebt := ⟨clR d.whole, d.legs⟩
noncomputable def clG (g : GGrp) : GGrp := ⟨g.ests.map clE, g.debts.map clD⟩
noncomputable def clO (o : GOpt) : GOpt := ⟨clR o.amount, o.rank⟩
noncomputable def clDp (d : GDisp) : GDisp := ⟨d.est, d.cl, d.opts.map clO⟩
theorem clR_enc (q : Rat) : clR (enc q) = enc q := by unfold clR; rw [qOf_enc]
theorem clR_gZ : clR gZ = gZ := by rw [gZ_enc]; exact clR_enc 0
theorem map_self {α : Type} {f : α → α} : ∀ {l : List α}, (∀ x ∈ l, f x = x) → l.map f = l
  | [], _ => rfl
  | x :: l, h => by rw [List.map_cons, h x (by simp), map_self fun y hy => h y (List.mem_cons_of_mem _ hy)]
def cleE (e : GEst) : Prop := clR e.cash = e.cash ∧ (∀ c ∈ e.claims, clC c = c) ∧ ∀ a ∈ e.agrs, clA a = a
theorem cleE_cl {e : GEst} (h : cleE e) : clE e = e := by
  unfold clE
  rw [h.1, map_self h.2.1, map_self h.2.2]
theorem clE_cle {e : GEst} (h : clE e = e) : cleE e := by
  have h1 := congrArg GEst.cash h
  have h2 : e.claims.map clC = e.claims := congrArg GEst.claims h
  have h3 : e.agrs.map clA = e.agrs := congrArg GEst.agrs h
  refine ⟨h1, fun c hc => ?_, fun a ha => ?_⟩
  · obtain ⟨i, hi, rfl⟩ := List.getElem_of_mem hc
    have := List.getElem_map clC (l := e.claims) (i := i) (h := by simpa using hi)
    simp only [h2] at this
    exact this.symm
  obtain ⟨i, hi, rfl⟩ := List.getElem_of_mem ha
  have := List.getElem_map clA (l := e.agrs) (i := i) (h := by simpa using hi)
  simp only [h3] at this
  exact this.symm
theorem clT_self {t : List GPart} (h : ∀ p ∈ t, clR p.cap = p.cap) : clT t = t := map_self fun p hp => by unfold clP; rw [h p hp]
theorem bgN_cl (e : GEst) (p : N3) : clA (bgN e p) = bgN e p := by
  have h1 : tOK (fun q => clR q.cap = q.cap) (bgT p (bgL e.agrs p e.claims 0 ⟨[], [], []⟩)) := by
    have h2 := bgL_tOK (Q := fun q => clR q.cap = q.cap) e.agrs p e.claims.length (fun i _ _ => by
      unfold bgP
      split
      · exact clR_enc _
      exact clR_gZ) e.claims 0 ⟨[], [], []⟩ (by omega) ⟨by simp, by simp, by simp⟩
    unfold bgT
    split
    · exact put_tOK _ _ _ h2 (clR_enc _)
    exact h2
  unfold bgN clA
  simp only [List.map_cons, List.map_nil, clT_self h1.1, clT_self h1.2.1, clT_self h1.2.2]
theorem set_all {Pr : GEst → Prop} {es : List GEst} (h : ∀ e ∈ es, Pr e) (j : Nat) (x : GEst) (hx : j < es.length → Pr x) : ∀ e ∈ es.set j x, Pr e := fun e he => by
  obtain ⟨i, hi, rfl⟩ := List.getElem_of_mem he
  rw [List.getElem_set]
  split
  · rename_i hji; subst hji; exact hx (by simpa using hi)
  exact h _ (List.getElem_mem _)
theorem grpE_cn (n : Nat) (cash : List Nat) (list : List N4) (pools : List N3) : ∀ e ∈ grpE n cash list pools, cleE e := by
  unfold grpE
  refine foldl_inv (Pr := fun es : List GEst => ∀ e ∈ es, cleE e) _ (fun es p h => ?_) _ _ (foldl_inv (Pr := fun es : List GEst => ∀ e ∈ es, cleE e) _ (fun es x h => ?_) _ _ fun e he => ?_)
  · unfold addAg
    split
    · refine set_all h _ _ fun hj => ?_
      rw [getD_at _ _ hj]
      obtain ⟨h1, h2, h3⟩ := h _ (List.getElem_mem hj)
      refine ⟨h1, h2, fun a ha => ?_⟩
      rcases List.mem_append.1 ha with ha | ha
      · exact h3 a ha
      obtain rfl := List.mem_singleton.1 ha
      exact bgN_cl _ p
    exact h
  · unfold addClaim
    split
    · exact h
    refine set_all h _ _ fun hj => ?_
    rw [getD_at _ _ hj]
    obtain ⟨h1, h2, h3⟩ := h _ (List.getElem_mem hj)
    refine ⟨h1, fun c hc => ?_, h3⟩
    rcases List.mem_append.1 hc with hc | hc
    · exact h2 c hc
    obtain rfl := List.mem_singleton.1 hc
    unfold clC mkClaim
    rw [show clR (gAmt x.d) = gAmt x.d from clR_enc _]
  obtain ⟨i, _, rfl⟩ := List.mem_map.1 he
  refine ⟨?_, by simp [mkEst], by simp [mkEst]⟩
  unfold mkEst
  dsimp only
  split
  · exact clR_enc _
  exact clR_gZ
theorem grpN_cl (n : Nat) (cash : List Nat) (list : List N4) (pools debts : List N3) : clG (grpN n cash list pools debts) = grpN n cash list pools debts := by
  have h1 : (grpN n cash list pools debts).ests.map clE = (grpN n cash list pools debts).ests := map_self fun e he => cleE_cl (grpE_cn n cash list pools e he)
  have h2 : (grpN n cash list pools debts).debts.map clD = (grpN n cash list pools debts).debts := by
    refine map_self ?_
    unfold grpN
    dsimp only
    refine foldl_inv (Pr := fun ds : List GDebt => ∀ d ∈ ds, clD d = d) _ (fun ds p h => ?_) _ _ (by simp)
    unfold addDb
    split
    · intro d hd
      rcases List.mem_append.1 hd with hd | hd
      · exact h d hd
      obtain rfl := List.mem_singleton.1 hd
      unfold clD owN
      rw [clR_enc]
    exact h
  unfold clG
  rw [h1, h2]
noncomputable def opC (c : GClaim) (o : GOpt) : GClaim := ⟨c.holder, o.rank, clR o.amount⟩
noncomputable def stC (e : GEst) (k : Nat) (o : GOpt) : GEst := ⟨e.cash, e.claims.set k (opC (e.claims.getD k default) o), e.agrs⟩
noncomputable def stE (es : List GEst) (i k : Nat) (o : GOpt) : List GEst := es.set i (stC (es.getD i ztEst) k o)
noncomputable def stL (es : List GEst) (d : GDisp) (c : Int) : List GEst := stE es d.est.toNat d.cl.toNat (d.opts.getD c.toNat default)
noncomputable def apF (c : List Int) : List GDisp → Nat → List GEst → List GEst
  | [], _, es => es
  | d :: l, i, es => apF c l (i + 1) (stL es d (c.getD i 0))
noncomputable def apL : List GEst → List GDisp → List Int → List GEst
  | es, d :: l, c :: cs => apL (stL es d c) l cs
  | es, _, _ => es
def ftL (c : List Int) : List GDisp → Nat → Bool
  | [], _ => true
  | d :: l, i => if c.getD i 0 < 0 then false else if (d.opts.length : Int) ≤ c.getD i 0 then false else ftL c l (i + 1)
noncomputable def apS (dc : Int) (g : GGrp) (l : List GDisp) (c : List Int) : GGrp × Int := if dc = 0 then (if c.length = l.length then (if ftL c l 0 = true then (⟨apF c l 0 (clG g).ests, (clG g).debts⟩, 0) else (⟨[], []⟩, 41)) else (⟨[], []⟩, 4)) else (⟨[], []⟩, dc)
noncomputable def dcG (dc : Int) (g : GGrp) (l : List GDisp) (i o : Int) : GGrp × List GDisp × Int :=
  if dc = 0 then (if 0 ≤ i ∧ i < l.length then (if 0 ≤ o ∧ o < (l.getD i.toNat default).opts.length then (⟨stL (clG g).ests (l.getD i.toNat default) o, (clG g).debts⟩, (l.eraseIdx i.toNat).map clDp, 0) else (⟨[], []⟩, [], 41)) else (⟨[], []⟩, [], 1)) else (⟨[], []⟩, [], dc)
theorem apF_apL : ∀ (l : List GDisp) (p c : List Int) (es : List GEst), c.length = l.length → apF (p ++ c) l p.length es = apL es l c
  | [], _, [], _, _ => rfl
  | d :: l, p, c :: cs, es, h => by
    have h1 := apF_apL l (p ++ [c]) cs (stL es d c) (by simpa using h)
    simp only [apF, apL]
    rw [show (p ++ c :: cs).getD p.length 0 = c by simp [List.getD_eq_getElem?_getD]]
    simpa using h1
  | [], _, _ :: _, _, h => by simp at h
  | _ :: _, _, [], _, h => by simp at h
theorem stC_comm (e : GEst) {k k' : Nat} (h : k ≠ k') (o o' : GOpt) : stC (stC e k o) k' o' = stC (stC e k' o') k o := by
  unfold stC
  dsimp only
  have e1 : ∀ x, (e.claims.set k x).getD k' default = e.claims.getD k' default := fun x => by simp [List.getD_eq_getElem?_getD, List.getElem?_set_ne h]
  have e2 : ∀ x, (e.claims.set k' x).getD k default = e.claims.getD k default := fun x => by simp [List.getD_eq_getElem?_getD, List.getElem?_set_ne (Ne.symm h)]
  rw [e1, e2, List.set_comm _ _ h]
theorem stE_out (es : List GEst) (i k : Nat) (o : GOpt) (h : es.length ≤ i) : stE es i k o = es := List.set_eq_of_length_le h
theorem stE_len (es : List GEst) (i k : Nat) (o : GOpt) : (stE es i k o).length = es.length := List.length_set ..
theorem stE_getD_self (es : List GEst) (i k : Nat) (o : GOpt) (h : i < es.length) : (stE es i k o).getD i ztEst = stC (es.getD i ztEst) k o := by
  simp [stE, List.getD_eq_getElem?_getD, h]
theorem stE_getD_ne (es : List GEst) {i j : Nat} (k : Nat) (o : GOpt) (h : i ≠ j) : (stE es i k o).getD j ztEst = es.getD j ztEst := by
  simp [stE, List.getD_eq_getElem?_getD, List.getElem?_set_ne h]
theorem stE_def (es : List GEst) (i k : Nat) (o : GOpt) : stE es i k o = es.set i (stC (es.getD i ztEst) k o) := rfl
theorem stE_comm (es : List GEst) {i k i' k' : Nat} (h : (i, k) ≠ (i', k')) (o o' : GOpt) : stE (stE es i k o) i' k' o' = stE (stE es i' k' o') i k o := by
  by_cases hi : i = i'
  · subst hi
    have hk : k ≠ k' := fun e => h (by rw [e])
    by_cases hl : i < es.length
    · rw [stE_def (stE es i k o) i k' o', stE_def (stE es i k' o') i k o, stE_getD_self es i k o hl, stE_getD_self es i k' o' hl, stC_comm _ hk, stE_def es i k o, stE_def es i k' o', List.set_set, List.set_set]
    rw [stE_out es i k o (by omega), stE_out es i k' o' (by omega), stE_out es i k o (by omega)]
  rw [stE_def (stE es i k o) i' k' o', stE_def (stE es i' k' o') i k o, stE_getD_ne es k o hi, stE_getD_ne es k' o' (Ne.symm hi), stE_def es i k o, stE_def es i' k' o']
  exact List.set_comm _ _ hi
theorem apL_remove : ∀ (l : List GDisp) (c : List Int) (es : List GEst) (i : Nat) (hi : i < l.length) (hc : i < c.length), c.length = l.length → (l.map dLeg).Nodup → (∀ d ∈ l, 0 ≤ d.est ∧ 0 ≤ d.cl) →
    apL es l c = apL (stL es l[i] c[i]) (l.eraseIdx i) (c.eraseIdx i)
  | d :: l, c :: cs, es, 0, _, _, _, _, _ => rfl
  | d :: l, c :: cs, es, i + 1, hi, hc, hlen, hn, h0 => by
    simp only [List.length_cons] at hi hc hlen
    have h1 := apL_remove l cs (stL es d c) i (by omega) (by omega) (by omega) (List.nodup_cons.1 hn).2 (fun x hx => h0 x (List.mem_cons_of_mem _ hx))
    simp only [apL, List.getElem_cons_succ, List.eraseIdx_cons_succ]
    rw [h1]
    congr 1
    unfold stL
    refine stE_comm _ ?_ _ _
    intro e
    refine (List.nodup_cons.1 hn).1 (List.mem_map.2 ⟨l[i]'(by omega), List.getElem_mem _, ?_⟩)
    have ha := h0 d (by simp)
    have hb := h0 (l[i]'(by omega)) (List.mem_cons_of_mem _ (List.getElem_mem _))
    simp only [Prod.mk.injEq] at e
    simp only [dLeg, Prod.mk.injEq]
    omega
  | [], _, _, _, hi, _, _, _, _ => absurd hi (by simp)
  | _ :: _, [], _, _, _, hc, _, _, _ => absurd hc (by simp)
def shp (es : List GEst) : List (List Int) := es.map fun e => e.claims.map (·.holder)
theorem stC_shp (e : GEst) (k : Nat) (o : GOpt) : (stC e k o).claims.map (·.holder) = e.claims.map (·.holder) := by
  unfold stC
  dsimp only
  rw [List.map_set]
  by_cases hk : k < e.claims.length
  · have : (e.claims.getD k default).holder = (e.claims.map (·.holder))[k]'(by simpa using hk) := by simp [List.getD_eq_getElem?_getD, hk]
    unfold opC
    dsimp only
    rw [this]
    exact List.set_getElem_self _
  exact List.set_eq_of_length_le (by simpa using hk)
theorem stE_shp (es : List GEst) (i k : Nat) (o : GOpt) : shp (stE es i k o) = shp es := by
  unfold shp stE
  rw [List.map_set]
  by_cases hi : i < es.length
  · have h1 : (stC (es.getD i ztEst) k o).claims.map (·.holder) = (es.map fun e => e.claims.map (·.holder))[i]'(by simpa using hi) := by
      rw [stC_shp, getD_at es i hi]; simp
    rw [h1]
    exact List.set_getElem_self _
  exact List.set_eq_of_length_le (by simpa using hi)
theorem shp_len {es fs : List GEst} (h : shp es = shp fs) : es.length = fs.length := by
  have := congrArg List.length h
  simpa [shp] using this
theorem shp_at {es fs : List GEst} (h : shp es = shp fs) (i : Nat) : (es.getD i ztEst).claims.map (·.holder) = (fs.getD i ztEst).claims.map (·.holder) := by
  have h1 : (shp es).getD i [] = (shp fs).getD i [] := by rw [h]
  have key : ∀ l : List GEst, (shp l).getD i [] = (l.getD i ztEst).claims.map (·.holder) := fun l => by
    simp only [shp, List.getD_eq_getElem?_getD, List.getElem?_map]
    cases l[i]? <;> rfl
  rwa [key, key] at h1
theorem shp_cl {es fs : List GEst} (h : shp es = shp fs) (i : Nat) : (es.getD i ztEst).claims.length = (fs.getD i ztEst).claims.length := by
  have := congrArg List.length (shp_at h i)
  simpa using this
theorem shp_exB {es fs : List GEst} (h : shp es = shp fs) (ds ds' : List GDebt) (i c : Int) : exB ⟨es, ds⟩ i c = exB ⟨fs, ds'⟩ i c := by
  unfold exB
  dsimp only
  rw [shp_len h, shp_cl h]
theorem shp_in {es fs : List GEst} (h : shp es = shp fs) (l : Leg) : inEsts es l = inEsts fs l := by
  unfold inEsts
  rw [shp_len h, shp_cl h]
theorem shp_hold {es fs : List GEst} (h : shp es = shp fs) (l : Leg) : (claimAt es l).holder = (claimAt fs l).holder := by
  unfold claimAt
  have h1 := shp_at h l.1.toNat
  generalize (es.getD l.1.toNat ztEst).claims = a at *
  generalize (fs.getD l.1.toNat ztEst).claims = b at *
  have h2 : (a.map (·.holder)).getD l.2.toNat 0 = (b.map (·.holder)).getD l.2.toNat 0 := by rw [h1]
  have key : ∀ x : List GClaim, (x.map (·.holder)).getD l.2.toNat 0 = (x.getD l.2.toNat default).holder := fun x => by
    simp only [List.getD_eq_getElem?_getD, List.getElem?_map]
    cases x[l.2.toNat]? <;> rfl
  rwa [key, key] at h2
theorem shp_cdL {es fs : List GEst} (h : shp es = shp fs) (h0 : Int) : ∀ (ls T : List Leg), cdLoop es h0 ls T = cdLoop fs h0 ls T
  | [], _ => rfl
  | l :: ls, T => by simp only [cdLoop, shp_in h, shp_hold h, shp_cdL h h0 ls]
theorem shp_cd {es fs : List GEst} (h : shp es = shp fs) (ds : List GDebt) (d : GDebt) (T : List Leg) : cdSpec ⟨es, ds⟩ d T = cdSpec ⟨fs, ds⟩ d T := by
  unfold cdSpec
  dsimp only
  rw [shp_hold h, shp_cdL h]
theorem shp_gcD {es fs : List GEst} (h : shp es = shp fs) (ds : List GDebt) : ∀ (l : List GDebt) (T : List Leg), gcDebts ⟨es, ds⟩ l T = gcDebts ⟨fs, ds⟩ l T
  | [], _ => rfl
  | d :: l, T => by simp only [gcDebts, shp_cd h, shp_gcD h ds l]
theorem hold_map (n i : Int) : ∀ l : List GClaim, gcHold n i l = (l.map (·.holder)).any fun h => decide (h = i) || decide (n ≤ h)
  | [] => rfl
  | c :: l => by simp only [gcHold, hold_map n i l, List.map_cons, List.any_cons]
theorem shp_gcH (n : Int) : ∀ (es fs : List GEst) (i : Int), shp es = shp fs → gcHolds n i es = gcHolds n i fs
  | [], [], _, _ => rfl
  | e :: es, f :: fs, i, h => by
    simp only [shp, List.map_cons, List.cons.injEq] at h
    simp only [gcHolds, hold_map, h.1, shp_gcH n es fs (i + 1) h.2]
  | [], _ :: _, _, h => by simp [shp] at h
  | _ :: _, [], _, h => by simp [shp] at h
theorem wcC_iff : ∀ l : List GClaim, wcClaims l = 0 ↔ ∀ c ∈ l, -1 ≤ c.holder ∧ c.holder < 8 ∧ 0 ≤ c.rank ∧ c.rank ≤ 7 ∧ 0 ≤ qSgn (qOf c.amount)
  | [] => by simp [wcClaims]
  | c :: l => by
    have ih := wcC_iff l
    simp only [wcClaims, List.mem_cons, forall_eq_or_imp]
    by_cases h1 : c.holder < -1 ∨ 8 ≤ c.holder
    · rw [if_pos h1]; refine ⟨fun h => absurd h (by decide), fun h => ?_⟩; omega
    rw [if_neg h1]
    by_cases h2 : c.rank < 0 ∨ 7 < c.rank
    · rw [if_pos h2]; refine ⟨fun h => absurd h (by decide), fun h => ?_⟩; omega
    rw [if_neg h2]
    by_cases h3 : qSgn (qOf c.amount) < 0
    · rw [if_pos h3]; refine ⟨fun h => absurd h (by decide), fun h => ?_⟩; omega
    rw [if_neg h3, ih]
    exact ⟨fun h => ⟨by omega, h⟩, fun h => h.2⟩
theorem gcE_iff : ∀ l : List GEst, gcEsts l = 0 ↔ ∀ e ∈ l, wcSpec e = 0
  | [] => by simp [gcEsts]
  | e :: l => by
    simp only [gcEsts, List.mem_cons, forall_eq_or_imp]
    by_cases h : wcSpec e = 0
    · rw [if_neg (by simp [h]), gcE_iff l]; simp [h]
    rw [if_pos h]; simp [h]
def opV (o : GOpt) : Prop := 0 ≤ o.rank ∧ o.rank ≤ 7 ∧ 0 ≤ qSgn (qOf o.amount)
theorem stC_wc (e : GEst) (k : Nat) (o : GOpt) (ho : opV o) (hk : k < e.claims.length) (h : wcSpec e = 0) : wcSpec (stC e k o) = 0 := by
  have hl : (stC e k o).claims.length = e.claims.length := by simp [stC]
  unfold wcSpec at h ⊢
  rw [hl]
  have ea : (stC e k o).agrs = e.agrs := rfl
  have ec : (stC e k o).cash = e.cash := rfl
  rw [ea, ec]
  by_cases h1 : 24 < e.claims.length ∨ 12 < e.agrs.length
  · rw [if_pos h1] at h; exact absurd h (by decide)
  rw [if_neg h1] at h ⊢
  by_cases h2 : qSgn (qOf e.cash) < 0
  · rw [if_pos h2] at h; exact absurd h (by decide)
  rw [if_neg h2] at h ⊢
  by_cases h3 : wcClaims e.claims = 0
  · rw [if_neg (by simp [h3])] at h
    have h4 : wcClaims (stC e k o).claims = 0 := by
      rw [wcC_iff] at h3 ⊢
      intro c hc
      rcases List.mem_or_eq_of_mem_set hc with hc | rfl
      · exact h3 c hc
      have hm : e.claims.getD k default ∈ e.claims := by rw [List.getD_eq_getElem?_getD, List.getElem?_eq_getElem hk]; exact List.getElem_mem _
      have := h3 _ hm
      obtain ⟨o1, o2, o3⟩ := ho
      refine ⟨this.1, this.2.1, o1, o2, ?_⟩
      show 0 ≤ qSgn (qOf (clR o.amount))
      unfold clR
      rw [qOf_enc]
      exact o3
    rw [if_neg (by simp [h4])]
    exact h
  rw [if_pos h3] at h; exact absurd h h3
theorem stE_gc (es : List GEst) (ds : List GDebt) (i k : Nat) (o : GOpt) (ho : opV o) (hi : i < es.length) (hk : k < (es.getD i ztEst).claims.length) (h : gcSpec ⟨es, ds⟩ = 0) : gcSpec ⟨stE es i k o, ds⟩ = 0 := by
  have hs := stE_shp es i k o
  unfold gcSpec at h ⊢
  dsimp only at h ⊢
  rw [stE_len, shp_gcH _ _ _ 0 hs, shp_gcD hs]
  split at h
  · exact absurd h (by decide)
  rename_i h1
  rw [if_neg h1]
  by_cases h2 : gcEsts es = 0
  · rw [if_neg (by simp [h2])] at h
    have h3 : gcEsts (stE es i k o) = 0 := by
      rw [gcE_iff] at h2 ⊢
      refine set_all h2 _ _ fun _ => ?_
      exact stC_wc _ k o ho hk (h2 _ (by rw [getD_at es i hi]; exact List.getElem_mem _))
    rw [if_neg (by simp [h3])]
    exact h
  rw [if_pos h2] at h; exact absurd h h2
theorem opG_V {o : GOpt} (h : opG o) : opV o := by
  obtain ⟨⟨q, h1, _, h3⟩, h4, h5⟩ := h
  exact ⟨h4, by omega, by rw [h1, qOf_enc]; exact sgnN h3⟩
theorem opG_cl {o : GOpt} (h : opG o) : clO o = o := by
  obtain ⟨⟨q, h1, _⟩, _⟩ := h
  unfold clO
  obtain ⟨a, r⟩ := o
  dsimp only at h1 ⊢
  rw [h1, clR_enc]
theorem okD_cl {d : GDisp} (h : okD d) : clDp d = d := by
  unfold clDp
  rw [map_self fun o ho => opG_cl (h.2.2 o ho)]
theorem opL_zero : ∀ {l : List GOpt}, (∀ o ∈ l, opG o) → opL l = 0
  | [], _ => rfl
  | o :: l, h => by
    obtain ⟨a, b, c⟩ := opG_V (h o (by simp))
    simp only [opL]
    rw [if_neg (by omega), if_neg (by omega), if_neg (by omega)]
    exact opL_zero fun x hx => h x (List.mem_cons_of_mem _ hx)
theorem opE_zero {d : GDisp} (h : okD d) : opE d.opts = 0 := by
  unfold opE
  rw [if_neg (by have := h.1; omega), if_neg (by have := h.2.1; omega)]
  exact opL_zero h.2.2
def vD (g : GGrp) (l : List GDisp) : Prop := l.length ≤ 6 ∧ (l.map dLeg).Nodup ∧ ∀ d ∈ l, exB g d.est d.cl = true ∧ okD d
theorem dkL_zero (g : GGrp) : ∀ (l : List GDisp) (T : List Leg), (∀ d ∈ l, exB g d.est d.cl = true ∧ okD d) → (l.map dLeg).Nodup → (∀ d ∈ l, dLeg d ∉ T) → dkL g T l = 0
  | [], _, _, _, _ => rfl
  | d :: l, T, h, hn, hT => by
    obtain ⟨h1, h2⟩ := h d (by simp)
    have h3 : dChk g T d = 0 := by
      unfold dChk
      rw [if_pos h1, if_neg (hT d (by simp)), opE_zero h2]
    simp only [dkL]
    rw [if_pos h3]
    refine dkL_zero g l _ (fun x hx => h x (List.mem_cons_of_mem _ hx)) (List.nodup_cons.1 hn).2 fun x hx hm => ?_
    rcases List.mem_append.1 hm with hm | hm
    · exact hT x (List.mem_cons_of_mem _ hx) hm
    refine (List.nodup_cons.1 hn).1 ?_
    rw [← List.mem_singleton.1 hm]
    exact List.mem_map.2 ⟨x, hx, rfl⟩
theorem vD_cn {g : GGrp} {l : List GDisp} (h : vD g l) : cnL l 1 = (prD l : Int) ∧ prD l ≤ 729 ∧ 1 ≤ prD l := fewD_cn ⟨h.1, fun d hd => ⟨(h.2.2 d hd).2.1, (h.2.2 d hd).2.2.1⟩⟩
theorem vD_dc {g : GGrp} {l : List GDisp} (h : vD g l) : dcS 0 g l = 0 := by
  obtain ⟨h1, h2, _⟩ := vD_cn h
  unfold dcS
  rw [if_pos rfl, if_neg (by have := h.1; omega), dkL_zero g l [] h.2.2 h.2.1 (by simp), if_pos rfl, if_neg (by omega)]
theorem exB_lt {g : GGrp} {i c : Int} (h : exB g i c = true) : 0 ≤ i ∧ i < g.ests.length ∧ 0 ≤ c ∧ c < (g.ests.getD i.toNat ztEst).claims.length := by
  unfold exB at h
  split at h
  · split at h
    · split at h
      · exact ⟨‹_›, ‹_›, ‹_›, by simpa using h⟩
      cases h
    cases h
  cases h
theorem vD_erase {g : GGrp} {l : List GDisp} (h : vD g l) (i : Nat) : vD g (l.eraseIdx i) := by
  have hs : (l.eraseIdx i).Sublist l := List.eraseIdx_sublist l i
  exact ⟨Nat.le_trans hs.length_le h.1, (hs.map dLeg).nodup h.2.1, fun d hd => h.2.2 d (hs.subset hd)⟩
theorem vD_shp {es fs : List GEst} {ds : List GDebt} (hs : shp es = shp fs) {l : List GDisp} (h : vD ⟨es, ds⟩ l) : vD ⟨fs, ds⟩ l :=
  ⟨h.1, h.2.1, fun d hd => ⟨by rw [← shp_exB hs ds ds]; exact (h.2.2 d hd).1, (h.2.2 d hd).2⟩⟩
theorem spC_mem (i : Nat) (out : List Leg) : ∀ (c : Nat) (l : Leg), l ∈ spC i out c ↔ l ∈ out ∨ l.1 = (i : Int) ∧ 0 ≤ l.2 ∧ l.2 < c
  | 0, l => by simp only [spC]; exact ⟨.inl, fun h => h.elim id fun h => by omega⟩
  | c + 1, l => by
    rw [spC, List.mem_append, spC_mem i out c l, List.mem_singleton]
    obtain ⟨a, b⟩ := l
    simp only [Prod.mk.injEq]
    constructor
    · rintro ((h | h) | h)
      · exact .inl h
      · exact .inr (by omega)
      exact .inr (by omega)
    rintro (h | h)
    · exact .inl (.inl h)
    by_cases hb : b = c
    · exact .inr (by omega)
    exact .inl (.inr (by omega))
theorem spC_nodup (i : Nat) (out : List Leg) (h : out.Nodup) (hi : ∀ l ∈ out, l.1 < (i : Int)) : ∀ c, (spC i out c).Nodup
  | 0 => h
  | c + 1 => by
    rw [spC, List.nodup_append]
    refine ⟨spC_nodup i out h hi c, by simp, fun a ha b hb => ?_⟩
    obtain rfl := List.mem_singleton.1 hb
    intro e
    subst e
    rcases (spC_mem i out c _).1 ha with h1 | h1
    · have := hi _ h1; simp at this
    simp at h1
theorem spE_mem : ∀ (es : List GEst) (i : Nat) (out : List Leg), out.Nodup → (∀ l ∈ out, l.1 < (i : Int)) →
    (spE es i out).Nodup ∧ ∀ l ∈ spE es i out, l ∈ out ∨ ((i : Int) ≤ l.1 ∧ l.1 < i + es.length ∧ 0 ≤ l.2 ∧ l.2 < (es.getD (l.1.toNat - i) ztEst).claims.length)
  | [], _, out, h, _ => ⟨h, fun l hl => .inl hl⟩
  | e :: es, i, out, h, hi => by
    have hn := spC_nodup i out h hi e.claims.length
    have hb : ∀ l ∈ spC i out e.claims.length, l.1 < ((i + 1 : Nat) : Int) := fun l hl => by
      rcases (spC_mem i out _ l).1 hl with h1 | h1
      · have := hi l h1; omega
      omega
    obtain ⟨h1, h2⟩ := spE_mem es (i + 1) _ hn hb
    refine ⟨h1, fun l hl => ?_⟩
    rcases h2 l hl with h3 | h3
    · rcases (spC_mem i out _ l).1 h3 with h4 | h4
      · exact .inl h4
      refine .inr ⟨by omega, by rw [List.length_cons]; omega, h4.2.1, ?_⟩
      rw [show l.1.toNat - i = 0 by omega]
      exact h4.2.2
    refine .inr ⟨by omega, by rw [List.length_cons]; omega, h3.2.2.1, ?_⟩
    rw [show l.1.toNat - i = (l.1.toNat - (i + 1)) + 1 by omega]
    exact h3.2.2.2
theorem built_vD (g : GGrp) (l : List GDisp) (all : List Leg) (hl : l.length ≤ 6) (hp : (l.map dLeg ++ all).Perm (spE g.ests 0 [])) (hok : ∀ d ∈ l, okD d) : vD g l := by
  obtain ⟨h1, h2⟩ := spE_mem g.ests 0 [] List.nodup_nil (by simp)
  have hn : (l.map dLeg ++ all).Nodup := hp.nodup_iff.2 h1
  refine ⟨hl, (List.nodup_append.1 hn).1, fun d hd => ⟨?_, hok d hd⟩⟩
  have hm : dLeg d ∈ spE g.ests 0 [] := hp.subset (List.mem_append_left _ (List.mem_map.2 ⟨d, hd, rfl⟩))
  rcases h2 _ hm with h | h
  · cases h
  obtain ⟨a, b, c, e⟩ := h
  simp only [dLeg, Int.natCast_zero] at a b c e
  unfold exB
  rw [if_pos (by omega), if_pos (by omega), if_pos c]
  simpa using e
theorem clG_cn {g : GGrp} (h : clG g = g) : (∀ e ∈ g.ests, cleE e) ∧ g.debts.map clD = g.debts := by
  have h1 : g.ests.map clE = g.ests := congrArg GGrp.ests h
  have h2 : g.debts.map clD = g.debts := congrArg GGrp.debts h
  refine ⟨fun e he => ?_, h2⟩
  obtain ⟨i, hi, rfl⟩ := List.getElem_of_mem he
  have := List.getElem_map clE (l := g.ests) (i := i) (h := by simpa using hi)
  simp only [h1] at this
  exact clE_cle this.symm
theorem stE_cl (es : List GEst) (ds : List GDebt) (i k : Nat) (o : GOpt) (h : clG ⟨es, ds⟩ = ⟨es, ds⟩) : clG ⟨stE es i k o, ds⟩ = ⟨stE es i k o, ds⟩ := by
  obtain ⟨h1, h2⟩ := clG_cn h
  dsimp only at h1 h2
  have h3 : ∀ e ∈ stE es i k o, cleE e := by
    refine set_all h1 _ _ fun hi => ?_
    rw [getD_at es i hi]
    obtain ⟨a, b, c⟩ := h1 _ (List.getElem_mem hi)
    refine ⟨a, fun x hx => ?_, c⟩
    rcases List.mem_or_eq_of_mem_set hx with hx | rfl
    · exact b x hx
    unfold clC opC
    dsimp only
    rw [show clR (clR o.amount) = clR o.amount from clR_enc _]
  unfold clG
  dsimp only
  rw [h2, map_self fun e he => cleE_cl (h3 e he)]
def fits (l : List GDisp) (c : List Int) : Prop := c.length = l.length ∧ ∀ i (h : i < l.length) (h' : i < c.length), 0 ≤ c[i] ∧ c[i] < (l[i].opts.length : Int)
theorem fits_ft : ∀ (l : List GDisp) (p c : List Int), fits l c → ftL (p ++ c) l p.length = true
  | [], _, _, _ => rfl
  | d :: l, p, [], h => absurd h.1 (by simp)
  | d :: l, p, c :: cs, h => by
    have h0 := h.2 0 (by simp) (by simp)
    simp only [List.getElem_cons_zero] at h0
    have h1 : fits l cs := ⟨by simpa using h.1, fun i a b => by have := h.2 (i + 1) (by simpa using a) (by simpa using b); simpa using this⟩
    have h2 := fits_ft l (p ++ [c]) cs h1
    simp only [ftL]
    rw [show (p ++ c :: cs).getD p.length 0 = c by simp [List.getD_eq_getElem?_getD], if_neg (by omega), if_neg (by omega)]
    simpa using h2
theorem fits_erase {l : List GDisp} {c : List Int} (h : fits l c) (i : Nat) : fits (l.eraseIdx i) (c.eraseIdx i) := by
  have hlen := h.1
  refine ⟨by rw [List.length_eraseIdx, List.length_eraseIdx, hlen], fun j h1 h2 => ?_⟩
  rw [List.getElem_eraseIdx, List.getElem_eraseIdx]
  rw [List.length_eraseIdx] at h1 h2
  by_cases hj : j < i
  · simp only [hj, if_true, dite_true]
    exact h.2 j (by split at h1 <;> omega) (by split at h2 <;> omega)
  simp only [hj, if_false, dite_false]
  exact h.2 (j + 1) (by split at h1 <;> omega) (by split at h2 <;> omega)
def mid (W : GGrp) (x : GGrp) (l : List GDisp) (c : List Int) : Prop := clG x = x ∧ gcSpec x = 0 ∧ vD x l ∧ fits l c ∧ apL x.ests l c = W.ests ∧ x.debts = W.debts
theorem mid_apply {W x : GGrp} {l : List GDisp} {c : List Int} (h : mid W x l c) : apS (dcS (gcSpec x) x l) x l c = (W, 0) := by
  obtain ⟨h1, h2, h3, h4, h5, h6⟩ := h
  unfold apS
  rw [h2, vD_dc h3, if_pos rfl, if_pos h4.1, h1]
  have hf := fits_ft l [] c h4
  have ha := apF_apL l [] c x.ests h4.1
  simp only [List.nil_append, List.length_nil] at hf ha
  rw [if_pos hf, ha, h5, h6]
theorem mid_step {W x : GGrp} {l : List GDisp} {c : List Int} (h : mid W x l c) (i : Nat) (hi : i < l.length) (hc : i < c.length) :
    ∃ y, dcG (dcS (gcSpec x) x l) x l i c[i] = (y, l.eraseIdx i, 0) ∧ mid W y (l.eraseIdx i) (c.eraseIdx i) := by
  obtain ⟨h1, h2, h3, h4, h5, h6⟩ := h
  have hgd : l.getD i default = l[i] := by rw [List.getD_eq_getElem?_getD, List.getElem?_eq_getElem hi]; rfl
  have hci := h4.2 i hi hc
  obtain ⟨hex, hok⟩ := h3.2.2 _ (List.getElem_mem hi)
  obtain ⟨x1, x2, x3, x4⟩ := exB_lt hex
  have hmo : l[i].opts.getD (c[i]).toNat default ∈ l[i].opts := by rw [List.getD_eq_getElem?_getD, List.getElem?_eq_getElem (show (c[i]).toNat < l[i].opts.length by omega)]; exact List.getElem_mem _
  have hov := opG_V (hok.2.2 _ hmo)
  refine ⟨⟨stL x.ests l[i] c[i], x.debts⟩, ?_, ?_, ?_, ?_, ?_, ?_, h6⟩
  · unfold dcG
    rw [h2, vD_dc h3, if_pos rfl, if_pos (by omega), Int.toNat_natCast, hgd, if_pos hci, h1, map_self fun d hd => okD_cl ((vD_erase h3 i).2.2 d hd).2]
  · exact stE_cl _ _ _ _ _ h1
  · exact stE_gc _ _ _ _ _ hov (by omega) (by omega) h2
  · exact vD_shp (es := x.ests) (ds := x.debts) (stE_shp _ _ _ _).symm (vD_erase h3 i)
  · exact fits_erase h4 i
  rw [← h5]
  exact (apL_remove l c x.ests i hi hc h4.1 h3.2.1 fun d hd => by have := exB_lt (h3.2.2 d hd).1; omega).symm
end Go.Proofs.YtinaeglgfomlaaaGreatDoor
