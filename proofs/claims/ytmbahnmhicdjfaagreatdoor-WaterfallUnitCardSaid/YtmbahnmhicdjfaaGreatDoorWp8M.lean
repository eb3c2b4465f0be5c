/- Plain: the slopes of what an estate pays; they sum up to 1; between kinks what is paid is linear. No walk. -/
import Derived.Test.YtmbahnmhicdjfaaGreatDoorWp3M
import Derived.Test.YtmbahnmhicdjfaaGreatDoorWl8M
set_option linter.unusedVariables false
set_option linter.unusedSimpArgs false
set_option linter.defProp false
set_option linter.unnecessarySimpa false
section
/- Plain: the slopes of what an estate pays; they sum up to 1; between kinks what is paid is linear. No walk. -/
namespace Go.Proofs.YtmbahnmhicdjfaaGreatDoor
open Go Go.RowKit
def wSlope (l : List WT) (m rate : Rat) (R : WR) : WR := wShare l (wSplit l m).1 rate R
def wSlpA : List WT → Rat → Rat → Int → Rat
  | [], _, _, _ => 0
  | t :: l, m, r, i => if m < wSum t then r / wSum t * wAt i t else wSlpA l (m - wSum t) r i
theorem wSlope_nil (m r : Rat) (R : WR) : wSlope [] m r R = R := by simp [wSlope, wSplit, wShare]
theorem wSlope_cons (t : WT) (l : List WT) (m r : Rat) (R : WR) : wSlope (t :: l) m r R = if m < wSum t then wPut (r / wSum t) t R else wSlope l (m - wSum t) r R := by
  unfold wSlope
  by_cases h : m < wSum t
  · simp only [wSplit, h, if_true]
    unfold wShare
    rw [if_pos (by simp)]
    rfl
  simp only [wSplit, h, if_false]
  unfold wShare
  simp only [List.length_cons, Nat.add_lt_add_iff_right, List.getD_cons_succ]
theorem wSlope_len (l : List WT) (m r : Rat) (R : WR) : (wSlope l m r R).cl.length = R.cl.length := wShare_len _ _ _ _
theorem wSlope_get (i : Int) (hi : i = -1 ∨ 0 ≤ i) : ∀ (l : List WT) (m r : Rat) (R : WR), (∀ t ∈ l, wIn R.cl.length t) → (wSlope l m r R).get i = R.get i + wSlpA l m r i
  | [], m, r, R, _ => by rw [wSlope_nil, wSlpA]; grind
  | t :: l, m, r, R, h => by
    rw [wSlope_cons, wSlpA]
    split
    · rw [wPut_get _ i hi t R (h t (by simp))]
    exact wSlope_get i hi l (m - wSum t) r R fun x hx => h x (by simp [hx])
theorem wSlope_all : ∀ (l : List WT) (m r : Rat) (R : WR), 0 ≤ m → wNN l → (∀ t ∈ l, wIn R.cl.length t) → (wSlope l m r R).all = R.all + if m < wCap l then r else 0
  | [], m, r, R, hm, _, _ => by
    have h1 : ¬ m < wCap [] := by rw [wCap]; grind
    rw [wSlope_nil, if_neg h1]; grind
  | t :: l, m, r, R, hm, hn, h => by
    have hc := wCap_nn l fun x hx => hn x (by simp [hx])
    have hs := wSum_nn t (hn t (by simp))
    rw [wSlope_cons, wCap]
    split
    · rename_i h1
      rw [wPut_all _ t R (h t (by simp)), div_mul_self (by grind), if_pos (by grind)]
    rename_i h1
    rw [wSlope_all l (m - wSum t) r R (by grind) (fun x hx => hn x (by simp [hx])) fun x hx => h x (by simp [hx])]
    by_cases h2 : m < wSum t + wCap l
    · rw [if_pos h2, if_pos (by grind)]
    rw [if_neg h2, if_neg (by grind)]
theorem div_nn {a b : Rat} (ha : 0 ≤ a) (hb : 0 < b) : 0 ≤ a / b := by
  rw [Rat.div_def]
  have h2 := Rat.inv_pos.2 hb
  exact Rat.mul_nonneg ha (by grind)
theorem wSlpA_nn (i : Int) : ∀ (l : List WT) (m r : Rat), 0 ≤ m → 0 ≤ r → wNN l → 0 ≤ wSlpA l m r i
  | [], _, _, _, _, _ => by simp [wSlpA]
  | t :: l, m, r, hm, hr, hn => by
    rw [wSlpA]
    split
    · exact Rat.mul_nonneg (div_nn hr (by grind)) (wAt_nn i t (hn t (by simp)))
    exact wSlpA_nn i l (m - wSum t) r (by grind) hr fun x hx => hn x (by simp [hx])
theorem wSlpA_none (i : Int) : ∀ (l : List WT) (m r : Rat), (∀ t ∈ l, wAt i t = 0) → wSlpA l m r i = 0
  | [], _, _, _ => rfl
  | t :: l, m, r, h => by
    rw [wSlpA, h t (by simp), wSlpA_none i l _ r fun x hx => h x (by simp [hx])]
    split <;> grind
theorem wSlpA_full (i : Int) : ∀ (l : List WT) (m r : Rat), 0 ≤ m → wNN l → wPayA l m i = wAts i l → wSlpA l m r i = 0
  | [], _, _, _, _, _ => rfl
  | t :: l, m, r, hm, hn, h => by
    have ha := wAt_nn i t (hn t (by simp))
    have hs := wAts_nn i l fun x hx => hn x (by simp [hx])
    rw [wPayA, wAts] at h
    rw [wSlpA]
    split
    · rename_i h1
      rw [if_pos h1] at h
      have hp : 0 < wSum t := by grind
      have h2 : m / wSum t * wAt i t * wSum t = (wAt i t + wAts i l) * wSum t := by rw [h]
      have h3 : m / wSum t * wAt i t * wSum t = m * wAt i t := by
        have := div_mul_self (m := m) hp
        calc m / wSum t * wAt i t * wSum t = (m / wSum t * wSum t) * wAt i t := by grind
          _ = m * wAt i t := by rw [this]
      have h4 := Rat.mul_nonneg hs (show 0 ≤ wSum t by grind)
      have h5 : (wSum t - m) * wAt i t ≤ 0 := by grind
      have h6 : wAt i t = 0 := by
        apply Classical.byContradiction
        intro hne
        have h7 : 0 < wAt i t := by grind
        have h8 : 0 < (wSum t - m) * wAt i t := Rat.mul_pos (by grind) h7
        grind
      rw [h6]; grind
    rename_i h1
    rw [if_neg h1] at h
    exact wSlpA_full i l (m - wSum t) r (by grind) (fun x hx => hn x (by simp [hx])) (by grind)
def wRates (L : WL) (m : Rat) : List Rat := (wSlope L.ranks m 1 ⟨List.replicate L.count 0, 0⟩).cl
def wSPools (g k : List Rat) : List WPool → WR → WR
  | [], R => R
  | p :: ps, R => wSPools g k ps (wSlope p.2 (wTot g p.1) (wTot k p.1) R)
def wSlo (L : WL) (m : Rat) : WR := wSPools (wGross L m) (wRates L m) L.pools ⟨wTake L.pools (wRates L m), 0⟩
def wRem (l : List WT) (m : Rat) : Nat := l.length - (wSplit l m).1
def wRems (g : List Rat) : List WPool → Nat
  | [] => 0
  | p :: ps => wRem p.2 (wTot g p.1) + wRems g ps
def wMu (L : WL) (m : Rat) : Nat := wRem L.ranks m + wRems (wGross L m) L.pools
theorem wRates_len (L : WL) (m : Rat) : (wRates L m).length = L.count := by
  unfold wRates
  rw [wSlope_len, List.length_replicate]
theorem wSPools_len (g k : List Rat) : ∀ (ps : List WPool) (R : WR), (wSPools g k ps R).cl.length = R.cl.length
  | [], _ => rfl
  | p :: ps, R => by rw [wSPools, wSPools_len g k ps, wSlope_len]
theorem wSlo_len (L : WL) (m : Rat) : (wSlo L m).cl.length = L.count := by
  unfold wSlo
  rw [wSPools_len, wTake_len, wRates_len]
theorem gross_get {e : GEst} (m : Rat) (i : Nat) : (wGross (wLay e) m).getD i 0 = wPayA (wRanks e.claims) m i := by
  have h1 := wPay_get (i : Int) (.inr (by omega)) (wRanks e.claims) m ⟨List.replicate e.claims.length 0, 0⟩ (by simpa using wRanks_in e.claims)
  have h4 : ¬ ((i : Int) = -1) := by omega
  unfold WR.get at h1
  simp only [h4, if_false, Int.toNat_natCast, getD_zero] at h1
  unfold wGross wLay
  rw [h1]; grind
theorem rates_get {e : GEst} (m : Rat) (i : Nat) : (wRates (wLay e) m).getD i 0 = wSlpA (wRanks e.claims) m 1 i := by
  have h1 := wSlope_get (i : Int) (.inr (by omega)) (wRanks e.claims) m 1 ⟨List.replicate e.claims.length 0, 0⟩ (by simpa using wRanks_in e.claims)
  have h4 : ¬ ((i : Int) = -1) := by omega
  unfold WR.get at h1
  simp only [h4, if_false, Int.toNat_natCast, getD_zero] at h1
  unfold wRates wLay
  rw [h1]; grind
theorem rates_len (e : GEst) (m : Rat) : (wRates (wLay e) m).length = e.claims.length := wRates_len _ _
theorem rates_nn {e : GEst} {m : Rat} (h : wEst e.claims) (hm : 0 ≤ m) : rNN (wRates (wLay e) m) := nn_getD fun i => by
  rw [rates_get]
  exact wSlpA_nn _ _ _ _ hm (by decide) (wRanks_nn h.am)
theorem rates_sum {e : GEst} {m : Rat} (h : wEst e.claims) (hm : 0 ≤ m) : rSum (wRates (wLay e) m) = if m < wTotal e.claims then 1 else 0 := by
  have h1 := wSlope_all (wRanks e.claims) m 1 ⟨List.replicate e.claims.length 0, 0⟩ hm (wRanks_nn h.am) (by simpa using wRanks_in e.claims)
  have h2 := wSlope_get (-1) (.inl rfl) (wRanks e.claims) m 1 ⟨List.replicate e.claims.length 0, 0⟩ (by simpa using wRanks_in e.claims)
  rw [wSlpA_none (-1) (wRanks e.claims) m 1 fun t ht => by obtain ⟨r, _, rfl⟩ := wRanks_mem ht; exact wRk_none _ _ _] at h2
  rw [wRanks_cap h.rk] at h1
  unfold WR.all at h1
  unfold WR.get at h2
  simp only [if_true, rSum_zero] at h1 h2
  unfold wRates wLay
  rw [h2] at h1
  grind
def wKs (g k : List Rat) (i : Int) : List WPool → Rat
  | [] => 0
  | p :: ps => wSlpA p.2 (wTot g p.1) (wTot k p.1) i + wKs g k i ps
theorem wSPools_get (g k : List Rat) (i : Int) (hi : i = -1 ∨ 0 ≤ i) : ∀ (ps : List WPool) (R : WR), (∀ p ∈ ps, ∀ t ∈ p.2, wIn R.cl.length t) → (wSPools g k ps R).get i = R.get i + wKs g k i ps
  | [], R, _ => by simp only [wSPools, wKs]; grind
  | p :: ps, R, h => by
    have h1 := wSPools_get g k i hi ps (wSlope p.2 (wTot g p.1) (wTot k p.1) R) (by rw [wSlope_len]; exact fun q hq => h q (by simp [hq]))
    rw [wSPools, h1, wSlope_get i hi _ _ _ _ (h p (by simp)), wKs]
    grind
theorem wKs_nn {cs : List GClaim} {g k : List Rat} (hg : rNN g) (hk : rNN k) (i : Int) : ∀ ps : List WPool, (∀ p ∈ ps, pLad cs p) → 0 ≤ wKs g k i ps
  | [], _ => by simp [wKs]
  | p :: ps, h => by
    have h1 := wKs_nn hg hk i ps fun q hq => h q (by simp [hq])
    have h2 := wSlpA_nn i p.2 (wTot g p.1) (wTot k p.1) (wTot_nn hg p.1) (wTot_nn hk p.1) (h p (by simp)).nn
    rw [wKs]; grind
theorem wKs_out {cs : List GClaim} (g k : List Rat) (i : Nat) : ∀ ps : List WPool, (∀ p ∈ ps, pLad cs p) → ¬ inPs i ps → wKs g k i ps = 0
  | [], _, _ => rfl
  | p :: ps, h, hn => by
    have hp := h p (by simp)
    rw [wKs, wKs_out g k i ps (fun q hq => h q (by simp [hq])) fun ⟨q, hq, hi⟩ => hn ⟨q, by simp [hq], hi⟩,
      wSlpA_none _ _ _ _ fun t ht => wAt_none _ t fun x hx e => ?_]
    · grind
    rcases hp.rin t ht x hx with h1 | h1
    · omega
    exact hn ⟨p, by simp, by rw [← e]; exact h1⟩
theorem slo_at {e : GEst} {m : Rat} (h : eOK e) (i : Nat) : (¬ inPs i (wLay e).pools → (wSlo (wLay e) m).cl.getD i 0 = (wRates (wLay e) m).getD i 0) ∧ (inPs i (wLay e).pools → (wSlo (wLay e) m).cl.getD i 0 = wKs (wGross (wLay e) m) (wRates (wLay e) m) i (wLay e).pools) := by
  have hl := lay_ok h
  have h1 := wSPools_get (wGross (wLay e) m) (wRates (wLay e) m) (i : Int) (.inr (by omega)) (wLay e).pools ⟨wTake (wLay e).pools (wRates (wLay e) m), 0⟩ fun p hp => pLad_in (hl p hp) (by rw [wTake_len, rates_len])
  have h2 := wTake_get (wLay e).pools (wRates (wLay e) m) i fun p hp j hj => ((hl p hp).inn j hj).1
  have h4 : ¬ ((i : Int) = -1) := by omega
  unfold WR.get at h1
  simp only [h4, if_false, Int.toNat_natCast] at h1
  unfold wSlo
  refine ⟨fun hn => ?_, fun hn => ?_⟩
  · rw [h1, h2.1 hn, wKs_out _ _ i _ hl hn]; grind
  rw [h1, h2.2 hn]; grind
theorem slo_rv {e : GEst} {m : Rat} (h : eOK e) : (wSlo (wLay e) m).rv = wKs (wGross (wLay e) m) (wRates (wLay e) m) (-1) (wLay e).pools := by
  have hl := lay_ok h
  have h1 := wSPools_get (wGross (wLay e) m) (wRates (wLay e) m) (-1) (.inl rfl) (wLay e).pools ⟨wTake (wLay e).pools (wRates (wLay e) m), 0⟩ fun p hp => pLad_in (hl p hp) (by rw [wTake_len, rates_len])
  unfold WR.get at h1
  simp only [if_true] at h1
  unfold wSlo
  rw [h1]; grind
theorem slo_nn {e : GEst} {m : Rat} (h : eOK e) (hm : 0 ≤ m) : rNN (wSlo (wLay e) m).cl ∧ 0 ≤ (wSlo (wLay e) m).rv := by
  have hg := gross_nn h.cl hm
  have hk := rates_nn h.cl hm
  refine ⟨nn_getD fun i => ?_, by rw [slo_rv h]; exact wKs_nn hg hk _ _ (lay_ok h)⟩
  obtain ⟨h1, h2⟩ := slo_at (m := m) h i
  by_cases hp : inPs i (wLay e).pools
  · rw [h2 hp]; exact wKs_nn hg hk _ _ (lay_ok h)
  rw [h1 hp]; exact getD_nn hk i
theorem wTot_full {g a k : List Rat} (h : ∀ i : Nat, g.getD i 0 ≤ a.getD i 0) (hk : ∀ i : Nat, g.getD i 0 = a.getD i 0 → k.getD i 0 = 0) : ∀ M : List Int, wTot a M ≤ wTot g M → wTot k M = 0
  | [], _ => rfl
  | i :: M, hM => by
    have h1 := h i.toNat
    have h2 := wTot_le h M
    rw [wTot, wTot] at hM
    rw [wTot, hk i.toNat (by grind), wTot_full h hk M (by grind)]
    grind
theorem wAts_rk {cs : List GClaim} (h : ∀ c ∈ cs, 0 ≤ c.rank ∧ c.rank ≤ 7) (i : Nat) : wAts (i : Int) (wRanks cs) = (cs.map fun c => qOf c.amount).getD i 0 := by
  have hR : ∀ (n s : Nat), wAts (i : Int) ((List.range' s n).map fun r : Nat => wRk (r : Int) cs 0) = if i < cs.length ∧ (s : Int) ≤ (cs.getD i (⟨0, 0, gZ⟩ : GClaim)).rank ∧ (cs.getD i (⟨0, 0, gZ⟩ : GClaim)).rank < ((s + n : Nat) : Int) then (cs.map fun c => qOf c.amount).getD i 0 else 0 := by
    intro n
    induction n with
    | zero =>
      intro s
      rw [if_neg (by omega)]; rfl
    | succ n ih =>
      intro s
      rw [List.range'_succ, List.map_cons, wAts, ih (s + 1)]
      by_cases hi : i < cs.length
      · have h1 := wRk_at (s : Int) cs 0 i hi
        rw [Nat.zero_add] at h1
        have h2 : cs.getD i (⟨0, 0, gZ⟩ : GClaim) = cs[i] := by rw [List.getD_eq_getElem?_getD, List.getElem?_eq_getElem hi]; rfl
        rw [h1, h2, am_getD cs i hi]
        by_cases h3 : cs[i].rank = (s : Int)
        · rw [if_pos h3, if_neg (by omega), if_pos (by omega)]; grind
        rw [if_neg h3]
        by_cases h4 : ((s + 1 : Nat) : Int) ≤ cs[i].rank ∧ cs[i].rank < ((s + 1 + n : Nat) : Int)
        · rw [if_pos ⟨hi, h4⟩, if_pos (by omega)]; grind
        rw [if_neg (fun h => h4 h.2), if_neg (by omega)]; grind
      rw [if_neg (fun h => hi h.1), if_neg (fun h => hi h.1)]
      have h1 : ∀ p ∈ wRk (s : Int) cs 0, p.1 ≠ (i : Int) := fun p hp => by
        have := wRk_in (s : Int) cs 0 p hp
        omega
      rw [wAt_none _ _ h1]; grind
  unfold wRanks
  rw [List.range_eq_range', hR 8 0]
  by_cases hi : i < cs.length
  · have h2 : cs.getD i (⟨0, 0, gZ⟩ : GClaim) = cs[i] := by rw [List.getD_eq_getElem?_getD, List.getElem?_eq_getElem hi]; rfl
    have := h _ (List.getElem_mem hi)
    rw [h2, if_pos ⟨hi, by omega⟩]
  rw [if_neg (fun h => hi h.1), getD_out (by simpa using Nat.le_of_not_lt hi)]
theorem rate_full {e : GEst} {m : Rat} (h : eOK e) (hm : 0 ≤ m) {p : WPool} (hp : p ∈ (wLay e).pools) (hc : ¬ wTot (wGross (wLay e) m) p.1 < wCap p.2) : wTot (wRates (wLay e) m) p.1 = 0 := by
  have hlad := lay_ok h p hp
  refine wTot_full (fun i => (gross_bounds h.cl hm i).2) (fun i hi => ?_) p.1 ?_
  · rw [gross_get, ← wAts_rk h.cl.rk i] at hi
    rw [rates_get]
    exact wSlpA_full _ _ _ _ hm (wRanks_nn h.cl.am) hi
  have hM : (-1 : Int) ∉ p.1 := fun hm => by have := hlad.inn _ hm; omega
  rw [wCap_parts hlad.nd hM p.2 hlad.rin, wAtsM_tot hlad p.1 fun _ h => h] at hc
  have h2 := wAts_nn (-1) p.2 hlad.nn
  grind
theorem wSPools_all {e : GEst} {m : Rat} (h : eOK e) (hm : 0 ≤ m) : ∀ (ps : List WPool) (R : WR), (∀ p ∈ ps, p ∈ (wLay e).pools) → R.cl.length = e.claims.length → (wSPools (wGross (wLay e) m) (wRates (wLay e) m) ps R).all = R.all + wTots (wRates (wLay e) m) ps
  | [], R, _, _ => by simp only [wSPools, wTots]; grind
  | p :: ps, R, hps, hl => by
    have hp := lay_ok h p (hps p (by simp))
    have h1 := wSPools_all h hm ps (wSlope p.2 (wTot (wGross (wLay e) m) p.1) (wTot (wRates (wLay e) m) p.1) R) (fun q hq => hps q (by simp [hq])) (by rw [wSlope_len]; exact hl)
    have h2 := wSlope_all p.2 (wTot (wGross (wLay e) m) p.1) (wTot (wRates (wLay e) m) p.1) R (wTot_nn (gross_nn h.cl hm) p.1) hp.nn (pLad_in hp hl)
    have h3 := rate_full h hm (hps p (by simp))
    rw [wSPools, h1, h2, wTots]
    split
    · grind
    rw [h3 ‹_›]; grind
theorem slo_sum {e : GEst} {m : Rat} (h : eOK e) (hm : 0 ≤ m) : rSum (wSlo (wLay e) m).cl + (wSlo (wLay e) m).rv = if m < wTotal e.claims then 1 else 0 := by
  have hl := lay_ok h
  have h1 := wSPools_all h hm (wLay e).pools ⟨wTake (wLay e).pools (wRates (wLay e) m), 0⟩ (fun _ h => h) (by rw [wTake_len, rates_len])
  have h2 := wTake_sum (wLay e).pools (wRates (wLay e) m) hl h.ds (rates_len _ _)
  unfold WR.all at h1
  simp only [h2, rates_sum h.cl hm] at h1
  unfold wSlo
  rw [h1]; grind
end Go.Proofs.YtmbahnmhicdjfaaGreatDoor
end
section
/- Plain: the next kink of what an estate pays. No walk. -/
namespace Go.Proofs.YtmbahnmhicdjfaaGreatDoor
open Go Go.RowKit
theorem div_pos {a b : Rat} (ha : 0 < a) (hb : 0 < b) : 0 < a / b := by
  rw [Rat.div_def]
  exact Rat.mul_pos ha (Rat.inv_pos.2 hb)
def linUp (e : GEst) (m d : Rat) : Prop := ∀ h, 0 ≤ h → h ≤ d → (∀ i : Nat, (wDel (wLay e) (m + h)).cl.getD i 0 = (wDel (wLay e) m).cl.getD i 0 + h * (wSlo (wLay e) m).cl.getD i 0) ∧ (wDel (wLay e) (m + h)).rv = (wDel (wLay e) m).rv + h * (wSlo (wLay e) m).rv
structure kinkOf (e : GEst) (m y : Rat) : Prop where
  gt : m < y
  le : y ≤ wTotal e.claims
  ne : ¬ ((wSlo (wLay e) y).rv = (wSlo (wLay e) m).rv ∧ (wSlo (wLay e) y).cl = (wSlo (wLay e) m).cl)
  mu : wMu (wLay e) y < wMu (wLay e) m
  lin : linUp e m (y - m)
end Go.Proofs.YtmbahnmhicdjfaaGreatDoor
end
section
/- Plain: the sizes of slopes and kinks. No walk. -/
namespace Go.Proofs.YtmbahnmhicdjfaaGreatDoor
open Go Go.RowKit
theorem wSlope_B {K S A n : Nat} {l : List WT} (h : wOK K S l) (m : Rat) {r : Rat} (hr : qB A r) {R : WR} (hR : R.B n) : (wSlope l m r R).B (n + wN l * (K + (A + S) + 1)) := by
  unfold wSlope wShare
  split
  · rename_i hk
    have hN := wN_at l _ hk
    have hgd : l.getD (wSplit l m).1 [] = l[(wSplit l m).1] := by rw [List.getD_eq_getElem?_getD, List.getElem?_eq_getElem hk]; rfl
    have hmem : l.getD (wSplit l m).1 [] ∈ l := by rw [hgd]; exact List.getElem_mem hk
    rw [← hgd] at hN
    have h5 := h.2 _ hmem
    generalize l.getD (wSplit l m).1 [] = t at *
    have h6 := wPut_B (z := K + (A + S)) (r / wSum t) t _ _ hR fun p hp => ((h5.2.2 p hp).mul (hr.div h5.2.1))
    have h7 : t.length * (K + (A + S) + 1) ≤ wN l * (K + (A + S) + 1) := Nat.mul_le_mul_right _ (by omega)
    exact h6.mono (by omega)
  exact hR.mono (by omega)
theorem wRates_B0 {L : WL} {K S : Nat} (h : wOK K S L.ranks) (m : Rat) : ∀ x ∈ wRates L m, qB (1 + wN L.ranks * (K + (1 + S) + 1)) x :=
  (wSlope_B h m qB_one (zeros_B L.count)).1
theorem wRates_B {L : WL} {K Sm M Z G K2 S2 Z2 : Nat} (h : delB L K Sm M Z G K2 S2 Z2) (hM : 0 < M) (m : Rat) : ∀ x ∈ wRates L m, qB G x := fun x hx => by
  refine (wRates_B0 h.rk m x hx).mono ?_
  have h2 := h.g
  have h3 := h.z
  have h4 : wN L.ranks * (K + (1 + Sm) + 1) ≤ wN L.ranks * (Z + 1) := Nat.mul_le_mul_left _ (by omega)
  omega
end Go.Proofs.YtmbahnmhicdjfaaGreatDoor
end
section
/- The waterfall: the slopes of ladders, the next tier, the slopes of the ranks; walked by the abstract machine. -/
namespace Go.Proofs.YtmbahnmhicdjfaaGreatDoor
open Go Go.RowKit
def F_wSl := And.intro zS (And.intro tf103 (And.intro tf104 (And.intro tf18 (And.intro tf105 (tf87)))))
set_option maxRecDepth 100000 in
set_option maxHeartbeats 4000000 in
theorem slope_I (H : Hp) (ny s sc nn : Nat) (R0 : WR) (l : List WT) (m r : Rat) (K Sm M A C Z : Nat) (h50 : H 50 = some ⟨s, 201, 4, 1, .own 48 sc nn 3 :: cRat (enc R0.rv)⟩) (h48 : H 48 = some ⟨sc, 32, 3, nn, flat cQ R0.cl⟩) (hR0 : R0.cl.length = nn) (hbH : ∀ y B, H y = some B → y < 7000) (hn : nn ≤ 1000000) (hl : wOK K Sm l) (hin : ∀ t ∈ l, wIn nn t) (hM : qB M m) (hMb : M + l.length * (Sm + 1) ≤ 50000000000) (hr : qB A r) (hC : R0.B C) (hZ : K + (A + Sm) ≤ Z) (hB : C + wN l * (Z + 1) ≤ 50000000000) (hZb : Z ≤ 40000000000) : ACallI Tryz.prog 150 [.one (.sh 4 l.length (flat cWT l)), .agg (cRat (enc m)), .agg (cRat (enc r)), .one (.ptr 50 s 0)] H ny
  (fun res H' _ => res = .tup [] ∧ ∀ y B', mkOn H [(50, ⟨s, 201, 4, 1, .own 48 sc nn 3 :: cRat (enc (wSlope l m r R0).rv)⟩), (48, ⟨sc, 32, 3, nn, flat cQ (wSlope l m r R0).cl⟩)] y = some B' → H' y = some B') := by
 have hfl := wSplit_le l m
 have hll := hl.1
 refine acallI_of 7000 Tryz.func150 rfl (by decide) (N := 27) rfl (by simp) (Rl := []) rfl fun en k0 => ?_
 refine awR [] [none, none] ?_
 simp only [(id F_wSl), seval, cRat, h50, h48]
 repeat refine ob ?_
 have hA := split_A l m K Sm M hl hM (by omega) (by omega)
 simp only [spR, cRat] at hA
 refine awR [] [none, none, none, none, none, none, none, none, none] ?_
 simp only [(id F_wSl), seval, cRat, h50, h48, flat_pure cWT_pure]
 repeat refine ob ?_
 refine ⟨_, hA, (by first | rfl | simp [allA, pure1, pureCs, pureC, A1.cells, flat_pure cWT_pure]), ?_⟩
 try unfold Later
 try simp only [(id F_wSl), seval, cRat, h50, h48, flat_pure cWT_pure]
 repeat refine ob ?_
 by_cases hk : ((wSplit l m).1 : Int) < (l.length : Int)
 ·
  refine awR [] [none, none, none, none] ?_
  simp only [(id F_wSl), seval, cRat, h50, h48, hk]
  repeat refine ob ?_
  refine awT ?_
  have hkl : (wSplit l m).1 < l.length := by omega
  have hat := flat_at cWT_len l (wSplit l m).1 hkl
  obtain ⟨t, ht⟩ : ∃ t, l[(wSplit l m).1] = t := ⟨_, rfl⟩
  rw [ht] at hat
  have htm : t ∈ l := ht ▸ List.getElem_mem hkl
  have hgt : l.getD (wSplit l m).1 [] = t := by rw [List.getD_eq_getElem?_getD, List.getElem?_eq_getElem hkl, ht]; rfl
  have hsz := hl.2 t htm
  have hwl : t.length ≤ wN l := by have h8 := wN_at l _ hkl; rw [ht] at h8; omega
  have hm2 : t.length * (Z + 1) ≤ wN l * (Z + 1) := Nat.mul_le_mul_right _ hwl
  have hfw := hfl
  repeat' first|apply awS|apply awB
  refine awp_drawsI [26] (by kernel_rfl) (.cons 0 true (.cons 1 true (.cons 2 true (.cons 3 true (.cons 4 true (.cons 5 true (.cons 6 false .nil))))))) (by kernel_rfl) (gs := [none, none, none, none, none, none, none]) (by kernel_rfl) (by simp only [(id zS), seval]; rfl) (by decide) ?_
  simp only [(id F_wSl), seval, cRat, h50, h48, hk, hat, cWT, (id SD)]
  repeat refine ob ?_
  refine ⟨_, share_I _ _ s sc nn R0 t r K A Sm C Z (by simp only [up_apply]; (repeat rw [if_neg (by decide)]); exact h50) (by simp only [up_apply]; (repeat rw [if_neg (by decide)]); exact h48) hR0 (fun y B h => ?_) (by omega) hsz.1 (hin _ htm) hr hsz.2.1 hsz.2.2 hC (by omega) (by omega) (by omega), ?_⟩
  ·
   simp only [up_apply] at h
   repeat (split at h; · omega)
   have h9 := hbH y B h
   omega
  rintro res H' nx' ⟨rfl, hW⟩
  simp only [(id F_wSl), seval, (id SD)]
  repeat refine ob ?_
  try refine ⟨rfl, ?_⟩
  intro y B h
  have hpay : wSlope l m r R0 = wPut (r / wSum t) t R0 := by unfold wSlope wShare; rw [if_pos hkl, hgt]
  rw [hpay] at h
  refine hW y B ?_
  try simp only [mkOn, up_apply] at h ⊢
  by_cases hy : y = 50
  ·
   subst hy
   first | exact h | (simpa [h50, cRat] using h)
  simp only [hy, if_false] at h ⊢
  by_cases hy2 : y = 48
  ·
   subst hy2
   first | exact h | (simpa [h48] using h)
  simp only [hy2, if_false] at h ⊢
  have h9 := hbH y B h
  repeat rw [if_neg (by omega)]
  exact h
 refine awR [] [none, none, none, none] ?_
 simp only [(id F_wSl), seval, cRat, h50, h48, hk]
 repeat refine ob ?_
 refine awF ?_
 refine awK ?_
 simp only [(id F_wSl), seval]
 try refine ⟨rfl, ?_⟩
 intro y B h
 have hpay : wSlope l m r R0 = R0 := by unfold wSlope wShare; rw [if_neg (by omega)]
 rw [hpay] at h
 try simp only [mkOn, up_apply] at h ⊢
 by_cases hy : y = 50
 ·
  subst hy
  first | exact h | (simpa [h50, cRat] using h)
 simp only [hy, if_false] at h ⊢
 by_cases hy2 : y = 48
 ·
  subst hy2
  first | exact h | (simpa [h48] using h)
 simp only [hy2, if_false] at h ⊢
 have h9 := hbH y B h
 repeat rw [if_neg (by omega)]
 exact h
def F_wRa := And.intro zS (And.intro tf99 (And.intro tf126 (And.intro tf119 (And.intro tf100 (And.intro tf102 (And.intro tf18 (And.intro tf12 (And.intro tf114 (And.intro tf127 (And.intro tf87 (tf128)))))))))))
set_option maxRecDepth 100000 in
set_option maxHeartbeats 4000000 in
theorem rates_A (L : WL) (m : Rat) (K Sm M Z : Nat) (hn : L.count ≤ 1000000) (hl : wOK K Sm L.ranks) (hin : ∀ t ∈ L.ranks, wIn L.count t) (hM : qB M m) (hMb : M + L.ranks.length * (Sm + 1) ≤ 50000000000) (hZ : K + (1 + Sm) ≤ Z) (hB : 1 + wN L.ranks * (Z + 1) ≤ 50000000000) (hZb : Z ≤ 40000000000) : ACall Tryz.prog 149 [.agg (cLay L), .agg (cRat (enc m))] (.val (.one (.sh 3 L.count (flat cQ (wRates L m))))) := by
 refine acall_of Tryz.func149 rfl (by decide) (N := 21) rfl (by simp) (R := [.tmp 4]) rfl fun en k0 => ?_
 refine awR [] [none, none, none] ?_
 simp only [(id F_wRa), seval, cRat, cLay]
 repeat refine ob ?_
 refine awp_nb 40 ?_
 dsimp only
 refine awR [] [none, none, none, none, none, none] ?_
 simp only [(id F_wRa), seval, cRat, cLay, repl_cQ]
 repeat refine ob ?_
 refine awp_wk (wk_cells 50 (.own 48 2 L.count 3 :: cRat (enc 0)) (by rfl) (by show (4 : Nat) ≠ 0; decide) (by rfl) (fun κ vs h => res_start _ h)) ?_
 simp only [(id F_wRa), seval]
 have h1 := aInt 1 (by decide) (by decide)
 rw [show (((1 : Int) : Rat)) = 1 by rfl] at h1
 simp only [cRat] at h1
 repeat' first|apply awS|apply awB
 refine awp_drawsI [16] (by kernel_rfl) (.cons 0 true (.cons 1 true (.cons 2 true (.cons 4 true (.cons 3 false (.cons 5 false .nil)))))) (by kernel_rfl) (gs := [none, none, none, none, none, none]) (by kernel_rfl) (by simp only [(id zS), seval]; rfl) (by decide) ?_
 simp only [(id F_wRa), seval, cRat, cLay, flat_pure cWT_pure, (id SD)]
 repeat refine ob ?_
 refine ⟨_, h1, rfl, ?_⟩
 try unfold Later
 try simp only [(id F_wRa), seval, cRat, cLay, flat_pure cWT_pure]
 repeat refine ob ?_
 refine ⟨_, slope_I _ _ 3 2 L.count ⟨List.replicate L.count 0, 0⟩ L.ranks m 1 K Sm M 1 1 Z (by rfl) (by rfl) (by simp) (fun y B h => ?_) hn hl hin hM hMb qB_one (zeros_B _) (by omega) hB hZb, ?_⟩
 ·
  simp only [up_apply] at h
  repeat (split at h; · omega)
  cases h
 rintro res H' nx' ⟨rfl, hW⟩
 simp only [(id F_wRa), seval, (id SD)]
 repeat refine ob ?_
 refine awp_weak hW ?_
 simp only [(id F_wRa), seval]
 refine awp_pubc 48 50 0 (by rfl) (by rfl) (by rfl) (by decide) (by show (3 : Nat) ≠ 0; decide) (by show (4 : Nat) ≠ 0; decide) rfl ?_
 simp only [(id F_wRa), seval]
 refine awR [] [none, none, none, none, none] ?_
 simp only [(id F_wRa), seval, cRat, flat_pure cQ_pure]
 repeat refine ob ?_
 refine awX ?_
 (first | (simp only [(id F_wRa), seval, cRat, flat_pure cQ_pure, wRates]; done) | (simp only [(id F_wRa), seval, cRat]; first | (simp [flat_pure cQ_pure, wRates]; done)))
end Go.Proofs.YtmbahnmhicdjfaaGreatDoor
end
