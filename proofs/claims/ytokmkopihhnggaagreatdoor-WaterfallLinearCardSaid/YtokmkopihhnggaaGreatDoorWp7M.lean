/- Plain: what the check of an estate says; the sizes of the numbers while it is paid out. No walk. -/
import Derived.Test.YtokmkopihhnggaaGreatDoorWp4M
import Derived.Test.YtokmkopihhnggaaGreatDoorWl6M
set_option linter.unusedVariables false
set_option linter.unusedSimpArgs false
set_option linter.defProp false
set_option linter.unusedSectionVars false
namespace Go.Proofs.YtokmkopihhnggaaGreatDoor
open Go Go.RowKit
theorem qSgn_nn {q : Rat} (h : ¬ qSgn q < 0) : 0 ≤ q := by
 unfold qSgn at h
 rw [qCmp_neg_iff] at h
 grind
theorem wcCl_ok : ∀ {l : List GClaim}, wcClaims l = 0 → ∀ c ∈ l, 0 ≤ c.rank ∧ c.rank ≤ 7 ∧ 0 ≤ qOf c.amount
 | d :: l, h, c, hc => by
  simp only [wcClaims] at h
  split at h
  ·cases h
  split at h
  ·cases h
  split at h
  ·cases h
  rename_i h1 h2
  rcases List.mem_cons.1 hc with rfl | hc
  ·exact ⟨by omega, by omega, qSgn_nn h2⟩
  exact wcCl_ok h c hc
theorem caL_ok {tk : List Bool} : ∀ {l : List GPart}, caLoop tk l = 0 → ∀ p ∈ l, pOK tk.length p ∧ (p.claim ≠ -1 → tk.getD p.claim.toNat false = false)
  | q :: l, h, p, hp => by
    simp only [caLoop] at h
    split at h
    · cases h
    rename_i h1
    split at h
    · cases h
    rename_i h2
    split at h
    · cases h
    rename_i h3
    split at h
    · cases h
    rename_i h4
    rcases List.mem_cons.1 hp with rfl | hp
    · refine ⟨⟨?_, fun h5 => ?_⟩, fun h5 => ?_⟩
      · by_cases h6 : p.claim = -1
        · exact .inl h6
        have h7 := fun h => h1 ⟨h6, h⟩
        exact .inr ⟨by omega, by omega⟩
      · have hc : p.capped = true := by
          rcases h5 with h5 | h5
          · cases hx : p.capped with
            | true => rfl
            | false => exact absurd ⟨h5, hx⟩ h2
          exact h5
        exact qSgn_nn fun h => h3 ⟨hc, h⟩
      cases hx : tk.getD p.claim.toNat false with
      | false => rfl
      | true => exact absurd ⟨h5, hx⟩ h4
    exact caL_ok h p hp
theorem caS_ok {a : GAgr} {tk : List Bool} (h : caSpec a tk = 0) : a.length ≤ 24 ∧ (∀ t ∈ a, t.length ≤ 24) ∧ a.flatten.length ≤ 576 ∧ (∀ p ∈ a.flatten, pOK tk.length p ∧ (p.claim ≠ -1 → tk.getD p.claim.toNat false = false)) := by
 have h0 := caSpec_ok h
 unfold caSpec at h
 split at h
 ·cases h
 rename_i h1
 refine ⟨h0.1, fun t ht => ?_, h0.2.1, caL_ok h⟩
 have h2 : ¬ a.any longT = true := fun h => h1 (.inr h)
 have h3 : longT t ≠ true := fun h => h2 (List.any_eq_true.2 ⟨t, ht, h⟩)
 unfold longT at h3
 simp only [ne_eq, decide_eq_true_eq] at h3
 omega
theorem mark_keep : ∀ (l : List Int) (tk : List Bool) (i : Nat), tk.getD i false = true → (mark tk l).getD i false = true
 | [], _, _, h => h
 | j :: l, tk, i, h => by
  rw [mark]
  refine mark_keep l _ i ?_
  by_cases hj : j.toNat = i
  ·subst hj
   have hi : j.toNat < tk.length := by
    apply Classical.byContradiction
    intro hn
    rw [List.getD_eq_getElem?_getD, List.getElem?_eq_none (by omega)] at h
    cases h
   rw [List.getD_eq_getElem?_getD, List.getElem?_set_self hi]; rfl
  rw [List.getD_eq_getElem?_getD, List.getElem?_set_ne hj, ← List.getD_eq_getElem?_getD]; exact h
theorem mark_in : ∀ (l : List Int) (tk : List Bool) (i : Int), i ∈ l → i.toNat < tk.length → (mark tk l).getD i.toNat false = true
 | j :: l, tk, i, h, hi => by
  rw [mark]
  by_cases hj : i = j
  ·subst hj
   refine mark_keep l _ _ ?_
   rw [List.getD_eq_getElem?_getD, List.getElem?_set_self hi]; rfl
  refine mark_in l _ i ?_ (by rw [List.length_set]; exact hi)
  rcases List.mem_cons.1 h with h | h
  ·exact absurd h hj
  exact h
theorem wcAg_ok : ∀ {l : List GAgr} {tk : List Bool}, wcAgrs tk l = 0 → (∀ a ∈ l, a.length ≤ 24 ∧ (∀ t ∈ a, t.length ≤ 24) ∧ a.flatten.length ≤ 576 ∧ aOK tk.length a ∧ ∀ i ∈ mem a, tk.getD i.toNat false = false) ∧ l.Pairwise fun a b => ∀ i ∈ mem a, i ∉ mem b
 | [], tk, _ => ⟨by simp, .nil⟩
 | a :: l, tk, h => by
  simp only [wcAgrs] at h
  split at h
  ·rename_i h1; exact absurd h h1
  rename_i h1
  have h1' : caSpec a tk = 0 := Classical.not_not.1 h1
  obtain ⟨g1, g2, g3, g4⟩ := caS_ok h1'
  obtain ⟨k1, k2⟩ := wcAg_ok h
  have hmem : ∀ i ∈ mem a, tk.getD i.toNat false = false ∧ i.toNat < tk.length := fun i hi => by
   obtain ⟨p, p1, p2, p3⟩ := mem_ids (mem_mem hi)
   obtain ⟨q1, q2⟩ := g4 p p1
   rw [← p2]
   refine ⟨q2 p3, ?_⟩
   rcases q1.1 with h | h
   ·exact absurd h p3
   omega
  rw [mark_length] at k1
  refine ⟨fun b hb => ?_, List.pairwise_cons.2 ⟨fun b hb i hi hib => ?_, k2⟩⟩
  ·rcases List.mem_cons.1 hb with rfl | hb
   ·exact ⟨g1, g2, g3, fun t ht x hx => (g4 x (List.mem_flatten.2 ⟨t, ht, hx⟩)).1, fun i hi => (hmem i hi).1⟩
   obtain ⟨j1, j2, j3, j4, j5⟩ := k1 b hb
   refine ⟨j1, j2, j3, j4, fun i hi => ?_⟩
   cases hx : tk.getD i.toNat false with
   | false => rfl
   | true =>
    have h8 := mark_keep (mem a) tk _ hx
    rw [j5 i hi] at h8
    cases h8
  have h8 := mark_in (mem a) tk i hi (hmem i hi).2
  rw [(k1 b hb).2.2.2.2 i hib] at h8
  cases h8
theorem nodup_lt : ∀ (n : Nat) (M : List Int), M.Nodup → (∀ i ∈ M, 0 ≤ i ∧ i < (n : Int)) → M.length ≤ n
 | 0, M, _, h => by
  cases M with
  | nil => simp
  | cons i M => have := h i (by simp); omega
 | n + 1, M, hn, h => by
  have h1 := nodup_lt n (M.erase (n : Int)) (hn.erase _) fun i hi => by
   have h2 := (List.Nodup.mem_erase_iff hn).1 hi
   have h3 := h i h2.2
   omega
  have h4 : M.length ≤ (M.erase (n : Int)).length + 1 := by
   rw [List.length_erase]
   split <;> omega
  omega
structure wcOK (e : GEst) : Prop where
 n : e.claims.length ≤ 24
 an : e.agrs.length ≤ 12
 cl : wEst e.claims
 ag : ∀ a ∈ e.agrs, a.length ≤ 24 ∧ (∀ t ∈ a, t.length ≤ 24) ∧ a.flatten.length ≤ 576 ∧ aOK e.claims.length a
 mi : ∀ a ∈ e.agrs, (∀ i ∈ mem a, 0 ≤ i ∧ i < (e.claims.length : Int)) ∧ (mem a).length ≤ e.claims.length
 ds : pDis (wLay e).pools
theorem wc_ok {e : GEst} (h : wcSpec e = 0) : wcOK e := by
 unfold wcSpec at h
 split at h
 ·cases h
 rename_i h1
 split at h
 ·cases h
 split at h
 ·rename_i h3; exact absurd h h3
 rename_i h3
 have hc := wcCl_ok (Classical.not_not.1 h3)
 obtain ⟨g1, g2⟩ := wcAg_ok h
 rw [List.length_replicate] at g1
 have hm : ∀ a ∈ e.agrs, ∀ i ∈ mem a, 0 ≤ i ∧ i < (e.claims.length : Int) := fun a ha i hi => by
  obtain ⟨p, p1, p2, p3⟩ := mem_ids (mem_mem hi)
  obtain ⟨t, ht, hp⟩ := List.mem_flatten.1 p1
  rcases ((g1 a ha).2.2.2.1 t ht p hp).1 with h | h
  ·exact absurd h p3
  rw [← p2]; exact h
 refine ⟨by omega, by omega, ⟨fun c hcm => (hc c hcm).2.2, fun c hcm => ⟨(hc c hcm).1, (hc c hcm).2.1⟩⟩, fun a ha => ⟨(g1 a ha).1, (g1 a ha).2.1, (g1 a ha).2.2.1, (g1 a ha).2.2.2.1⟩, fun a ha => ⟨hm a ha, nodup_lt _ _ (mem_nodup a) (hm a ha)⟩, ?_⟩
 show (e.agrs.map (wPool e.claims)).Pairwise _
 rw [List.pairwise_map]
 exact g2
theorem wcOK.eOK {e : GEst} (h : wcOK e) : eOK e := ⟨h.cl, fun a ha => (h.ag a ha).2.2.2, h.ds⟩
theorem pN_flat : ∀ a : List (List GPart), pN a = a.flatten.length
 | [] => rfl
 | t :: a => by rw [pN, pN_flat a, List.flatten_cons, List.length_append]
theorem wTier_len : ∀ (t : List GPart) (rest : List Rat), (wTier t rest).2.length = t.length
 | [], _ => rfl
 | x :: t, rest => by simp only [wTier, List.length_cons, wTier_len t]
theorem wTiers_len : ∀ (a : List (List GPart)) (rest : List Rat), (wTiers a rest).2.length = a.length ∧ wN (wTiers a rest).2 = pN a
 | [], _ => ⟨rfl, rfl⟩
 | t :: a, rest => by
  obtain ⟨h1, h2⟩ := wTiers_len a (wTier t rest).1
  simp only [wTiers, List.length_cons, wN, pN, h1, h2, wTier_len, and_self]
theorem wN_rk (c : GClaim) (l : List GClaim) (i : Nat) : ∀ (n s : Nat), wN ((List.range' s n).map fun r : Nat => wRk (r : Int) (c :: l) i) ≤ wN ((List.range' s n).map fun r : Nat => wRk (r : Int) l (i + 1)) + if (s : Int) ≤ c.rank then 1 else 0
 | 0, s => by simp [wN]
 | n + 1, s => by
  have ih := wN_rk c l i n (s + 1)
  rw [List.range'_succ, List.map_cons, List.map_cons, wN, wN]
  simp only [wRk] at ih ⊢
  by_cases h1 : c.rank = (s : Int)
  ·rw [if_pos h1]
   have h2 : ¬ ((s + 1 : Nat) : Int) ≤ c.rank := by omega
   rw [if_neg h2] at ih
   rw [if_pos (by omega)]
   simp only [List.length_cons]
   omega
  rw [if_neg h1]
  by_cases h2 : ((s + 1 : Nat) : Int) ≤ c.rank
  ·rw [if_pos h2] at ih
   rw [if_pos (by omega)]
   omega
  rw [if_neg h2] at ih
  split <;> omega
theorem wN_nil : ∀ (n s i : Nat), wN ((List.range' s n).map fun r : Nat => wRk (r : Int) [] i) = 0
 | 0, _, _ => rfl
 | n + 1, s, i => by rw [List.range'_succ, List.map_cons, wN, wN_nil n (s + 1) i]; rfl
theorem wN_ranks : ∀ (cs : List GClaim) (i : Nat), wN ((List.range' 0 8).map fun r : Nat => wRk (r : Int) cs i) ≤ cs.length
 | [], i => by rw [wN_nil]; exact Nat.zero_le _
 | c :: cs, i => by
  have h1 := wN_rk c cs i 8 0
  have h2 := wN_ranks cs (i + 1)
  have h3 : (if ((0 : Nat) : Int) ≤ c.rank then 1 else 0) ≤ 1 := by split <;> omega
  rw [List.length_cons]
  omega
theorem wRanks_N (cs : List GClaim) : wN (wRanks cs) ≤ cs.length := by
 unfold wRanks
 rw [List.range_eq_range']
 exact wN_ranks cs 0
theorem wTier_B {n K Km : Nat} (hK0 : 0 < K) : ∀ (t : List GPart) (rest : List Rat) (B : Nat), (∀ y ∈ rest, qB B y) → K ≤ B → B + t.length * (K + 1) ≤ Km → (∀ x ∈ t, sB K x.cap) →
  (∀ y ∈ (wTier t rest).1, qB (B + t.length * (K + 1)) y) ∧ ∀ p ∈ (wTier t rest).2, qB Km p.2
 | [], rest, B, h, _, _, _ => ⟨by simpa [wTier] using h, by simp [wTier]⟩
 | x :: t, rest, B, h, hK, hm, hx => by
  simp only [List.length_cons, Nat.succ_mul] at hm ⊢
  obtain ⟨h1, h2⟩ := wPart_B h ((hx x (by simp)).qB hK0) hK (by omega)
  obtain ⟨h3, h4⟩ := wTier_B (n := n) (Km := Km) hK0 t (wPart rest x).1 (B + (K + 1)) h1 (by omega) (by omega) fun y hy => hx y (by simp [hy])
  refine ⟨fun y hy => (h3 y hy).mono (by omega), fun p hp => ?_⟩
  simp only [wTier] at hp
  rcases List.mem_cons.1 hp with rfl | hp
  ·exact h2.mono (by omega)
  exact h4 p hp
theorem wTiers_B {K Km : Nat} (hK0 : 0 < K) : ∀ (a : List (List GPart)) (rest : List Rat) (B : Nat), (∀ y ∈ rest, qB B y) → K ≤ B → B + pN a * (K + 1) ≤ Km → (∀ t ∈ a, ∀ x ∈ t, sB K x.cap) →
  (∀ y ∈ (wTiers a rest).1, qB Km y) ∧ ∀ t ∈ (wTiers a rest).2, ∀ p ∈ t, qB Km p.2
 | [], rest, B, h, _, hm, _ => ⟨fun y hy => (h y hy).mono (by omega), by simp [wTiers]⟩
 | t :: a, rest, B, h, hK, hm, hx => by
  simp only [pN, Nat.add_mul] at hm
  obtain ⟨h1, h2⟩ := wTier_B (n := 0) (Km := Km) hK0 t rest B h hK (by omega) (hx t (by simp))
  obtain ⟨h3, h4⟩ := wTiers_B (Km := Km) hK0 a (wTier t rest).1 _ h1 (by omega) (by omega) fun u hu => hx u (by simp [hu])
  refine ⟨h3, fun u hu => ?_⟩
  simp only [wTiers] at hu
  rcases List.mem_cons.1 hu with rfl | hu
  ·exact h2
  exact h4 u hu
def estS (K : Nat) (e : GEst) : Prop := sB K e.cash ∧ (∀ c ∈ e.claims, sB K c.amount) ∧ ∀ a ∈ e.agrs, ∀ t ∈ a, ∀ p ∈ t, sB K p.cap
theorem wc_layB {e : GEst} (h : wcOK e) {K : Nat} (hs : estS K e) (hK0 : 0 < K) (hK : K ≤ 10000) : ∀ a ∈ e.agrs, layB e.claims a K (K + 576 * (K + 1)) := fun a ha => by
 obtain ⟨g1, g2, g3, g4⟩ := h.ag a ha
 obtain ⟨m1, m2⟩ := h.mi a ha
 have hn := h.n
 refine ⟨by omega, hs.2.1, by omega, fun t ht => ⟨by have := g2 t ht; omega, fun x hx => ⟨(g4 t ht x hx).1, hs.2.2 a ha t ht x hx⟩⟩, by omega, m1, hK0, ?_, by omega⟩
 have := Nat.mul_le_mul_right (K + 1) (show pN a ≤ 576 by rw [pN_flat]; exact g3)
 omega
def kS (nc K : Nat) : Nat := 1 + nc * (K + 1)
def kZ (nc K M : Nat) : Nat := K + (M + 8 * (kS nc K + 1)) + kS nc K
def kG (nc K M : Nat) : Nat := 1 + nc * (kZ nc K M + 1) + kZ nc K M
def kK (K : Nat) : Nat := K + 576 * (K + 1)
def kT (K : Nat) : Nat := 1 + 24 * (kK K + 1)
def kY (nc K M : Nat) : Nat := kK K + (1 + nc * (kG nc K M + 1) + 25 * (kT K + 1)) + kT K
theorem wc_delB {e : GEst} (h : wcOK e) {K M nc na : Nat} (hs : estS K e) (hK0 : 0 < K) (hnc : e.claims.length ≤ nc) (hnc2 : nc ≤ 24) (hna : e.agrs.length ≤ na)
  (hb : kG nc K M ≤ 40000000 ∧ kY nc K M ≤ 40000000000 ∧ kG nc K M + (na * 600) * (kY nc K M + 1) ≤ 50000000000) : delB (wLay e) K (kS nc K) M (kZ nc K M) (kG nc K M) (kK K) (kT K) (kY nc K M) := by
 obtain ⟨b1, b2, b3⟩ := hb
 have hn := h.n
 have han := h.an
 have e1 : (wLay e).count = e.claims.length := rfl
 have e2 : (wLay e).ranks = wRanks e.claims := rfl
 have e3 : (wLay e).pools = e.agrs.map (wPool e.claims) := rfl
 have hrn := wRanks_N e.claims
 have hpl : ∀ p ∈ (wLay e).pools, wOK (kK K) (kT K) p.2 ∧ (∀ t ∈ p.2, wIn (wLay e).count t) ∧ (p.1.length ≤ nc ∧ p.2.length ≤ 25 ∧ wN p.2 ≤ 600) ∧ ∀ i ∈ p.1, 0 ≤ i ∧ i < ((wLay e).count : Int) := fun p hp => by
  rw [e3] at hp
  obtain ⟨a, ha, rfl⟩ := List.mem_map.1 hp
  obtain ⟨g1, g2, g3, g4⟩ := h.ag a ha
  obtain ⟨m1, m2⟩ := h.mi a ha
  have hlad := wPool_ok (cs := e.claims) g4 h.cl.am
  obtain ⟨w1, w2⟩ := wTiers_len a (e.claims.map fun c => qOf c.amount)
  have hpn : pN a ≤ 576 := by rw [pN_flat]; exact g3
  have hpk := Nat.mul_le_mul_right (K + 1) hpn
  obtain ⟨B1, B2⟩ := wTiers_B (Km := kK K) hK0 a (e.claims.map fun c => qOf c.amount) K (fun y hy => by
   obtain ⟨c, hc, rfl⟩ := List.mem_map.1 hy
   exact (hs.2.1 c hc).qB hK0) (Nat.le_refl _) (by unfold kK; omega) (hs.2.2 a ha)
  have htl : ∀ t ∈ (wPool e.claims a).2, t.length ≤ 24 ∧ ∀ p ∈ t, qB (kK K) p.2 := fun t ht => by
   rcases List.mem_append.1 ht with ht | ht
   ·refine ⟨?_, B2 t ht⟩
    obtain ⟨_, _, _, _, hmap⟩ := wTiers_ok a (e.claims.map fun c => qOf c.amount) g4 (by simp) (fun x hx => by obtain ⟨c, h1, rfl⟩ := List.mem_map.1 hx; exact h.cl.am c h1)
    have h1 : t.map (·.1) ∈ (wTiers a (e.claims.map fun c => qOf c.amount)).2.map (fun t => t.map (·.1)) := List.mem_map.2 ⟨t, ht, rfl⟩
    rw [hmap] at h1
    obtain ⟨u, hu, he⟩ := List.mem_map.1 h1
    have h2 := congrArg List.length he
    simp only [List.length_map] at h2
    have := g2 u hu
    omega
   simp only [List.mem_singleton] at ht
   subst ht
   refine ⟨by unfold wLast; rw [List.length_map]; omega, fun p hp => ?_⟩
   obtain ⟨j, _, rfl⟩ := List.mem_map.1 hp
   exact getD_qB B1 (by unfold kK; omega) _
  have e4 : (wPool e.claims a).2.length = a.length + 1 := by show ((wTiers a _).2 ++ [_]).length = _; rw [List.length_append, w1]; rfl
  refine ⟨⟨by omega, fun t ht => ?_⟩, pLad_in hlad rfl, ⟨?_, by omega, ?_⟩, m1⟩
  ·obtain ⟨t1, t2⟩ := htl t ht
   refine ⟨by omega, (wSum_qB t t2).mono ?_, t2⟩
   have := Nat.mul_le_mul_right (kK K + 1) t1
   unfold kT
   omega
  ·show (mem a).length ≤ nc
   omega
  show wN ((wTiers a _).2 ++ [_]) ≤ 600
  rw [wN_app, w2]
  have : (wLast (mem a) (wTiers a (e.claims.map fun c => qOf c.amount)).1).length ≤ 24 := by unfold wLast; rw [List.length_map]; omega
  simp only [wN]
  omega
 refine ⟨by omega, by rw [e3, List.length_map]; omega, ⟨by rw [e2, wRanks_len]; omega, fun t ht => ?_⟩, by rw [e2]; exact wRanks_in e.claims, ?_, ?_, by unfold kG; omega, b1, fun p hp => ?_, fun p hp => ?_, b2, ?_⟩
 ·rw [e2] at ht
  obtain ⟨r, _, rfl⟩ := wRanks_mem ht
  have h1 := wRk_len (r : Int) e.claims 0
  have h2 : ∀ p ∈ wRk (r : Int) e.claims 0, qB K p.2 := fun p hp => by
   obtain ⟨_, _, c, h3, h4⟩ := wRk_in (r : Int) e.claims 0 p hp
   rw [h4]; exact (hs.2.1 c h3).qB hK0
  refine ⟨by omega, (wSum_qB _ h2).mono ?_, h2⟩
  have := Nat.mul_le_mul_right (K + 1) (show (wRk (r : Int) e.claims 0).length ≤ nc by omega)
  unfold kS
  omega
 ·rw [e2, wRanks_len]
  unfold kZ
  omega
 ·have := Nat.mul_le_mul_right (kZ nc K M + 1) (show wN (wLay e).ranks ≤ nc by rw [e2]; omega)
  unfold kG
  omega
 ·obtain ⟨p1, p2, p3, p4⟩ := hpl p hp
  exact ⟨p1, p2, by omega, p4⟩
 ·obtain ⟨p1, p2, p3, p4⟩ := hpl p hp
  have h1 := Nat.mul_le_mul_right (kG nc K M + 1) p3.1
  have h2 := Nat.mul_le_mul_right (kT K + 1) p3.2.1
  unfold kY
  omega
 have h1 : ∀ ps : List WPool, (∀ p ∈ ps, wN p.2 ≤ 600) → (ps.map fun p => wN p.2).sum ≤ ps.length * 600 := by
  intro ps
  induction ps with
  | nil => intro _; simp
  | cons p ps ih =>
   intro hp
   have h2 := ih fun q hq => hp q (by simp [hq])
   have h3 := hp p (by simp)
   simp only [List.map_cons, List.sum_cons, List.length_cons]
   omega
 have h2 := h1 (wLay e).pools fun p hp => (hpl p hp).2.2.1.2.2
 have h3 : (wLay e).pools.length ≤ na := by rw [e3, List.length_map]; exact hna
 have h4 := Nat.mul_le_mul_right (kY nc K M + 1) (Nat.le_trans h2 (Nat.mul_le_mul_right 600 h3))
 omega
structure eIn (e : GEst) (K M nc na : Nat) : Prop where
 ok : estOK e
 s : estS K e
 k0 : 0 < K
 m0 : 0 < M
 hnc : e.claims.length ≤ nc
 nc2 : nc ≤ 24
 hna : e.agrs.length ≤ na
 kb : K ≤ 10000
 mb : M ≤ 40000000
 b : kG nc K M ≤ 40000000 ∧ kY nc K M ≤ 40000000000 ∧ kG nc K M + (na * 600) * (kY nc K M + 1) ≤ 50000000000
theorem aMaxQ (r : GRat) (M : Nat) (h : sB M r) (h0 : 0 < M) (hM : M ≤ 100000000000) : ACall Tryz.prog 133 [.agg (cRat r), .agg [.lit (.bool false), .lit (.string bEmpty), .lit (.string bEmpty)]] (.val (.agg (cRat (enc (qmax (qOf r) 0))))) := by
 have h1 := aMax r gZ M 1 h ⟨by decide, by decide⟩ hM (by decide) h0 (by decide)
 rw [qOf_gZ] at h1
 exact h1
noncomputable def mPos (r : GRat) : Rat := qmax (qOf r) 0
theorem mPos_B {r : GRat} {M : Nat} (h : sB M r) (h0 : 0 < M) : qB M (mPos r) := by
 unfold mPos qmax
 split
 ·exact qB_zero.mono h0
 exact h.qB h0
theorem mPos_nn (r : GRat) : 0 ≤ mPos r := by
 unfold mPos qmax
 split <;> grind
noncomputable def dlR (e : GEst) (m : Rat) : AV := .tup [.one (if wcSpec e = 0 then .sh 3 e.claims.length (flat cQ (wDel (wLay e) m).cl) else .lit (.slice none 0 0)), .agg (cRat (enc (if wcSpec e = 0 then (wDel (wLay e) m).rv else 0))), .one (.lit (.int .i64 (wcSpec e)))]
def F26 := And.intro zS (And.intro tf18 (And.intro tf38 (tf39)))
set_option maxRecDepth 100000 in
set_option maxHeartbeats 4000000 in
theorem positive_A (r : GRat) (M : Nat) (h : sB M r) (h0 : 0 < M) (hM : M ≤ 100000000000) : ACall Tryz.prog 81 [.agg (cRat r)] (.val (.agg (cRat (enc (mPos r))))) := by
 have hA := aMaxQ r M h h0 hM
 simp only [cRat] at hA
 refine acall_of Tryz.func81 rfl (by decide) (N := 6) rfl (by simp) (R := [.cell 2 32]) rfl fun en k0 => ?_
 refine awN ?_
 simp only [(id F26), seval, cRat]
 repeat refine ob ?_
 refine awN ?_
 simp only [(id F26), seval, cRat]
 repeat refine ob ?_
 refine ⟨_, hA, rfl, ?_⟩
 try unfold Later
 try simp only [(id F26), seval, cRat]
 repeat refine ob ?_
 refine awX ?_
 (first | (simp only [(id F26), seval, cRat, mPos, cRat]; done) | (simp only [(id F26), seval, cRat]; first | (simp [mPos, cRat]; done)))
def F29 := And.intro zS (And.intro tf75 (And.intro tf18 (And.intro tf38 (tf39))))
set_option maxRecDepth 100000 in
set_option maxHeartbeats 4000000 in
theorem wDeliver_A (e : GEst) (m : GRat) (K M nc na : Nat) (hI : eIn e K M nc na) (hm : sB M m) : ACall Tryz.prog 32 [.agg (cEst e), .agg (cRat m)] (dlR e (mPos m)) := by
 refine acall_of Tryz.func32 rfl (by decide) (N := 26) rfl (by simp) (R := [.tmp 4, .cell 5 32, .tmp 6]) rfl fun en k0 => ?_
 refine awN ?_
 simp only [(id F29), seval, cEst, cRat]
 repeat refine ob ?_
 have hC := wCheck_A e hI.ok
 refine awN ?_
 simp only [(id F29), seval, cEst, flat_pure cClaim_pure, flat_pure cAgr_pure]
 repeat refine ob ?_
 refine ⟨_, hC, (by first | rfl | simp [allA, pure1, pureCs, pureC, A1.cells, cLay, cRat, flat_pure cQ_pure, flat_pure cWT_pure, flat_pure cPool_pure]), ?_⟩
 try unfold Later
 try simp only [(id F29), seval, cEst, flat_pure cClaim_pure, flat_pure cAgr_pure]
 repeat refine ob ?_
 by_cases h0 : wcSpec e = 0
 ·
  refine awN ?_
  simp only [(id F29), seval, cEst, h0]
  repeat refine ob ?_
  refine awF ?_
  refine awK ?_
  simp only [(id F29), seval]
  have hW := wc_ok h0
  have hLay := Lay_A e K (K + 576 * (K + 1)) (by have := hW.n; omega) (by have := hW.an; omega) hW.cl.rk hI.s.2.1 hI.k0 (by have := hI.kb; omega) (wc_layB hW hI.s hI.k0 hI.kb)
  have hB := wc_delB hW hI.s hI.k0 hI.hnc hI.nc2 hI.hna hI.b
  have hP := positive_A m M hm hI.m0 (by have := hI.mb; omega)
  have hG := lDel_A (wLay e) (mPos m) K (kS nc K) M (kZ nc K M) _ _ _ _ hB (mPos_B hm hI.m0)
  simp only [cRat, delR] at hG hP
  refine awD (scq [1, 5] (.two 1 8 (.two 3 8 (.two 4 8 (scq [11, 13, 15, 16, 19, 20] .nil) (scq [8, 11, 13, 15, 19, 20] .nil)) (scq [6, 8, 11, 13, 15, 19, 20] .nil)) (scq [2, 6, 8, 11, 13, 15, 19, 20] .nil))) [none, none, none, none, none, none, none, none, none, none, none] ?_
  simp only [(id F29), seval, cEst, h0, flat_pure cClaim_pure, flat_pure cAgr_pure, flat_pure cWT_pure, flat_pure cPool_pure, cLay, cRat, flat_pure cQ_pure]
  repeat refine ob ?_
  refine ⟨?_, ?_⟩
  ·
   repeat refine ob ?_
   refine ⟨_, hLay, (by first | rfl | simp [allA, pure1, pureCs, pureC, A1.cells, cLay, cRat, flat_pure cQ_pure, flat_pure cWT_pure, flat_pure cPool_pure]), ?_⟩
   try unfold Later
   try simp only [(id F29), seval, cEst, h0, flat_pure cClaim_pure, flat_pure cAgr_pure, flat_pure cWT_pure, flat_pure cPool_pure, cLay, cRat, flat_pure cQ_pure]
   repeat refine ob ?_
   refine ⟨?_, ?_⟩
   ·
    repeat refine ob ?_
    refine ⟨_, hP, (by first | rfl | simp [allA, pure1, pureCs, pureC, A1.cells, cLay, cRat, flat_pure cQ_pure, flat_pure cWT_pure, flat_pure cPool_pure]), ?_⟩
    try unfold Later
    try simp only [(id F29), seval, cEst, h0, flat_pure cClaim_pure, flat_pure cAgr_pure, flat_pure cWT_pure, flat_pure cPool_pure, cLay, cRat, flat_pure cQ_pure]
    repeat refine ob ?_
    refine ⟨?_, ?_⟩
    ·
     repeat refine ob ?_
     refine ⟨_, hG, (by first | rfl | simp [allA, pure1, pureCs, pureC, A1.cells, cLay, cRat, flat_pure cQ_pure, flat_pure cWT_pure, flat_pure cPool_pure]), ?_⟩
     try unfold Later
     try simp only [(id F29), seval, cEst, h0, flat_pure cClaim_pure, flat_pure cAgr_pure, flat_pure cWT_pure, flat_pure cPool_pure, cLay, cRat, flat_pure cQ_pure]
     repeat refine ob ?_
     refine awD (scq [1, 3, 5, 6, 9] .nil) [none, none, none, none, none] ?_
     simp only [(id F29), seval, cEst, h0, flat_pure cQ_pure]
     repeat refine ob ?_
     refine awX ?_
     simp only [(id F29), seval, flat_pure cQ_pure]
     simp [dlR, h0, wLay, cRat]
    repeat refine ob ?_
    refine ⟨_, hG, (by first | rfl | simp [allA, pure1, pureCs, pureC, A1.cells, cLay, cRat, flat_pure cQ_pure, flat_pure cWT_pure, flat_pure cPool_pure]), ?_⟩
    try unfold Later
    try simp only [(id F29), seval, cEst, h0, flat_pure cClaim_pure, flat_pure cAgr_pure, flat_pure cWT_pure, flat_pure cPool_pure, cLay, cRat, flat_pure cQ_pure]
    repeat refine ob ?_
    refine awD (scq [1, 3, 5, 6, 9] .nil) [none, none, none, none, none] ?_
    simp only [(id F29), seval, cEst, h0, flat_pure cQ_pure]
    repeat refine ob ?_
    refine awX ?_
    simp only [(id F29), seval, flat_pure cQ_pure]
    simp [dlR, h0, wLay, cRat]
   repeat refine ob ?_
   refine ⟨_, hP, (by first | rfl | simp [allA, pure1, pureCs, pureC, A1.cells, cLay, cRat, flat_pure cQ_pure, flat_pure cWT_pure, flat_pure cPool_pure]), ?_⟩
   try unfold Later
   try simp only [(id F29), seval, cEst, h0, flat_pure cClaim_pure, flat_pure cAgr_pure, flat_pure cWT_pure, flat_pure cPool_pure, cLay, cRat, flat_pure cQ_pure]
   repeat refine ob ?_
   refine ⟨_, hG, (by first | rfl | simp [allA, pure1, pureCs, pureC, A1.cells, cLay, cRat, flat_pure cQ_pure, flat_pure cWT_pure, flat_pure cPool_pure]), ?_⟩
   try unfold Later
   try simp only [(id F29), seval, cEst, h0, flat_pure cClaim_pure, flat_pure cAgr_pure, flat_pure cWT_pure, flat_pure cPool_pure, cLay, cRat, flat_pure cQ_pure]
   repeat refine ob ?_
   refine awD (scq [1, 3, 5, 6, 9] .nil) [none, none, none, none, none] ?_
   simp only [(id F29), seval, cEst, h0, flat_pure cQ_pure]
   repeat refine ob ?_
   refine awX ?_
   simp only [(id F29), seval, flat_pure cQ_pure]
   simp [dlR, h0, wLay, cRat]
  repeat refine ob ?_
  refine ⟨_, hLay, (by first | rfl | simp [allA, pure1, pureCs, pureC, A1.cells, cLay, cRat, flat_pure cQ_pure, flat_pure cWT_pure, flat_pure cPool_pure]), ?_⟩
  try unfold Later
  try simp only [(id F29), seval, cEst, h0, flat_pure cClaim_pure, flat_pure cAgr_pure, flat_pure cWT_pure, flat_pure cPool_pure, cLay, cRat, flat_pure cQ_pure]
  repeat refine ob ?_
  refine ⟨_, hP, (by first | rfl | simp [allA, pure1, pureCs, pureC, A1.cells, cLay, cRat, flat_pure cQ_pure, flat_pure cWT_pure, flat_pure cPool_pure]), ?_⟩
  try unfold Later
  try simp only [(id F29), seval, cEst, h0, flat_pure cClaim_pure, flat_pure cAgr_pure, flat_pure cWT_pure, flat_pure cPool_pure, cLay, cRat, flat_pure cQ_pure]
  repeat refine ob ?_
  refine ⟨_, hG, (by first | rfl | simp [allA, pure1, pureCs, pureC, A1.cells, cLay, cRat, flat_pure cQ_pure, flat_pure cWT_pure, flat_pure cPool_pure]), ?_⟩
  try unfold Later
  try simp only [(id F29), seval, cEst, h0, flat_pure cClaim_pure, flat_pure cAgr_pure, flat_pure cWT_pure, flat_pure cPool_pure, cLay, cRat, flat_pure cQ_pure]
  repeat refine ob ?_
  refine awD (scq [1, 3, 5, 6, 9] .nil) [none, none, none, none, none] ?_
  simp only [(id F29), seval, cEst, h0, flat_pure cQ_pure]
  repeat refine ob ?_
  refine awX ?_
  simp only [(id F29), seval, flat_pure cQ_pure]
  simp [dlR, h0, wLay, cRat]
 refine awN ?_
 simp only [(id F29), seval, cEst, h0]
 repeat refine ob ?_
 refine awT ?_
 refine awN ?_
 simp only [(id F29), seval, cEst, h0]
 repeat refine ob ?_
 refine awX ?_
 simp only [(id F29), seval]
 simp [dlR, h0, enc0_cells]
theorem rat_fieldsW : (Tryz.prog.fieldsOf 32).toList = [⟨"Neg", 4, 0, false, "", "", 0⟩, ⟨"Num", 9, 1, false, "", "", 8⟩, ⟨"Den", 9, 2, false, "", "", 24⟩] := by kernel_rfl
theorem bool_oneTW : ldT Tryz.prog 4 = some (false, 1) := by kernel_rfl
theorem string_oneTW : ldT Tryz.prog 9 = some (false, 1) := by kernel_rfl
theorem part_boolW (cs : Array Value) (i : Nat) (v : Value) (h : cs[i]? = some v) (w : World) : (part 4 cs i).run Tryz.prog w = .ok v w := by
 simp [part, (ldT_one bool_oneTW w).1, h]
theorem part_strW (cs : Array Value) (i : Nat) (v : Value) (h : cs[i]? = some v) (w : World) : (part 9 cs i).run Tryz.prog w = .ok v w := by
 simp [part, (ldT_one string_oneTW w).1, h]
theorem EqOK_ratW (a : GRat) : EqOK Tryz.prog 32 [.bool a.neg, .string a.num, .string a.den] [.bool a.neg, .string a.num, .string a.den] := fun w => ⟨by
 obtain ⟨x, y, z⟩ := a
 have h2 := run_equalIn_agg (P := Tryz.prog) w 9999 32 #[.bool x, .string y, .string z] #[.bool x, .string y, .string z] (by kernel_rfl) (by kernel_rfl)
 have h3 : (Op.equal 32 (.agg #[.bool x, .string y, .string z]) (.agg #[.bool x, .string y, .string z])).run Tryz.prog w = (Op.equalIn (9999 + 1) 32 (.agg #[.bool x, .string y, .string z]) (.agg #[.bool x, .string y, .string z])).run Tryz.prog w := rfl
 have hb := fun (a b : Bool) => run_equalIn_bool' (P := Tryz.prog) w 9998 4 a b (by kernel_rfl)
 have hs := fun (a b : ByteArray) => run_equalIn_string (P := Tryz.prog) w 9998 9 a b (by kernel_rfl)
 have p0 := part_boolW #[.bool x, .string y, .string z] 0 _ rfl w
 have p1 := part_strW #[.bool x, .string y, .string z] 1 _ rfl w
 have p2 := part_strW #[.bool x, .string y, .string z] 2 _ rfl w
 show (Op.equal 32 (.agg #[.bool x, .string y, .string z]) (.agg #[.bool x, .string y, .string z])).run Tryz.prog w = _
 rw [h3, h2, rat_fieldsW]
 have n1 : ¬ "Neg" = "_" := by decide
 have n2 : ¬ "Num" = "_" := by decide
 have n3 : ¬ "Den" = "_" := by decide
 simp only [Op.eqFields, ne_eq, n1, n2, n3, not_false_eq_true, if_true, Sem.run_bind, p0, p1, p2, Result.andThen_ok, hb, hs]
 simp [hb, hs, p0, p1, p2, n1, n2, n3, Op.eqFields, eqVs, eqV], by kernel_rfl⟩
theorem eqVs_ratW (a : GRat) : eqVs [.bool a.neg, .string a.num, .string a.den] [.bool a.neg, .string a.num, .string a.den] = true := by simp [eqVs, eqV]
theorem aIntQ (n : Int) (h0 : -1000000 ≤ n) (h1 : n ≤ 1000000) : ACall Tryz.prog 52 [.one (.lit (.int .i64 n))] (.val (.agg (cRat (enc (n : Rat))))) := aInt n (by omega) (by omega)
def exCl : List GClaim := [⟨-1, 2, enc 60⟩, ⟨-1, 2, enc 40⟩]
noncomputable def exE (ags : List GAgr) : GEst := ⟨gZ, exCl, ags⟩
section
variable {P : Program} {e : En} {H : Hp} {nx : Nat} {σ : Nat → Value} {w : World}
theorem tiers_read (hW : RW e H nx σ w) {nt st na sa : Nat} {E E' : TypeId} {t1 t2 : List GPart} {v : Value} (hd : den (kx e H nx σ w) v (.own nt st 2 1)) (h1 : H nt = some ⟨st, E, 1, 2, [.sh 5 t1.length (flat cPart t1), .own na sa t2.length 5]⟩) (h2 : H na = some ⟨sa, E', 5, t2.length, flat cPart t2⟩) :
  den (kAll w) v (.sh 1 2 (flat cTier [t1, t2])) := by
 refine own_readT hW hd h1 rfl (by show (1 : Nat) ≠ 0; decide) fun xs hx => ?_
 obtain ⟨v1, vs1, rfl, d1, hx⟩ := denVs_cons hx
 obtain ⟨v2, vs2, rfl, d2, hx⟩ := denVs_cons hx
 cases vs2 with
 | nil => exact ⟨den_pure kx_all (by simp [pureC, flat_pure cPart_pure]) d1, own_readT hW d2 h2 rfl (by show (5 : Nat) ≠ 0; decide) (fun ys hy => denVs_pure kx_all (flat_pure cPart_pure _) hy), trivial⟩
 | cons v vs => exact hx.elim
theorem exE_read (hW : RW e H nx σ w) {n1 n2 nt st na sa sx sy : Nat} {E E' E1 E2 : TypeId} {t1 t2 : List GPart} {vs : List Value}
  (hd : denVs (kx e H nx σ w) vs [.lit (.bool false), .lit (.string bEmpty), .lit (.string bEmpty),   .own n1 sx 2 5, .own n2 sy 1 1]) (h1 : H nt = some ⟨st, E, 1, 2, [.sh 5 t1.length (flat cPart t1), .own na sa t2.length 5]⟩) (h2 : H na = some ⟨sa, E', 5, t2.length, flat cPart t2⟩)
  (h3 : H n1 = some ⟨sx, E1, 5, 2, flat cClaim exCl⟩) (h4 : H n2 = some ⟨sy, E2, 1, 1, [.own nt st 2 1]⟩) : denVs (kAll w) vs (cEst (exE [[t1, t2]])) := by
 obtain ⟨v1, vs1, rfl, d1, hd⟩ := denVs_cons hd
 obtain ⟨v2, vs2, rfl, d2, hd⟩ := denVs_cons hd
 obtain ⟨v3, vs3, rfl, d3, hd⟩ := denVs_cons hd
 obtain ⟨v4, vs4, rfl, d4, hd⟩ := denVs_cons hd
 obtain ⟨v5, vs5, rfl, d5, hd⟩ := denVs_cons hd
 have k4 := own_readT hW d4 h3 rfl (by show (5 : Nat) ≠ 0; decide) (fun ys hy => denVs_pure kx_all (flat_pure cClaim_pure _) hy)
 have k5 : den (kAll w) v5 (.sh 1 1 (flat cAgr [[t1, t2]])) := own_readT hW d5 h4 rfl (by show (1 : Nat) ≠ 0; decide) fun xs hx => by
  obtain ⟨u1, us1, rfl, f1, hx⟩ := denVs_cons hx
  cases us1 with
  | nil => exact ⟨tiers_read hW f1 h1 h2, trivial⟩
  | cons v vs => exact hx.elim
 cases vs5 with
 | nil => exact ⟨d1, d2, d3, k4, k5, trivial⟩
 | cons v vs => exact hd.elim
end
def F30 := And.intro zS (And.intro tf50 (And.intro tf51 (And.intro tf75 (And.intro tf18 (tf39)))))
set_option maxRecDepth 100000 in
set_option maxHeartbeats 4000000 in
theorem pays_A (e : GEst) (m : Int) (a b : Rat) (hm0 : -1000 ≤ m ∧ m ≤ 1000) (hI : eIn e 1 2 24 12) (h0 : wcSpec e = 0) (hmB : qB 2 (m : Rat)) (hmp : mPos (enc (m : Rat)) = (m : Rat)) (hn2 : e.claims.length = 2) (hcl : (wDel (wLay e) (m : Rat)).cl = [a, b]) : ACall Tryz.prog 73 [.agg (cEst e), .one (.lit (.int .i64 m)), .agg (cRat (enc a)), .agg (cRat (enc b))] (one (.bool true)) := by
 refine acall_of Tryz.func73 rfl (by decide) (N := 41) rfl (by simp) (R := [.tmp 8]) rfl fun en k0 => ?_
 refine awN ?_
 simp only [(id F30), seval, cRat, cEst]
 repeat refine ob ?_
 have hI0 := aIntQ m (by omega) (by omega)
 have hD := wDeliver_A e (enc (m : Rat)) 1 2 24 12 hI (sB_enc hmB)
 rw [hmp] at hD
 simp only [dlR, h0, if_true, hn2] at hD
 simp only [cRat] at hI0 hD
 refine awD (scq [1, 3] (.two 2 8 (.two 3 8 (scT 4 4 (scq [16, 19, 20, 23] .nil)) (scq [6] (scT 4 4 (scq [19, 20, 23] .nil)))) (scq [4, 6] (scT 4 4 (scq [19, 20, 23] .nil))))) [none, none, none, none, none, none, none, none, none, none, none, none] ?_
 simp only [(id F30), seval, cRat, cEst, flat_pure cClaim_pure, flat_pure cAgr_pure, cEst, flat_pure cQ_pure]
 repeat refine ob ?_
 refine ⟨?_, ?_⟩
 ·
  repeat refine ob ?_
  refine ⟨_, hI0, (by first | rfl | simp [allA, pure1, pureCs, pureC, A1.cells, flat_pure cQ_pure]), ?_⟩
  try unfold Later
  try simp only [(id F30), seval, cRat, cEst, flat_pure cClaim_pure, flat_pure cAgr_pure, cEst, flat_pure cQ_pure]
  repeat refine ob ?_
  refine ⟨?_, ?_⟩
  ·
   repeat refine ob ?_
   refine ⟨_, hD, (by first | rfl | simp [allA, pure1, pureCs, pureC, A1.cells, flat_pure cQ_pure]), ?_⟩
   try unfold Later
   try simp only [(id F30), seval, cRat, cEst, flat_pure cClaim_pure, flat_pure cAgr_pure, cEst, flat_pure cQ_pure]
   repeat refine ob ?_
   have q1 := EqOK_ratW (enc a)
   have q2 := eqVs_ratW (enc a)
   have q3 := EqOK_ratW (enc b)
   have q4 := eqVs_ratW (enc b)
   have hfl : flat cQ [a, b] = cRat (enc a) ++ (cRat (enc b) ++ []) := rfl
   simp only [cRat, List.cons_append, List.nil_append] at hfl
   refine awD (scT 0 22 .nil) [none, none, none, some (22, true), some (22, true), some (22, true), none, none, some (27, true), some (27, true), some (27, true), some (27, true), some (27, true), none, none, some (34, true), some (34, true), some (34, true), some (34, true), some (34, true), none, none] ?_
   simp only [(id F30), seval, cRat, cEst, hcl, hfl, q1, q2, q3, q4]
   repeat refine ob ?_
   refine awX ?_
   simp only [(id F30), seval]
   try simp
  repeat refine ob ?_
  refine ⟨_, hD, (by first | rfl | simp [allA, pure1, pureCs, pureC, A1.cells, flat_pure cQ_pure]), ?_⟩
  try unfold Later
  try simp only [(id F30), seval, cRat, cEst, flat_pure cClaim_pure, flat_pure cAgr_pure, cEst, flat_pure cQ_pure]
  repeat refine ob ?_
  have q1 := EqOK_ratW (enc a)
  have q2 := eqVs_ratW (enc a)
  have q3 := EqOK_ratW (enc b)
  have q4 := eqVs_ratW (enc b)
  have hfl : flat cQ [a, b] = cRat (enc a) ++ (cRat (enc b) ++ []) := rfl
  simp only [cRat, List.cons_append, List.nil_append] at hfl
  refine awD (scT 0 22 .nil) [none, none, none, some (22, true), some (22, true), some (22, true), none, none, some (27, true), some (27, true), some (27, true), some (27, true), some (27, true), none, none, some (34, true), some (34, true), some (34, true), some (34, true), some (34, true), none, none] ?_
  simp only [(id F30), seval, cRat, cEst, hcl, hfl, q1, q2, q3, q4]
  repeat refine ob ?_
  refine awX ?_
  simp only [(id F30), seval]
  try simp
 repeat refine ob ?_
 refine ⟨_, hI0, (by first | rfl | simp [allA, pure1, pureCs, pureC, A1.cells, flat_pure cQ_pure]), ?_⟩
 try unfold Later
 try simp only [(id F30), seval, cRat, cEst, flat_pure cClaim_pure, flat_pure cAgr_pure, cEst, flat_pure cQ_pure]
 repeat refine ob ?_
 refine ⟨_, hD, (by first | rfl | simp [allA, pure1, pureCs, pureC, A1.cells, flat_pure cQ_pure]), ?_⟩
 try unfold Later
 try simp only [(id F30), seval, cRat, cEst, flat_pure cClaim_pure, flat_pure cAgr_pure, cEst, flat_pure cQ_pure]
 repeat refine ob ?_
 have q1 := EqOK_ratW (enc a)
 have q2 := eqVs_ratW (enc a)
 have q3 := EqOK_ratW (enc b)
 have q4 := eqVs_ratW (enc b)
 have hfl : flat cQ [a, b] = cRat (enc a) ++ (cRat (enc b) ++ []) := rfl
 simp only [cRat, List.cons_append, List.nil_append] at hfl
 refine awD (scT 0 22 .nil) [none, none, none, some (22, true), some (22, true), some (22, true), none, none, some (27, true), some (27, true), some (27, true), some (27, true), some (27, true), none, none, some (34, true), some (34, true), some (34, true), some (34, true), some (34, true), none, none] ?_
 simp only [(id F30), seval, cRat, cEst, hcl, hfl, q1, q2, q3, q4]
 repeat refine ob ?_
 refine awX ?_
 simp only [(id F30), seval]
 try simp
theorem two_nil {κ : Kx} {vs : List Value} (h : denVs κ vs [.lit (.bool false), .lit (.string bEmpty), .lit (.string bEmpty), .sh 5 2 [.lit (.int .i64 (-1)), .lit (.int .i64 2), .lit (.bool (enc ((60 : Int) : Rat)).neg), .lit (.string (enc ((60 : Int) : Rat)).num), .lit (.string (enc ((60 : Int) : Rat)).den), .lit (.int .i64 (-1)), .lit (.int .i64 2), .lit (.bool (enc ((40 : Int) : Rat)).neg), .lit (.string (enc ((40 : Int) : Rat)).num), .lit (.string (enc ((40 : Int) : Rat)).den)], .lit (.slice none 0 0)]) : denVs κ vs (cEst (exE [])) := by
 obtain ⟨v1, vs1, rfl, d1, h⟩ := denVs_cons h
 obtain ⟨v2, vs2, rfl, d2, h⟩ := denVs_cons h
 obtain ⟨v3, vs3, rfl, d3, h⟩ := denVs_cons h
 obtain ⟨v4, vs4, rfl, d4, h⟩ := denVs_cons h
 obtain ⟨v5, vs5, rfl, d5, h⟩ := denVs_cons h
 exact ⟨d1, d2, d3, d4, den_nilsh 1 d5, h⟩
def F31 := And.intro zS (And.intro tf2 (And.intro tf23 (And.intro tf24 (And.intro tf30 (And.intro tf31 (And.intro tf75 (And.intro tf83 (And.intro tf84 (And.intro tf85 (And.intro tf35 (And.intro tf36 (tf86))))))))))))
set_option maxRecDepth 100000 in
set_option maxHeartbeats 4000000 in
theorem two_A : ACall Tryz.prog 74 [.one (.lit (.slice none 0 0))] (.val (.agg (cEst (exE [])))) := by
 refine acall_of Tryz.func74 rfl (by decide) (N := 18) rfl (by simp) (R := [.cell 2 36]) rfl fun en k0 => ?_
 refine awN ?_
 simp only [(id F31), seval, cRat]
 repeat refine ob ?_
 have h60 := aIntQ 60 (by decide) (by decide)
 have h40 := aIntQ 40 (by decide) (by decide)
 simp only [cRat] at h60 h40
 refine awN ?_
 simp only [(id F31), seval, cRat]
 repeat refine ob ?_
 refine ⟨_, h60, rfl, ?_⟩
 try unfold Later
 try simp only [(id F31), seval, cRat]
 repeat refine ob ?_
 refine ⟨_, h40, rfl, ?_⟩
 try unfold Later
 try simp only [(id F31), seval, cRat]
 repeat refine ob ?_
 refine awN ?_
 simp only [(id F31), seval, cRat]
 repeat refine ob ?_
 refine awF ?_
 refine awK ?_
 simp only [(id F31), seval]
 refine awp_pubc 8 3 3 (by rfl) (by rfl) (by rfl) (by decide) (by show (5 : Nat) ≠ 0; decide) (by show (5 : Nat) ≠ 0; decide) rfl ?_
 refine awp_wk (wk_cells 3 (cEst (exE [])) (by rfl) (by show (5 : Nat) ≠ 0; decide) (by rfl) (fun κ vs h => two_nil h)) ?_
 simp only [(id F31), seval]
 refine awN ?_
 simp only [(id F31), seval, cRat, cEst, flat_pure cClaim_pure, flat_pure cAgr_pure]
 repeat refine ob ?_
 refine awX ?_
 simp only [(id F31), seval, flat_pure cClaim_pure, flat_pure cAgr_pure]
 try simp [cEst, flat_pure cClaim_pure, flat_pure cAgr_pure]
def F32 := And.intro zS (And.intro tf2 (And.intro tf23 (And.intro tf24 (And.intro tf30 (And.intro tf31 (And.intro tf75 (And.intro tf83 (And.intro tf84 (And.intro tf85 (And.intro tf35 (And.intro tf36 (tf86))))))))))))
set_option maxRecDepth 100000 in
set_option maxHeartbeats 4000000 in
theorem two_I (H : Hp) (ny nt st : Nat) (hnt : ∃ B, H nt = some B ∧ B.st = st) (hbH : ∀ y B, H y = some B → y < 700) : ACallI Tryz.prog 74 [.one (.own nt st 2 1)] H ny
  (fun res H' _ => ∃ sx sy s2 cs2, res = .val (.agg [.lit (.bool false), .lit (.string bEmpty), .lit (.string bEmpty), .own 708 sx 2 5, .own 715 sy 1 1]) ∧ H' = mkOn H [(702, ⟨s2, 36, 5, 1, cs2⟩), (708, ⟨sx, 38, 5, 2, flat cClaim exCl⟩), (715, ⟨sy, 50, 1, 1, [.own nt st 2 1]⟩)]) := by
 refine acallI_of 700 Tryz.func74 rfl (by decide) (N := 18) rfl (by simp) (Rl := [.cell 2 36]) rfl fun en k0 => ?_
 refine awN ?_
 simp only [(id F32), seval, cRat]
 repeat refine ob ?_
 have h60 := aIntQ 60 (by decide) (by decide)
 have h40 := aIntQ 40 (by decide) (by decide)
 simp only [cRat] at h60 h40
 refine awN ?_
 simp only [(id F32), seval, cRat]
 repeat refine ob ?_
 refine ⟨_, h60, rfl, ?_⟩
 try unfold Later
 try simp only [(id F32), seval, cRat]
 repeat refine ob ?_
 refine ⟨_, h40, rfl, ?_⟩
 try unfold Later
 try simp only [(id F32), seval, cRat]
 repeat refine ob ?_
 refine awN ?_
 simp only [(id F32), seval, cRat]
 repeat refine ob ?_
 refine ⟨by obtain ⟨B, hB, hs⟩ := hnt; have := hbH nt B hB; exact ⟨B, by (repeat rw [if_neg (by omega)]); exact hB, hs⟩, ?_⟩
 refine awT ?_
 refine awN ?_
 simp only [(id F32), seval, cRat]
 repeat refine ob ?_
 refine awN ?_
 simp only [(id F32), seval, cRat]
 repeat refine ob ?_
 refine awp_on H [2] [702, 708, 715] (by intro y B h; right; have h9 := hbH y B h; simp only [up_apply]; (repeat rw [if_neg (by omega)]); exact h) ?_
 simp only [(id F32), seval]
 refine awX ?_
 simp only [(id F32), seval]
 exact ⟨_, _, _, _, rfl, rfl⟩
set_option maxRecDepth 100000 in
set_option maxHeartbeats 4000000 in
theorem two_J (H : Hp) (ny nt st : Nat) (hnt : ∃ B, H nt = some B ∧ B.st = st) (hbH : ∀ y B, H y = some B → y < 800) : ACallI Tryz.prog 74 [.one (.own nt st 2 1)] H ny
  (fun res H' _ => ∃ sx sy s2 cs2, res = .val (.agg [.lit (.bool false), .lit (.string bEmpty), .lit (.string bEmpty), .own 808 sx 2 5, .own 815 sy 1 1]) ∧ H' = mkOn H [(802, ⟨s2, 36, 5, 1, cs2⟩), (808, ⟨sx, 38, 5, 2, flat cClaim exCl⟩), (815, ⟨sy, 50, 1, 1, [.own nt st 2 1]⟩)]) := by
 refine acallI_of 800 Tryz.func74 rfl (by decide) (N := 18) rfl (by simp) (Rl := [.cell 2 36]) rfl fun en k0 => ?_
 refine awN ?_
 simp only [(id F32), seval, cRat]
 repeat refine ob ?_
 have h60 := aIntQ 60 (by decide) (by decide)
 have h40 := aIntQ 40 (by decide) (by decide)
 simp only [cRat] at h60 h40
 refine awN ?_
 simp only [(id F32), seval, cRat]
 repeat refine ob ?_
 refine ⟨_, h60, rfl, ?_⟩
 try unfold Later
 try simp only [(id F32), seval, cRat]
 repeat refine ob ?_
 refine ⟨_, h40, rfl, ?_⟩
 try unfold Later
 try simp only [(id F32), seval, cRat]
 repeat refine ob ?_
 refine awN ?_
 simp only [(id F32), seval, cRat]
 repeat refine ob ?_
 refine ⟨by obtain ⟨B, hB, hs⟩ := hnt; have := hbH nt B hB; exact ⟨B, by (repeat rw [if_neg (by omega)]); exact hB, hs⟩, ?_⟩
 refine awT ?_
 refine awN ?_
 simp only [(id F32), seval, cRat]
 repeat refine ob ?_
 refine awN ?_
 simp only [(id F32), seval, cRat]
 repeat refine ob ?_
 refine awp_on H [2] [802, 808, 815] (by intro y B h; right; have h9 := hbH y B h; simp only [up_apply]; (repeat rw [if_neg (by omega)]); exact h) ?_
 simp only [(id F32), seval]
 refine awX ?_
 simp only [(id F32), seval]
 exact ⟨_, _, _, _, rfl, rfl⟩
end Go.Proofs.YtokmkopihhnggaaGreatDoor
