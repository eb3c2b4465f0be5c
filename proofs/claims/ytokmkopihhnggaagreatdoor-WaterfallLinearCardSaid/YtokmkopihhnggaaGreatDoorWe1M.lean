/- Sums of numbers, the builder of an estate; walked by the abstract machine. -/
import Derived.Test.YtokmkopihhnggaaGreatDoorWq1M
import Derived.Test.YtokmkopihhnggaaGreatDoorAbUM
import Derived.Test.YtokmkopihhnggaaGreatDoorGu4M
import Derived.Test.YtokmkopihhnggaaGreatDoorOw4M
import Derived.Test.YtokmkopihhnggaaGreatDoorWp4M
import Derived.Test.YtokmkopihhnggaaGreatDoorWp7M
set_option linter.unusedVariables false
set_option linter.unusedSimpArgs false
set_option linter.defProp false
namespace Go.Proofs.YtokmkopihhnggaaGreatDoor
open Go Go.RowKit
def F34 := And.intro zS (And.intro tf109 (And.intro tf110 (And.intro tf122 (And.intro tf111 (And.intro tf112 (And.intro tf75 (And.intro tf86 (tf130))))))))
set_option maxRecDepth 100000 in
set_option maxHeartbeats 4000000 in
theorem est_A (c : Nat) (list : List N4) (pools : List N3) (hc : c < 65536) (hls : ∀ x ∈ list, x.a < 65536 ∧ x.b < 65536 ∧ x.c < 65536 ∧ x.d < 65536) (hps : ∀ p ∈ pools, p.a < 65536 ∧ p.b < 65536 ∧ p.c < 65536) (hl1 : list.length ≤ 9223372036854775807) (hp1 : pools.length ≤ 9223372036854775807) : ACall Tryz.prog 29 [.one (.lit (.int .u16 c)), .one (.sh 4 list.length (flat cN4 list)), .one (.sh 3 pools.length (flat cN3 pools))] (.val (.agg (cEst (estN c list pools)))) := by
 refine acall_of Tryz.func29 rfl (by decide) (N := 15) rfl (by simp) (R := [.cell 6 36]) rfl fun en k0 => ?_
 refine awN ?_
 simp only [(id F34), seval]
 repeat refine ob ?_
 have hes : (grpN 0 [c] list pools []).ests = [estN c list pools] := estN_list c list pools
 have hG := group_A 0 [c] list pools [] (by decide) (by simpa using hc) hls hps (by simp) (by simp) hl1 hp1 (by simp)
 generalize hgr : grpN 0 [c] list pools [] = gr at *
 have hfe : flat cEst [estN c list pools] = cEst (estN c list pools) ++ [] := rfl
 simp only [cEst, List.cons_append, List.nil_append] at hfe
 simp only [cGrp, hes, List.length_cons, List.length_nil, hfe] at hG
 refine awR [11] [none, none, none, none, none, none, none, none, none] ?_
 simp only [(id F34), seval, cEst, cGrp]
 repeat refine ob ?_
 refine ⟨_, acallI_give (nm := 8) hG (by simp [allA, pure1, pureCs, pureC, A1.cells, flat_pure cClaim_pure, flat_pure cAgr_pure, flat_pure cDebt_pure]) (by simp [pure1, pureCs, pureC, A1.cells, flat_pure cN4_pure, flat_pure cN3_pure, flat_pure cU16_pure]) (fun e σ w vs hW hx hd => ?_), ?_⟩
 ·
  obtain ⟨v1, vs1, rfl, d1, hd1⟩ := den1s_cons hd
  obtain ⟨v2, vs2, rfl, d2, hd2⟩ := den1s_cons hd1
  obtain ⟨v3, vs3, rfl, d3, hd3⟩ := den1s_cons hd2
  obtain ⟨v4, vs4, rfl, d4, hd4⟩ := den1s_cons hd3
  obtain ⟨v5, vs5, rfl, d5, hd5⟩ := den1s_cons hd4
  exact ⟨den1_ext hx d1, own_give (B := ⟨1, 57, 1, 1, flat cU16 [c]⟩) hW d2 (by rfl) rfl (by show (1 : Nat) ≠ 0; decide), den1_ext hx d3, den1_ext hx d4, den_nilsh 3 (den1_ext (a := .one (.lit (.slice none 0 0))) hx d5), (by cases vs5 with | nil => exact trivial | cons v vs => exact hd5.elim)⟩
 rintro res H' nx' ⟨rfl, rfl, rfl⟩
 simp only [(id F34), seval, (id SD)]
 repeat refine ob ?_
 refine awX ?_
 simp only [(id F34), seval]
 try rfl
 try exact ⟨flat_pure cClaim_pure _, flat_pure cAgr_pure _⟩
theorem mPos_enc {m : Rat} (h : 0 ≤ m) : mPos (enc m) = m := by
 unfold mPos qmax
 rw [qOf_enc]
 split <;> grind
theorem getD_el {l : List Rat} {i : Nat} (h : i < l.length) : l.getD i 0 = l[i] := by rw [List.getD_eq_getElem?_getD, List.getElem?_eq_getElem h]; rfl
structure grP (e : GEst) (g : List Rat) (i k : Nat) (hi : i < e.claims.length) (hk : k < e.claims.length) (hgi : i < g.length) (hgk : k < g.length) : Prop where
 nn : ¬ qSgn g[i] < 0
 le : ¬ 0 < qCmp g[i] (qOf e.claims[i].amount)
 sen : e.claims[i].rank < e.claims[k].rank → 0 < qSgn g[k] → g[i] = qOf e.claims[i].amount
 par : e.claims[i].rank = e.claims[k].rank → g[i] * qOf e.claims[k].amount = g[k] * qOf e.claims[i].amount
theorem wPools_B {L : WL} {K Sm M Z G K2 S2 Z2 : Nat} (hB : delB L K Sm M Z G K2 S2 Z2) {g : List Rat} (hg : ∀ x ∈ g, qB G x) (h0 : 0 < G) : ∀ (ps : List WPool) (R : WR) (w : Nat), (∀ p ∈ ps, p ∈ L.pools) → R.B (G + w * (Z2 + 1)) → (wPools g ps R).B (G + (w + pSum ps) * (Z2 + 1))
 | [], R, w, _, h => by simpa [wPools, pSum] using h
 | p :: ps, R, w, hp, h => by
  have hpp := hB.pl p (hp p (by simp))
  have hpz := hB.pz p (hp p (by simp))
  have h1 := (wPay_B hpp.1 (wTot_B hg h0 p.1) h).mono (n := G + (w + wN p.2) * (Z2 + 1)) (by
   have h7 : wN p.2 * (K2 + (1 + p.1.length * (G + 1) + p.2.length * (S2 + 1)) + S2 + 1) ≤ wN p.2 * (Z2 + 1) := Nat.mul_le_mul_left _ (by omega)
   rw [Nat.add_mul]
   omega)
  have h2 := wPools_B hB hg h0 ps _ _ (fun q hq => hp q (by simp [hq])) h1
  rw [wPools, pSum_cons, ← Nat.add_assoc]
  exact h2
theorem wDel_B {L : WL} {K Sm M Z G K2 S2 Z2 : Nat} (hB : delB L K Sm M Z G K2 S2 Z2) {m : Rat} (hm : qB M m) (h0 : 0 < G) : (wDel L m).B (G + pSum L.pools * (Z2 + 1)) := by
 have hg := wGross_B hB hm
 have h1 : (⟨wTake L.pools (wGross L m), 0⟩ : WR).B (G + 0 * (Z2 + 1)) := ⟨fun x hx => (wTake_B h0 L.pools _ hg x hx).mono (by omega), qB_zero.mono (by omega)⟩
 have h2 := wPools_B hB hg h0 L.pools _ 0 (fun _ h => h) h1
 rw [Nat.zero_add] at h2
 exact h2
theorem pSum_le {e : GEst} (h : wcOK e) : ∀ l : List GAgr, (∀ a ∈ l, a ∈ e.agrs) → pSum (l.map (wPool e.claims)) ≤ l.length * 600
 | [], _ => Nat.le_refl _
 | a :: l, hl => by
  have h1 := pSum_le h l fun x hx => hl x (by simp [hx])
  have ha := hl a (by simp)
  have h2 : wN (wPool e.claims a).2 = pN a + (mem a).length := by
   show wN ((wTiers a _).2 ++ [wLast _ _]) = _
   rw [wN_app, (wTiers_len a _).2]
   simp [wN, wLast]
  have h3 : pN a ≤ 576 := by rw [pN_flat]; exact (h.ag a ha).2.2.1
  have h4 := (h.mi a ha).2
  have h5 := h.n
  rw [List.map_cons, pSum_cons, h2, List.length_cons]
  omega
def kD (M : Nat) : Nat := kG 6 1 M + 1200 * (kY 6 1 M + 1)
theorem delN_B {e : GEst} {M : Nat} (hI : eIn e 1 M 6 2) (h0 : wcSpec e = 0) {m : Rat} (hm : qB M m) : (wDel (wLay e) m).B (kD M) := by
 have hW := wc_ok h0
 refine (wDel_B (wc_delB hW hI.s hI.k0 hI.hnc hI.nc2 hI.hna hI.b) hm (by unfold kG; omega)).mono ?_
 have h1 := pSum_le hW e.agrs fun _ h => h
 have h2 : pSum (wLay e).pools ≤ 1200 := by
  have := hI.hna
  show pSum (e.agrs.map (wPool e.claims)) ≤ 1200
  omega
 have h3 : pSum (wLay e).pools * (kY 6 1 M + 1) ≤ 1200 * (kY 6 1 M + 1) := Nat.mul_le_mul_right _ h2
 unfold kD
 omega
def ipP (c : Int) : List GPart → Bool
 | [] => false
 | p :: l => if p.claim = c then true else ipP c l
def ipT (c : Int) : List (List GPart) → Bool
 | [] => false
 | t :: l => if ipP c t = true then true else ipT c l
def ipA (c : Int) : List GAgr → Bool
 | [] => false
 | a :: l => if ipT c a = true then true else ipA c l
structure dlP (e : GEst) (l g : List Rat) (i : Nat) (hi : i < e.claims.length) (hl : i < l.length) (hg : i < g.length) : Prop where
 nn : ¬ qSgn l[i] < 0
 le : ¬ 0 < qCmp l[i] (qOf e.claims[i].amount)
 out : ipA (i : Int) e.agrs = false → l[i] = g[i]
structure dlQ (l g : Rat) (ip : Bool) (a : GClaim) : Prop where
 nn : ¬ qSgn l < 0
 le : ¬ 0 < qCmp l (qOf a.amount)
 out : ip = false → l = g
def wSlope (l : List WT) (m rate : Rat) (R : WR) : WR := wShare l (wSplit l m).1 rate R
def wSlpA : List WT → Rat → Rat → Int → Rat
 | [], _, _, _ => 0
 | t :: l, m, r, i => if m < wSum t then r / wSum t * wAt i t else wSlpA l (m - wSum t) r i
theorem wSlope_nil (m r : Rat) (R : WR) : wSlope [] m r R = R := by simp [wSlope, wSplit, wShare]
theorem wSlope_cons (t : WT) (l : List WT) (m r : Rat) (R : WR) : wSlope (t :: l) m r R = if m < wSum t then wPut (r / wSum t) t R else wSlope l (m - wSum t) r R := by
 unfold wSlope
 by_cases h : m < wSum t
 ·simp only [wSplit, h, if_true]
  unfold wShare
  rw [if_pos (by simp)]
  rfl
 simp only [wSplit, h, if_false]
 unfold wShare
 simp only [List.length_cons, Nat.add_lt_add_iff_right, List.getD_cons_succ]
theorem wSlope_len (l : List WT) (m r : Rat) (R : WR) : (wSlope l m r R).cl.length = R.cl.length := wShare_len _ _ _ _
theorem wSlope_get (i : Int) (hi : i = -1 ∨ 0 ≤ i) : ∀ (l : List WT) (m r : Rat) (R : WR), (∀ t ∈ l, wIn R.cl.length t) → (wSlope l m r R).get i = R.get i + wSlpA l m r i
 | [], m, r, R, _ => by rw [wSlope_nil, wSlpA]; grind
 | t :: l, m, r, R, h => by
  rw [wSlope_cons, wSlpA]
  split
  ·rw [wPut_get _ i hi t R (h t (by simp))]
  exact wSlope_get i hi l (m - wSum t) r R fun x hx => h x (by simp [hx])
theorem wSlope_all : ∀ (l : List WT) (m r : Rat) (R : WR), 0 ≤ m → wNN l → (∀ t ∈ l, wIn R.cl.length t) → (wSlope l m r R).all = R.all + if m < wCap l then r else 0
 | [], m, r, R, hm, _, _ => by
  have h1 : ¬ m < wCap [] := by rw [wCap]; grind
  rw [wSlope_nil, if_neg h1]; grind
 | t :: l, m, r, R, hm, hn, h => by
  have hc := wCap_nn l fun x hx => hn x (by simp [hx])
  have hs := wSum_nn t (hn t (by simp))
  rw [wSlope_cons, wCap]
  split
  ·rename_i h1
   rw [wPut_all _ t R (h t (by simp)), div_mul_self (by grind), if_pos (by grind)]
  rename_i h1
  rw [wSlope_all l (m - wSum t) r R (by grind) (fun x hx => hn x (by simp [hx])) fun x hx => h x (by simp [hx])]
  by_cases h2 : m < wSum t + wCap l
  ·rw [if_pos h2, if_pos (by grind)]
  rw [if_neg h2, if_neg (by grind)]
theorem div_nn {a b : Rat} (ha : 0 ≤ a) (hb : 0 < b) : 0 ≤ a / b := by
 rw [Rat.div_def]
 have h2 := Rat.inv_pos.2 hb
 exact Rat.mul_nonneg ha (by grind)
theorem wSlpA_nn (i : Int) : ∀ (l : List WT) (m r : Rat), 0 ≤ m → 0 ≤ r → wNN l → 0 ≤ wSlpA l m r i
 | [], _, _, _, _, _ => by simp [wSlpA]
 | t :: l, m, r, hm, hr, hn => by
  rw [wSlpA]
  split
  ·exact Rat.mul_nonneg (div_nn hr (by grind)) (wAt_nn i t (hn t (by simp)))
  exact wSlpA_nn i l (m - wSum t) r (by grind) hr fun x hx => hn x (by simp [hx])
theorem wSlpA_scale (i : Int) : ∀ (l : List WT) (m r : Rat), wSlpA l m r i = r * wSlpA l m 1 i
 | [], _, _ => by simp [wSlpA]
 | t :: l, m, r => by
  rw [wSlpA, wSlpA]
  split
  ·rw [Rat.div_def, Rat.div_def]; grind
  exact wSlpA_scale i l (m - wSum t) r
theorem wSlpA_none (i : Int) : ∀ (l : List WT) (m r : Rat), (∀ t ∈ l, wAt i t = 0) → wSlpA l m r i = 0
 | [], _, _, _ => rfl
 | t :: l, m, r, h => by
  rw [wSlpA, h t (by simp), wSlpA_none i l _ r fun x hx => h x (by simp [hx])]
  split <;> grind
theorem wSlpA_full (i : Int) : ∀ (l : List WT) (m r : Rat), 0 ≤ m → wNN l → wPayA l m i = wAts i l → wSlpA l m r i = 0
 | [], _, _, _, _, _ => rfl
 | t :: l, m, r, hm, hn, h => by
  have ha := wAt_nn i t (hn t (by simp))
  have hs := wAts_nn i l fun x hx => hn x (by simp [hx])
  rw [wPayA, wAts] at h
  rw [wSlpA]
  split
  ·rename_i h1
   rw [if_pos h1] at h
   have hp : 0 < wSum t := by grind
   have h2 : m / wSum t * wAt i t * wSum t = (wAt i t + wAts i l) * wSum t := by rw [h]
   have h3 : m / wSum t * wAt i t * wSum t = m * wAt i t := by
    have := div_mul_self (m := m) hp
    calc m / wSum t * wAt i t * wSum t = (m / wSum t * wSum t) * wAt i t := by grind
     _ = m * wAt i t := by rw [this]
   have h4 := Rat.mul_nonneg hs (show 0 ≤ wSum t by grind)
   have h5 : (wSum t - m) * wAt i t ≤ 0 := by grind
   have h6 : wAt i t = 0 := by
    apply Classical.byContradiction
    intro hne
    have h7 : 0 < wAt i t := by grind
    have h8 : 0 < (wSum t - m) * wAt i t := Rat.mul_pos (by grind) h7
    grind
   rw [h6]; grind
  rename_i h1
  rw [if_neg h1] at h
  exact wSlpA_full i l (m - wSum t) r (by grind) (fun x hx => hn x (by simp [hx])) (by grind)
abbrev wOpen (l : List WT) (m : Rat) : Prop := (wSplit l m).1 < l.length
def wGap (l : List WT) (m : Rat) : Rat := wSum (l.getD (wSplit l m).1 []) - (wSplit l m).2
def wGapA : List WT → Rat → Rat
 | [], _ => 0
 | t :: l, m => if m < wSum t then wSum t - m else wGapA l (m - wSum t)
theorem wOpen_cons (t : WT) (l : List WT) (m : Rat) : wOpen (t :: l) m ↔ m < wSum t ∨ wOpen l (m - wSum t) := by
 unfold wOpen
 by_cases h : m < wSum t
 ·simp [wSplit, h]
 simp [wSplit, h]
theorem wOpen_iff : ∀ (l : List WT) (m : Rat), 0 ≤ m → wNN l → (wOpen l m ↔ m < wCap l)
 | [], m, hm, _ => by
  have h1 : ¬ m < wCap [] := by rw [wCap]; grind
  simp [wOpen, wSplit, h1]
 | t :: l, m, hm, hn => by
  have hc := wCap_nn l fun x hx => hn x (by simp [hx])
  rw [wOpen_cons, wCap]
  by_cases h : m < wSum t
  ·simp only [h, true_or, true_iff]; grind
  rw [wOpen_iff l (m - wSum t) (by grind) fun x hx => hn x (by simp [hx])]
  constructor
  ·rintro (h1 | h1)
   ·exact absurd h1 h
   grind
  intro h1
  exact .inr (by grind)
theorem wGap_A : ∀ (l : List WT) (m : Rat), wOpen l m → wGap l m = wGapA l m
 | [], m, h => absurd h (by simp [wOpen, wSplit])
 | t :: l, m, h => by
  by_cases h1 : m < wSum t
  ·simp [wGap, wGapA, wSplit, h1]
  have h2 : wOpen l (m - wSum t) := by
   rcases (wOpen_cons t l m).1 h with h | h
   ·exact absurd h h1
   exact h
  have h3 := wGap_A l (m - wSum t) h2
  simp only [wGap, wGapA, wSplit, h1, if_false, List.getD_cons_succ] at h3 ⊢
  exact h3
theorem wGapA_pos : ∀ (l : List WT) (m : Rat), wOpen l m → 0 < wGapA l m
 | [], m, h => absurd h (by simp [wOpen, wSplit])
 | t :: l, m, h => by
  rw [wGapA]
  split
  ·grind
  rename_i h1
  refine wGapA_pos l _ ?_
  rcases (wOpen_cons t l m).1 h with h | h
  ·exact absurd h h1
  exact h
theorem wGapA_cap : ∀ (l : List WT) (m : Rat), 0 ≤ m → wNN l → wOpen l m → m + wGapA l m ≤ wCap l
 | [], m, _, _, h => absurd h (by simp [wOpen, wSplit])
 | t :: l, m, hm, hn, h => by
  have hc := wCap_nn l fun x hx => hn x (by simp [hx])
  rw [wGapA, wCap]
  split
  ·grind
  rename_i h1
  have h2 : wOpen l (m - wSum t) := by
   rcases (wOpen_cons t l m).1 h with h | h
   ·exact absurd h h1
   exact h
  have h3 := wGapA_cap l (m - wSum t) (by grind) (fun x hx => hn x (by simp [hx])) h2
  grind
theorem wAt_sum (i : Int) : ∀ (t : WT), (∀ p ∈ t, 0 ≤ p.2) → wAt i t ≤ wSum t
 | [], _ => by simp [wAt, wSum]
 | p :: t, h => by
  have h1 := wAt_sum i t fun x hx => h x (by simp [hx])
  have h2 := h p (by simp)
  rw [wAt, wSum]
  split <;> grind
theorem wPayA_start (i : Int) : ∀ (l : List WT), wNN l → wPayA l 0 i = 0
 | [], _ => rfl
 | t :: l, h => by
  rw [wPayA]
  split
  ·rw [Rat.div_def]; grind
  rename_i h1
  have h2 := wSum_nn t (h t (by simp))
  have h3 := wAt_sum i t (h t (by simp))
  have h4 := wAt_nn i t (h t (by simp))
  have h5 := wPayA_start i l fun x hx => h x (by simp [hx])
  have h6 : wSum t = 0 := by grind
  rw [h6, show (0 : Rat) - 0 = 0 by grind, h5]
  grind
theorem wPayA_lin (i : Int) : ∀ (l : List WT) (m h : Rat), 0 ≤ m → wNN l → 0 ≤ h → (wOpen l m → h ≤ wGapA l m) → wPayA l (m + h) i = wPayA l m i + h * wSlpA l m 1 i
 | [], m, h, _, _, _, _ => by simp only [wPayA, wSlpA]; grind
 | t :: l, m, h, hm, hn, hh, hg => by
  rw [wPayA, wPayA, wSlpA]
  by_cases h1 : m < wSum t
  ·have h2 := hg ((wOpen_cons t l m).2 (.inl h1))
   rw [wGapA, if_pos h1] at h2
   have hp : 0 < wSum t := by grind
   rw [if_pos h1, if_pos h1]
   by_cases h3 : m + h < wSum t
   ·rw [if_pos h3, Rat.div_def, Rat.div_def, Rat.div_def]; grind
   have h4 : m + h = wSum t := by grind
   have h5 := wPayA_start i l fun x hx => hn x (by simp [hx])
   have h6 := div_mul_self (m := (1 : Rat)) hp
   rw [if_neg h3, h4, show wSum t - wSum t = 0 by grind, h5]
   rw [Rat.div_def] at h6 ⊢
   rw [Rat.div_def]
   have h7 : m * (wSum t)⁻¹ * wAt i t + h * (1 * (wSum t)⁻¹ * wAt i t) = (m + h) * (wSum t)⁻¹ * wAt i t := by grind
   rw [h7, h4]
   have h8 : wSum t * (wSum t)⁻¹ = 1 := by grind
   rw [h8]; grind
  have h3 : ¬ m + h < wSum t := by grind
  rw [if_neg h1, if_neg h1, if_neg h3]
  have h4 := wPayA_lin i l (m - wSum t) h (by grind) (fun x hx => hn x (by simp [hx])) hh fun ho => by
   have h5 := hg ((wOpen_cons t l m).2 (.inr ho))
   rw [wGapA, if_neg h1] at h5
   exact h5
  rw [show m + h - wSum t = m - wSum t + h by grind, h4]
  grind
theorem wSplit_mono : ∀ (l : List WT) (m n : Rat), m ≤ n → (wSplit l m).1 ≤ (wSplit l n).1
 | [], _, _, _ => Nat.le_refl _
 | t :: l, m, n, h => by
  by_cases h1 : m < wSum t
  ·simp [wSplit, h1]
  have h2 : ¬ n < wSum t := by grind
  have h3 := wSplit_mono l (m - wSum t) (n - wSum t) (by grind)
  simp only [wSplit, h1, h2, if_false]
  omega
theorem wSplit_adv : ∀ (l : List WT) (m n : Rat), wOpen l m → m + wGapA l m ≤ n → (wSplit l m).1 < (wSplit l n).1
 | [], m, _, h, _ => absurd h (by simp [wOpen, wSplit])
 | t :: l, m, n, h, hn => by
  rw [wGapA] at hn
  by_cases h1 : m < wSum t
  ·rw [if_pos h1] at hn
   have h2 : ¬ n < wSum t := by grind
   simp [wSplit, h1, h2]
  rw [if_neg h1] at hn
  have h3 : wOpen l (m - wSum t) := by
   rcases (wOpen_cons t l m).1 h with h | h
   ·exact absurd h h1
   exact h
  have h4 : m - wSum t + wGapA l (m - wSum t) ≤ n - wSum t := by grind
  have hp := wGapA_pos l _ h3
  have h2 : ¬ n < wSum t := by grind
  have h5 := wSplit_adv l (m - wSum t) (n - wSum t) h3 h4
  simp only [wSplit, h1, h2, if_false]
  omega
theorem wSlpA_closed (i : Int) : ∀ (l : List WT) (m r : Rat), ¬ wOpen l m → wSlpA l m r i = 0
 | [], _, _, _ => rfl
 | t :: l, m, r, h => by
  rw [wOpen_cons] at h
  have h1 : ¬ m < wSum t := fun x => h (.inl x)
  rw [wSlpA, if_neg h1]
  exact wSlpA_closed i l _ r fun x => h (.inr x)
def wRates (L : WL) (m : Rat) : List Rat := (wSlope L.ranks m 1 ⟨List.replicate L.count 0, 0⟩).cl
def wSPools (g k : List Rat) : List WPool → WR → WR
 | [], R => R
 | p :: ps, R => wSPools g k ps (wSlope p.2 (wTot g p.1) (wTot k p.1) R)
def wSlo (L : WL) (m : Rat) : WR := wSPools (wGross L m) (wRates L m) L.pools ⟨wTake L.pools (wRates L m), 0⟩
def wStepP (g k : List Rat) : List WPool → Rat → Rat
 | [], out => out
 | p :: ps, out => wStepP g k ps (if wOpen p.2 (wTot g p.1) ∧ 0 < wTot k p.1 then qmin out (wGap p.2 (wTot g p.1) / wTot k p.1) else out)
def wStep (L : WL) (m : Rat) : Rat := wStepP (wGross L m) (wRates L m) L.pools (wGap L.ranks m)
def wNextF (L : WL) (s : WR) : Nat → Rat → Option Rat
 | 0, _ => none
 | n + 1, m => if wOpen L.ranks m then if (wSlo L (m + wStep L m)).rv = s.rv ∧ (wSlo L (m + wStep L m)).cl = s.cl then wNextF L s n (m + wStep L m) else some (m + wStep L m) else none
def wRem (l : List WT) (m : Rat) : Nat := l.length - (wSplit l m).1
def wRems (g : List Rat) : List WPool → Nat
 | [] => 0
 | p :: ps => wRem p.2 (wTot g p.1) + wRems g ps
def wMu (L : WL) (m : Rat) : Nat := wRem L.ranks m + wRems (wGross L m) L.pools
def wNext (L : WL) (m : Rat) : Option Rat := wNextF L (wSlo L m) (wMu L m + 1) m
theorem wRates_len (L : WL) (m : Rat) : (wRates L m).length = L.count := by
 unfold wRates
 rw [wSlope_len, List.length_replicate]
theorem wSPools_len (g k : List Rat) : ∀ (ps : List WPool) (R : WR), (wSPools g k ps R).cl.length = R.cl.length
 | [], _ => rfl
 | p :: ps, R => by rw [wSPools, wSPools_len g k ps, wSlope_len]
theorem wSlo_len (L : WL) (m : Rat) : (wSlo L m).cl.length = L.count := by
 unfold wSlo
 rw [wSPools_len, wTake_len, wRates_len]
theorem gross_get {e : GEst} (m : Rat) (i : Nat) : (wGross (wLay e) m).getD i 0 = wPayA (wRanks e.claims) m i := by
 have h1 := wPay_get (i : Int) (.inr (by omega)) (wRanks e.claims) m ⟨List.replicate e.claims.length 0, 0⟩ (by simpa using wRanks_in e.claims)
 have h4 : ¬ ((i : Int) = -1) := by omega
 unfold WR.get at h1
 simp only [h4, if_false, Int.toNat_natCast, getD_zero] at h1
 unfold wGross wLay
 rw [h1]; grind
theorem rates_get {e : GEst} (m : Rat) (i : Nat) : (wRates (wLay e) m).getD i 0 = wSlpA (wRanks e.claims) m 1 i := by
 have h1 := wSlope_get (i : Int) (.inr (by omega)) (wRanks e.claims) m 1 ⟨List.replicate e.claims.length 0, 0⟩ (by simpa using wRanks_in e.claims)
 have h4 : ¬ ((i : Int) = -1) := by omega
 unfold WR.get at h1
 simp only [h4, if_false, Int.toNat_natCast, getD_zero] at h1
 unfold wRates wLay
 rw [h1]; grind
theorem rates_len (e : GEst) (m : Rat) : (wRates (wLay e) m).length = e.claims.length := wRates_len _ _
theorem rates_nn {e : GEst} {m : Rat} (h : wEst e.claims) (hm : 0 ≤ m) : rNN (wRates (wLay e) m) := nn_getD fun i => by
 rw [rates_get]
 exact wSlpA_nn _ _ _ _ hm (by decide) (wRanks_nn h.am)
theorem rates_sum {e : GEst} {m : Rat} (h : wEst e.claims) (hm : 0 ≤ m) : rSum (wRates (wLay e) m) = if m < wTotal e.claims then 1 else 0 := by
 have h1 := wSlope_all (wRanks e.claims) m 1 ⟨List.replicate e.claims.length 0, 0⟩ hm (wRanks_nn h.am) (by simpa using wRanks_in e.claims)
 have h2 := wSlope_get (-1) (.inl rfl) (wRanks e.claims) m 1 ⟨List.replicate e.claims.length 0, 0⟩ (by simpa using wRanks_in e.claims)
 rw [wSlpA_none (-1) (wRanks e.claims) m 1 fun t ht => by obtain ⟨r, _, rfl⟩ := wRanks_mem ht; exact wRk_none _ _ _] at h2
 rw [wRanks_cap h.rk] at h1
 unfold WR.all at h1
 unfold WR.get at h2
 simp only [if_true, rSum_zero] at h1 h2
 unfold wRates wLay
 rw [h2] at h1
 grind
theorem gross_lin {e : GEst} {m h : Rat} (he : wEst e.claims) (hm : 0 ≤ m) (hh : 0 ≤ h) (hg : wOpen (wRanks e.claims) m → h ≤ wGapA (wRanks e.claims) m) (i : Nat) : (wGross (wLay e) (m + h)).getD i 0 = (wGross (wLay e) m).getD i 0 + h * (wRates (wLay e) m).getD i 0 := by
 rw [gross_get, gross_get, rates_get]
 exact wPayA_lin i _ m h hm (wRanks_nn he.am) hh hg
theorem wTot_lin {g g' k : List Rat} {h : Rat} (hg : ∀ i : Nat, g'.getD i 0 = g.getD i 0 + h * k.getD i 0) : ∀ M : List Int, wTot g' M = wTot g M + h * wTot k M
 | [] => by simp only [wTot]; grind
 | i :: M => by
  have h1 := wTot_lin hg M
  rw [wTot, wTot, wTot, hg i.toNat, h1]; grind
def wKs (g k : List Rat) (i : Int) : List WPool → Rat
 | [] => 0
 | p :: ps => wSlpA p.2 (wTot g p.1) (wTot k p.1) i + wKs g k i ps
theorem wSPools_get (g k : List Rat) (i : Int) (hi : i = -1 ∨ 0 ≤ i) : ∀ (ps : List WPool) (R : WR), (∀ p ∈ ps, ∀ t ∈ p.2, wIn R.cl.length t) → (wSPools g k ps R).get i = R.get i + wKs g k i ps
 | [], R, _ => by simp only [wSPools, wKs]; grind
 | p :: ps, R, h => by
  have h1 := wSPools_get g k i hi ps (wSlope p.2 (wTot g p.1) (wTot k p.1) R) (by rw [wSlope_len]; exact fun q hq => h q (by simp [hq]))
  rw [wSPools, h1, wSlope_get i hi _ _ _ _ (h p (by simp)), wKs]
  grind
theorem wKs_out {cs : List GClaim} (g k : List Rat) (i : Nat) : ∀ ps : List WPool, (∀ p ∈ ps, pLad cs p) → ¬ inPs i ps → wKs g k i ps = 0
 | [], _, _ => rfl
 | p :: ps, h, hn => by
  have hp := h p (by simp)
  rw [wKs, wKs_out g k i ps (fun q hq => h q (by simp [hq])) fun ⟨q, hq, hi⟩ => hn ⟨q, by simp [hq], hi⟩,
   wSlpA_none _ _ _ _ fun t ht => wAt_none _ t fun x hx e => ?_]
  ·grind
  rcases hp.rin t ht x hx with h1 | h1
  ·omega
  exact hn ⟨p, by simp, by rw [← e]; exact h1⟩
theorem slo_at {e : GEst} {m : Rat} (h : eOK e) (i : Nat) : (¬ inPs i (wLay e).pools → (wSlo (wLay e) m).cl.getD i 0 = (wRates (wLay e) m).getD i 0) ∧ (inPs i (wLay e).pools → (wSlo (wLay e) m).cl.getD i 0 = wKs (wGross (wLay e) m) (wRates (wLay e) m) i (wLay e).pools) := by
 have hl := lay_ok h
 have h1 := wSPools_get (wGross (wLay e) m) (wRates (wLay e) m) (i : Int) (.inr (by omega)) (wLay e).pools ⟨wTake (wLay e).pools (wRates (wLay e) m), 0⟩ fun p hp => pLad_in (hl p hp) (by rw [wTake_len, rates_len])
 have h2 := wTake_get (wLay e).pools (wRates (wLay e) m) i fun p hp j hj => ((hl p hp).inn j hj).1
 have h4 : ¬ ((i : Int) = -1) := by omega
 unfold WR.get at h1
 simp only [h4, if_false, Int.toNat_natCast] at h1
 unfold wSlo
 refine ⟨fun hn => ?_, fun hn => ?_⟩
 ·rw [h1, h2.1 hn, wKs_out _ _ i _ hl hn]; grind
 rw [h1, h2.2 hn]; grind
theorem slo_rv {e : GEst} {m : Rat} (h : eOK e) : (wSlo (wLay e) m).rv = wKs (wGross (wLay e) m) (wRates (wLay e) m) (-1) (wLay e).pools := by
 have hl := lay_ok h
 have h1 := wSPools_get (wGross (wLay e) m) (wRates (wLay e) m) (-1) (.inl rfl) (wLay e).pools ⟨wTake (wLay e).pools (wRates (wLay e) m), 0⟩ fun p hp => pLad_in (hl p hp) (by rw [wTake_len, rates_len])
 unfold WR.get at h1
 simp only [if_true] at h1
 unfold wSlo
 rw [h1]; grind
theorem wTot_full {g a k : List Rat} (h : ∀ i : Nat, g.getD i 0 ≤ a.getD i 0) (hk : ∀ i : Nat, g.getD i 0 = a.getD i 0 → k.getD i 0 = 0) : ∀ M : List Int, wTot a M ≤ wTot g M → wTot k M = 0
 | [], _ => rfl
 | i :: M, hM => by
  have h1 := h i.toNat
  have h2 := wTot_le h M
  rw [wTot, wTot] at hM
  rw [wTot, hk i.toNat (by grind), wTot_full h hk M (by grind)]
  grind
theorem wAts_rk {cs : List GClaim} (h : ∀ c ∈ cs, 0 ≤ c.rank ∧ c.rank ≤ 7) (i : Nat) : wAts (i : Int) (wRanks cs) = (cs.map fun c => qOf c.amount).getD i 0 := by
 have hR : ∀ (n s : Nat), wAts (i : Int) ((List.range' s n).map fun r : Nat => wRk (r : Int) cs 0) = if i < cs.length ∧ (s : Int) ≤ (cs.getD i (⟨0, 0, gZ⟩ : GClaim)).rank ∧ (cs.getD i (⟨0, 0, gZ⟩ : GClaim)).rank < ((s + n : Nat) : Int) then (cs.map fun c => qOf c.amount).getD i 0 else 0 := by
  intro n
  induction n with
  | zero =>
   intro s
   rw [if_neg (by omega)]; rfl
  | succ n ih =>
   intro s
   rw [List.range'_succ, List.map_cons, wAts, ih (s + 1)]
   by_cases hi : i < cs.length
   ·have h1 := wRk_at (s : Int) cs 0 i hi
    rw [Nat.zero_add] at h1
    have h2 : cs.getD i (⟨0, 0, gZ⟩ : GClaim) = cs[i] := by rw [List.getD_eq_getElem?_getD, List.getElem?_eq_getElem hi]; rfl
    rw [h1, h2, am_getD cs i hi]
    by_cases h3 : cs[i].rank = (s : Int)
    ·rw [if_pos h3, if_neg (by omega), if_pos (by omega)]; grind
    rw [if_neg h3]
    by_cases h4 : ((s + 1 : Nat) : Int) ≤ cs[i].rank ∧ cs[i].rank < ((s + 1 + n : Nat) : Int)
    ·rw [if_pos ⟨hi, h4⟩, if_pos (by omega)]; grind
    rw [if_neg (fun h => h4 h.2), if_neg (by omega)]; grind
   rw [if_neg (fun h => hi h.1), if_neg (fun h => hi h.1)]
   have h1 : ∀ p ∈ wRk (s : Int) cs 0, p.1 ≠ (i : Int) := fun p hp => by
    have := wRk_in (s : Int) cs 0 p hp
    omega
   rw [wAt_none _ _ h1]; grind
 unfold wRanks
 rw [List.range_eq_range', hR 8 0]
 by_cases hi : i < cs.length
 ·have h2 : cs.getD i (⟨0, 0, gZ⟩ : GClaim) = cs[i] := by rw [List.getD_eq_getElem?_getD, List.getElem?_eq_getElem hi]; rfl
  have := h _ (List.getElem_mem hi)
  rw [h2, if_pos ⟨hi, by omega⟩]
 rw [if_neg (fun h => hi h.1), getD_out (by simpa using Nat.le_of_not_lt hi)]
theorem rate_full {e : GEst} {m : Rat} (h : eOK e) (hm : 0 ≤ m) {p : WPool} (hp : p ∈ (wLay e).pools) (hc : ¬ wTot (wGross (wLay e) m) p.1 < wCap p.2) : wTot (wRates (wLay e) m) p.1 = 0 := by
 have hlad := lay_ok h p hp
 refine wTot_full (fun i => (gross_bounds h.cl hm i).2) (fun i hi => ?_) p.1 ?_
 ·rw [gross_get, ← wAts_rk h.cl.rk i] at hi
  rw [rates_get]
  exact wSlpA_full _ _ _ _ hm (wRanks_nn h.cl.am) hi
 have hM : (-1 : Int) ∉ p.1 := fun hm => by have := hlad.inn _ hm; omega
 rw [wCap_parts hlad.nd hM p.2 hlad.rin, wAtsM_tot hlad p.1 fun _ h => h] at hc
 have h2 := wAts_nn (-1) p.2 hlad.nn
 grind
theorem wSPools_all {e : GEst} {m : Rat} (h : eOK e) (hm : 0 ≤ m) : ∀ (ps : List WPool) (R : WR), (∀ p ∈ ps, p ∈ (wLay e).pools) → R.cl.length = e.claims.length → (wSPools (wGross (wLay e) m) (wRates (wLay e) m) ps R).all = R.all + wTots (wRates (wLay e) m) ps
 | [], R, _, _ => by simp only [wSPools, wTots]; grind
 | p :: ps, R, hps, hl => by
  have hp := lay_ok h p (hps p (by simp))
  have h1 := wSPools_all h hm ps (wSlope p.2 (wTot (wGross (wLay e) m) p.1) (wTot (wRates (wLay e) m) p.1) R) (fun q hq => hps q (by simp [hq])) (by rw [wSlope_len]; exact hl)
  have h2 := wSlope_all p.2 (wTot (wGross (wLay e) m) p.1) (wTot (wRates (wLay e) m) p.1) R (wTot_nn (gross_nn h.cl hm) p.1) hp.nn (pLad_in hp hl)
  have h3 := rate_full h hm (hps p (by simp))
  rw [wSPools, h1, h2, wTots]
  split
  ·grind
  rw [h3 ‹_›]; grind
theorem slo_sum {e : GEst} {m : Rat} (h : eOK e) (hm : 0 ≤ m) : rSum (wSlo (wLay e) m).cl + (wSlo (wLay e) m).rv = if m < wTotal e.claims then 1 else 0 := by
 have hl := lay_ok h
 have h1 := wSPools_all h hm (wLay e).pools ⟨wTake (wLay e).pools (wRates (wLay e) m), 0⟩ (fun _ h => h) (by rw [wTake_len, rates_len])
 have h2 := wTake_sum (wLay e).pools (wRates (wLay e) m) hl h.ds (rates_len _ _)
 unfold WR.all at h1
 simp only [h2, rates_sum h.cl hm] at h1
 unfold wSlo
 rw [h1]; grind
theorem div_mul_le {a b : Rat} (hb : 0 < b) {s : Rat} (h : s ≤ a / b) : s * b ≤ a := by
 have h1 := Rat.mul_le_mul_of_nonneg_right h (show 0 ≤ b by grind)
 rw [div_mul_self hb] at h1
 exact h1
theorem wStepP_le (g k : List Rat) : ∀ (ps : List WPool) (out : Rat), wStepP g k ps out ≤ out ∧ ∀ p ∈ ps, wOpen p.2 (wTot g p.1) → 0 < wTot k p.1 → wStepP g k ps out * wTot k p.1 ≤ wGap p.2 (wTot g p.1)
 | [], out => ⟨by rw [wStepP]; grind, by simp⟩
 | p :: ps, out => by
  obtain ⟨h1, h2⟩ := wStepP_le g k ps (if wOpen p.2 (wTot g p.1) ∧ 0 < wTot k p.1 then qmin out (wGap p.2 (wTot g p.1) / wTot k p.1) else out)
  rw [wStepP]
  refine ⟨?_, fun q hq ho hr => ?_⟩
  ·refine Rat.le_trans h1 ?_
   split
   ·unfold qmin; split <;> grind
   grind
  rcases List.mem_cons.1 hq with rfl | hq
  ·refine div_mul_le hr (Rat.le_trans h1 ?_)
   rw [if_pos ⟨ho, hr⟩]
   unfold qmin; split <;> grind
  exact h2 q hq ho hr
theorem div_pos {a b : Rat} (ha : 0 < a) (hb : 0 < b) : 0 < a / b := by
 rw [Rat.div_def]
 exact Rat.mul_pos ha (Rat.inv_pos.2 hb)
theorem wStepP_pos (g k : List Rat) : ∀ (ps : List WPool) (out : Rat), 0 < out → 0 < wStepP g k ps out
 | [], out, h => h
 | p :: ps, out, h => by
  rw [wStepP]
  refine wStepP_pos g k ps _ ?_
  split
  ·rename_i h1
   have h0 : 0 < wGap p.2 (wTot g p.1) := by rw [wGap_A _ _ h1.1]; exact wGapA_pos _ _ h1.1
   have h2 := div_pos h0 h1.2
   unfold qmin; split <;> grind
  exact h
theorem wStepP_or (g k : List Rat) : ∀ (ps : List WPool) (out : Rat), wStepP g k ps out = out ∨ ∃ p ∈ ps, wOpen p.2 (wTot g p.1) ∧ 0 < wTot k p.1 ∧ wStepP g k ps out = wGap p.2 (wTot g p.1) / wTot k p.1
 | [], out => .inl rfl
 | p :: ps, out => by
  rw [wStepP]
  rcases wStepP_or g k ps (if wOpen p.2 (wTot g p.1) ∧ 0 < wTot k p.1 then qmin out (wGap p.2 (wTot g p.1) / wTot k p.1) else out) with h | ⟨q, h1, h2⟩
  ·rw [h]
   by_cases h1 : wOpen p.2 (wTot g p.1) ∧ 0 < wTot k p.1
   ·rw [if_pos h1]
    unfold qmin
    split
    ·exact .inr ⟨p, by simp, h1.1, h1.2, rfl⟩
    exact .inl rfl
   rw [if_neg h1]; exact .inl rfl
  exact .inr ⟨q, by simp [h1], h2⟩
def linAt (e : GEst) (m h : Rat) : Prop := (wOpen (wRanks e.claims) m → h ≤ wGapA (wRanks e.claims) m) ∧ ∀ p ∈ (wLay e).pools, wOpen p.2 (wTot (wGross (wLay e) m) p.1) → h * wTot (wRates (wLay e) m) p.1 ≤ wGapA p.2 (wTot (wGross (wLay e) m) p.1)
theorem wPs_lin {cs : List GClaim} {g g' k : List Rat} {h : Rat} (hh : 0 ≤ h) (hg : rNN g) (hk : rNN k) (hl : ∀ i : Nat, g'.getD i 0 = g.getD i 0 + h * k.getD i 0) (i : Int) : ∀ ps : List WPool, (∀ p ∈ ps, pLad cs p) → (∀ p ∈ ps, wOpen p.2 (wTot g p.1) → h * wTot k p.1 ≤ wGapA p.2 (wTot g p.1)) → wPs g' i ps = wPs g i ps + h * wKs g k i ps
 | [], _, _ => by simp only [wPs, wKs]; grind
 | p :: ps, hp, ho => by
  have h1 := wPs_lin hh hg hk hl i ps (fun q hq => hp q (by simp [hq])) fun q hq => ho q (by simp [hq])
  have h2 := wPayA_lin i p.2 (wTot g p.1) (h * wTot k p.1) (wTot_nn hg p.1) (hp p (by simp)).nn (Rat.mul_nonneg hh (wTot_nn hk p.1)) (ho p (by simp))
  rw [wPs, wPs, wKs, wTot_lin hl p.1, h2, h1, wSlpA_scale i p.2 (wTot g p.1) (wTot k p.1)]
  grind
theorem del_lin {e : GEst} {m h : Rat} (he : eOK e) (hm : 0 ≤ m) (hh : 0 ≤ h) (hl : linAt e m h) : (∀ i : Nat, (wDel (wLay e) (m + h)).cl.getD i 0 = (wDel (wLay e) m).cl.getD i 0 + h * (wSlo (wLay e) m).cl.getD i 0) ∧ (wDel (wLay e) (m + h)).rv = (wDel (wLay e) m).rv + h * (wSlo (wLay e) m).rv := by
 have hg := gross_lin he.cl hm hh hl.1
 have hP := fun i => wPs_lin (cs := e.claims) hh (gross_nn he.cl hm) (rates_nn he.cl hm) hg i (wLay e).pools (lay_ok he) hl.2
 refine ⟨fun i => ?_, by rw [del_rv he, del_rv he, slo_rv he]; exact hP (-1)⟩
 obtain ⟨a1, a2⟩ := del_at (m := m) he i
 obtain ⟨b1, b2⟩ := del_at (m := m + h) he i
 obtain ⟨c1, c2⟩ := slo_at (m := m) he i
 by_cases hp : inPs i (wLay e).pools
 ·rw [a2 hp, b2 hp, c2 hp]; exact hP i
 rw [a1 hp, b1 hp, c1 hp]; exact hg i
theorem linAt_step {e : GEst} {m h : Rat} (he : eOK e) (hm : 0 ≤ m) (ho : wOpen (wRanks e.claims) m) (hh : 0 ≤ h) (hs : h ≤ wStep (wLay e) m) : linAt e m h := by
 obtain ⟨h1, h2⟩ := wStepP_le (wGross (wLay e) m) (wRates (wLay e) m) (wLay e).pools (wGap (wRanks e.claims) m)
 have hk := rates_nn he.cl hm
 refine ⟨fun _ => ?_, fun p hp hpo => ?_⟩
 ·rw [wGap_A _ _ ho] at h1
  exact Rat.le_trans hs (by rw [← wGap_A _ _ ho] at *; exact h1)
 have h3 := wTot_nn hk p.1
 by_cases h4 : 0 < wTot (wRates (wLay e) m) p.1
 ·have h5 := h2 p hp hpo h4
  rw [wGap_A _ _ hpo] at h5
  have h6 := Rat.mul_le_mul_of_nonneg_right hs h3
  exact Rat.le_trans h6 h5
 have h5 : wTot (wRates (wLay e) m) p.1 = 0 := by grind
 have h6 := wGapA_pos _ _ hpo
 rw [h5]; grind
theorem rates_closed {e : GEst} {m : Rat} (ho : ¬ wOpen (wRanks e.claims) m) : ∀ M : List Int, wTot (wRates (wLay e) m) M = 0
 | [] => rfl
 | i :: M => by
  rw [wTot, rates_closed ho M, rates_get, wSlpA_closed _ _ _ _ ho]; grind
theorem linAt_end {e : GEst} {m h : Rat} (ho : ¬ wOpen (wRanks e.claims) m) : linAt e m h := by
 refine ⟨fun h => absurd h ho, fun p hp hpo => ?_⟩
 have h6 := wGapA_pos _ _ hpo
 rw [rates_closed ho]; grind
theorem step_pos {e : GEst} {m : Rat} (ho : wOpen (wRanks e.claims) m) : 0 < wStep (wLay e) m := by
 refine wStepP_pos _ _ _ _ ?_
 show 0 < wGap (wRanks e.claims) m
 rw [wGap_A _ _ ho]
 exact wGapA_pos _ _ ho
theorem step_cap {e : GEst} {m : Rat} (h : wEst e.claims) (hm : 0 ≤ m) (ho : wOpen (wRanks e.claims) m) : m + wStep (wLay e) m ≤ wTotal e.claims := by
 have h1 := (wStepP_le (wGross (wLay e) m) (wRates (wLay e) m) (wLay e).pools (wGap (wRanks e.claims) m)).1
 have h2 := wGapA_cap (wRanks e.claims) m hm (wRanks_nn h.am) ho
 rw [wRanks_cap h.rk] at h2
 rw [wGap_A _ _ ho] at h1
 have h3 : wStep (wLay e) m = wStepP (wGross (wLay e) m) (wRates (wLay e) m) (wLay e).pools (wGapA (wRanks e.claims) m) := by
  unfold wStep
  rw [← wGap_A _ _ ho]; rfl
 rw [h3]; grind
theorem wRem_mono (l : List WT) {m n : Rat} (h : m ≤ n) : wRem l n ≤ wRem l m := by
 have := wSplit_mono l m n h
 unfold wRem
 omega
theorem wRem_adv (l : List WT) {m n : Rat} (ho : wOpen l m) (h : m + wGapA l m ≤ n) : wRem l n < wRem l m := by
 have := wSplit_adv l m n ho h
 unfold wRem wOpen at *
 omega
theorem wRems_mono {g g' : List Rat} : ∀ ps : List WPool, (∀ p ∈ ps, wTot g p.1 ≤ wTot g' p.1) → wRems g' ps ≤ wRems g ps ∧ ∀ p ∈ ps, wRem p.2 (wTot g' p.1) < wRem p.2 (wTot g p.1) → wRems g' ps < wRems g ps
 | [], _ => ⟨Nat.le_refl _, by simp⟩
 | p :: ps, h => by
  obtain ⟨h1, h2⟩ := wRems_mono ps fun q hq => h q (by simp [hq])
  have h3 := wRem_mono p.2 (h p (by simp))
  refine ⟨by rw [wRems, wRems]; omega, fun q hq hlt => ?_⟩
  rw [wRems, wRems]
  rcases List.mem_cons.1 hq with rfl | hq
  ·omega
  have := h2 q hq hlt
  omega
theorem mu_step {e : GEst} {m : Rat} (h : eOK e) (hm : 0 ≤ m) (ho : wOpen (wRanks e.claims) m) : wMu (wLay e) (m + wStep (wLay e) m) < wMu (wLay e) m := by
  have hp := step_pos (m := m) ho
  have hmn : m ≤ m + wStep (wLay e) m := by grind
  have hl := linAt_step h hm ho (show 0 ≤ wStep (wLay e) m by grind) (by grind)
  have hg := gross_lin h.cl hm (show 0 ≤ wStep (wLay e) m by grind) hl.1
  have hT := wTot_lin hg
  have h1 := wRem_mono (wLay e).ranks hmn
  obtain ⟨h2, h3⟩ := wRems_mono (g := wGross (wLay e) m) (g' := wGross (wLay e) (m + wStep (wLay e) m)) (wLay e).pools fun p _ => wTot_le (fun i => gross_mono h.cl hm hmn i) p.1
  unfold wMu
  rcases wStepP_or (wGross (wLay e) m) (wRates (wLay e) m) (wLay e).pools (wGap (wRanks e.claims) m) with h4 | ⟨p, k1, k2, k3, k4⟩
  · have h5 : wRem (wLay e).ranks (m + wStep (wLay e) m) < wRem (wLay e).ranks m := wRem_adv (wRanks e.claims) ho (by
      have : wStep (wLay e) m = wGapA (wRanks e.claims) m := by rw [← wGap_A _ _ ho]; exact h4
      rw [this]; grind)
    omega
  have h5 := h3 p k1 (wRem_adv p.2 k2 (by
    have h6 : wStep (wLay e) m * wTot (wRates (wLay e) m) p.1 = wGapA p.2 (wTot (wGross (wLay e) m) p.1) := by
      rw [← wGap_A _ _ k2]
      have : wStep (wLay e) m = wGap p.2 (wTot (wGross (wLay e) m) p.1) / wTot (wRates (wLay e) m) p.1 := k4
      rw [this, div_mul_self k3]
    rw [hT p.1, h6]; grind))
  omega
def linUp (e : GEst) (m d : Rat) : Prop := ∀ h, 0 ≤ h → h ≤ d → (∀ i : Nat, (wDel (wLay e) (m + h)).cl.getD i 0 = (wDel (wLay e) m).cl.getD i 0 + h * (wSlo (wLay e) m).cl.getD i 0) ∧ (wDel (wLay e) (m + h)).rv = (wDel (wLay e) m).rv + h * (wSlo (wLay e) m).rv
theorem linUp_more {e : GEst} {m0 m s : Rat} (he : eOK e) (h0 : 0 ≤ m0) (hm : m0 ≤ m) (hs : (wSlo (wLay e) m).rv = (wSlo (wLay e) m0).rv ∧ (wSlo (wLay e) m).cl = (wSlo (wLay e) m0).cl) (hu : linUp e m0 (m - m0)) (hl : ∀ h, 0 ≤ h → h ≤ s → linAt e m h) : linUp e m0 (m + s - m0) := fun h h1 h2 => by
 by_cases h3 : h ≤ m - m0
 ·exact hu h h1 h3
 obtain ⟨a1, a2⟩ := hu (m - m0) (by grind) (by grind)
 obtain ⟨b1, b2⟩ := del_lin he (show 0 ≤ m by grind) (show 0 ≤ h - (m - m0) by grind) (hl (h - (m - m0)) (by grind) (by grind))
 rw [show m + (h - (m - m0)) = m0 + h by grind, hs.2, hs.1] at *
 rw [show m0 + (m - m0) = m by grind] at a1 a2
 refine ⟨fun i => ?_, ?_⟩
 ·rw [b1 i, a1 i]; grind
 rw [b2, a2]; grind
structure kinkOf (e : GEst) (m y : Rat) : Prop where
 gt : m < y
 le : y ≤ wTotal e.claims
 ne : ¬ ((wSlo (wLay e) y).rv = (wSlo (wLay e) m).rv ∧ (wSlo (wLay e) y).cl = (wSlo (wLay e) m).cl)
 mu : wMu (wLay e) y < wMu (wLay e) m
 lin : linUp e m (y - m)
theorem nextF_spec {e : GEst} {m0 : Rat} (he : eOK e) (h0 : 0 ≤ m0) : ∀ (n : Nat) (m : Rat), m0 ≤ m → wMu (wLay e) m < n → wMu (wLay e) m ≤ wMu (wLay e) m0 → ((wSlo (wLay e) m).rv = (wSlo (wLay e) m0).rv ∧ (wSlo (wLay e) m).cl = (wSlo (wLay e) m0).cl) → linUp e m0 (m - m0) →
  (∀ y, wNextF (wLay e) (wSlo (wLay e) m0) n m = some y → kinkOf e m0 y) ∧ (wNextF (wLay e) (wSlo (wLay e) m0) n m = none → wTotal e.claims ≤ m0)
 | 0, m, _, h, _, _, _ => absurd h (by omega)
 | n + 1, m, hm, hmu, hm0, hs, hl => by
  have hmp : 0 ≤ m := by grind
  by_cases ho : wOpen (wRanks e.claims) m
  ·have hst := mu_step he hmp ho
   have hp := step_pos (m := m) ho
   have hlin := linUp_more he h0 hm hs hl fun h h1 h2 => linAt_step he hmp ho h1 h2
   have ho' : wOpen (wLay e).ranks m := ho
   simp only [wNextF, ho', if_true]
   by_cases hc : (wSlo (wLay e) (m + wStep (wLay e) m)).rv = (wSlo (wLay e) m0).rv ∧ (wSlo (wLay e) (m + wStep (wLay e) m)).cl = (wSlo (wLay e) m0).cl
   ·simp only [hc, and_self, if_true]
    exact nextF_spec he h0 n (m + wStep (wLay e) m) (by grind) (by omega) (by omega) hc hlin
   rw [if_neg hc]
   refine ⟨fun y hy => ?_, fun h => by cases h⟩
   obtain rfl := Option.some.inj hy
   exact ⟨by grind, step_cap he.cl hmp ho, hc, by omega, hlin⟩
  have ho' : ¬ wOpen (wLay e).ranks m := ho
  simp only [wNextF, ho', if_false]
  refine ⟨fun y hy => (by cases hy), fun _ => ?_⟩
  have h1 := slo_sum he hmp
  have h2 := slo_sum he h0
  rw [hs.1, hs.2, h2] at h1
  rw [wOpen_iff _ _ hmp (wRanks_nn he.cl.am), wRanks_cap he.cl.rk] at ho
  rw [if_neg ho] at h1
  apply Classical.byContradiction
  intro hc
  rw [if_pos (by grind)] at h1
  grind
theorem next_some {e : GEst} {m y : Rat} (he : eOK e) (hm : 0 ≤ m) (h : wNext (wLay e) m = some y) : kinkOf e m y :=
 (nextF_spec he hm _ m (by grind) (Nat.lt_succ_self _) (Nat.le_refl _) ⟨rfl, rfl⟩ (fun h h1 h2 => by
  obtain rfl : h = 0 := by grind
  rw [show m + 0 = m by grind]
  refine ⟨fun i => ?_, ?_⟩ <;> grind)).1 y h
theorem next_none {e : GEst} {m : Rat} (he : eOK e) (hm : 0 ≤ m) (h : wNext (wLay e) m = none) : wTotal e.claims ≤ m :=
 (nextF_spec he hm _ m (by grind) (Nat.lt_succ_self _) (Nat.le_refl _) ⟨rfl, rfl⟩ (fun h h1 h2 => by
  obtain rfl : h = 0 := by grind
  rw [show m + 0 = m by grind]
  refine ⟨fun i => ?_, ?_⟩ <;> grind)).2 h
theorem lin_none {e : GEst} {m h : Rat} (he : eOK e) (hm : 0 ≤ m) (hh : 0 ≤ h) (ht : wTotal e.claims ≤ m) : (∀ i : Nat, (wDel (wLay e) (m + h)).cl.getD i 0 = (wDel (wLay e) m).cl.getD i 0 + h * (wSlo (wLay e) m).cl.getD i 0) ∧ (wDel (wLay e) (m + h)).rv = (wDel (wLay e) m).rv + h * (wSlo (wLay e) m).rv := by
 refine del_lin he hm hh (linAt_end ?_)
 rw [wOpen_iff _ _ hm (wRanks_nn he.cl.am), wRanks_cap he.cl.rk]
 grind
theorem wSlope_B {K S A n : Nat} {l : List WT} (h : wOK K S l) (m : Rat) {r : Rat} (hr : qB A r) {R : WR} (hR : R.B n) : (wSlope l m r R).B (n + wN l * (K + (A + S) + 1)) := by
 unfold wSlope wShare
 split
 ·rename_i hk
  have hN := wN_at l _ hk
  have hgd : l.getD (wSplit l m).1 [] = l[(wSplit l m).1] := by rw [List.getD_eq_getElem?_getD, List.getElem?_eq_getElem hk]; rfl
  have hmem : l.getD (wSplit l m).1 [] ∈ l := by rw [hgd]; exact List.getElem_mem hk
  rw [← hgd] at hN
  have h5 := h.2 _ hmem
  generalize l.getD (wSplit l m).1 [] = t at *
  have h6 := wPut_B (z := K + (A + S)) (r / wSum t) t _ _ hR fun p hp => ((h5.2.2 p hp).mul (hr.div h5.2.1))
  have h7 : t.length * (K + (A + S) + 1) ≤ wN l * (K + (A + S) + 1) := Nat.mul_le_mul_right _ (by omega)
  exact h6.mono (by omega)
 exact hR.mono (by omega)
theorem wRates_B0 {L : WL} {K S : Nat} (h : wOK K S L.ranks) (m : Rat) : ∀ x ∈ wRates L m, qB (1 + wN L.ranks * (K + (1 + S) + 1)) x :=
 (wSlope_B h m qB_one (zeros_B L.count)).1
theorem wRates_B {L : WL} {K Sm M Z G K2 S2 Z2 : Nat} (h : delB L K Sm M Z G K2 S2 Z2) (hM : 0 < M) (m : Rat) : ∀ x ∈ wRates L m, qB G x := fun x hx => by
 refine (wRates_B0 h.rk m x hx).mono ?_
 have h2 := h.g
 have h3 := h.z
 have h4 : wN L.ranks * (K + (1 + Sm) + 1) ≤ wN L.ranks * (Z + 1) := Nat.mul_le_mul_left _ (by omega)
 omega
theorem wCap_qB {S : Nat} : ∀ (l : List WT), (∀ t ∈ l, qB S (wSum t)) → qB (1 + l.length * (S + 1)) (wCap l)
 | [], _ => by simpa [wCap] using qB_zero
 | t :: l, h => by
  have h1 := wCap_qB l fun x hx => h x (by simp [hx])
  refine ((h t (by simp)).add h1).mono ?_
  simp only [List.length_cons, Nat.add_mul, Nat.one_mul]
  omega
theorem wSplit_eq : ∀ (l : List WT) (m : Rat), m = wCap (l.take (wSplit l m).1) + (wSplit l m).2
 | [], m => by simp only [wSplit, List.take_nil, wCap]; grind
 | t :: l, m => by
  by_cases h : m < wSum t
  ·simp only [wSplit, h, if_true, List.take_zero, wCap]; grind
  have h1 := wSplit_eq l (m - wSum t)
  simp only [wSplit, h, if_false, List.take_succ_cons, wCap]
  grind
theorem wSplit_base : ∀ (l : List WT) (m : Rat), 0 ≤ m → wNN l → wOpen l m → wSplit l (wCap (l.take (wSplit l m).1)) = ((wSplit l m).1, 0)
 | [], m, _, _, h => absurd h (by simp [wOpen, wSplit])
 | t :: l, m, hm, hn, ho => by
  by_cases h : m < wSum t
  ·have h0 : (0 : Rat) < wSum t := by grind
   simp only [wSplit, h, if_true, List.take_zero, wCap, h0]
  have h2 : wOpen l (m - wSum t) := by
   rcases (wOpen_cons t l m).1 ho with h3 | h3
   ·exact absurd h3 h
   exact h3
  have h1 := wSplit_base l (m - wSum t) (by grind) (fun x hx => hn x (by simp [hx])) h2
  have hc := wCap_nn (l.take (wSplit l (m - wSum t)).1) fun x hx => hn x (by have := List.mem_of_mem_take hx; simp [this])
  simp only [wSplit, h, if_false, List.take_succ_cons, wCap]
  have h3 : ¬ wSum t + wCap (l.take (wSplit l (m - wSum t)).1) < wSum t := by grind
  rw [if_neg h3, show wSum t + wCap (l.take (wSplit l (m - wSum t)).1) - wSum t = wCap (l.take (wSplit l (m - wSum t)).1) by grind, h1]
theorem wCap_take (l : List WT) (k : Nat) (h : k < l.length) : wCap (l.take (k + 1)) = wCap (l.take k) + wSum (l.getD k []) := by
 have hgd : l.getD k [] = l[k] := by rw [List.getD_eq_getElem?_getD, List.getElem?_eq_getElem h]; rfl
 rw [List.take_add_one, List.getElem?_eq_getElem h, wCap_app, hgd]
 simp only [Option.toList, wCap]; grind
theorem wGap_eq (l : List WT) (m : Rat) (h : wOpen l m) : m + wGap l m = wCap (l.take ((wSplit l m).1 + 1)) := by
 have h1 := wSplit_eq l m
 rw [wCap_take l _ h]
 unfold wGap
 grind
theorem kink_form {e : GEst} {m : Rat} (h : wEst e.claims) (hm : 0 ≤ m) (ho : wOpen (wRanks e.claims) m) :
  ∃ B, B = wCap ((wRanks e.claims).take (wSplit (wRanks e.claims) m).1) ∧ wRates (wLay e) m = wRates (wLay e) B ∧ (m + wStep (wLay e) m = wCap ((wRanks e.claims).take ((wSplit (wRanks e.claims) m).1 + 1)) ∨
   ∃ p ∈ (wLay e).pools, ∃ k, m + wStep (wLay e) m = B + (wCap (p.2.take k) - wTot (wGross (wLay e) B) p.1) / wTot (wRates (wLay e) B) p.1) := by
 refine ⟨_, rfl, ?_⟩
 have hn := wRanks_nn h.am
 have hb := wSplit_base _ m hm hn ho
 have he := wSplit_eq (wRanks e.claims) m
 have hB0 := wCap_nn ((wRanks e.claims).take (wSplit (wRanks e.claims) m).1) fun x hx => hn x (List.mem_of_mem_take hx)
 have hp := wSplit_pos (wRanks e.claims) m hm
 generalize hB : wCap ((wRanks e.claims).take (wSplit (wRanks e.claims) m).1) = B at *
 have hr : wRates (wLay e) m = wRates (wLay e) B := by
  show (wShare (wRanks e.claims) (wSplit (wRanks e.claims) m).1 1 _).cl = (wShare (wRanks e.claims) (wSplit (wRanks e.claims) B).1 1 _).cl
  rw [hb]
 refine ⟨hr, ?_⟩
 rcases wStepP_or (wGross (wLay e) m) (wRates (wLay e) m) (wLay e).pools (wGap (wRanks e.claims) m) with h1 | ⟨p, k1, k2, k3, k4⟩
 ·have h2 : wStep (wLay e) m = wGap (wRanks e.claims) m := h1
  exact .inl (by rw [h2]; exact wGap_eq _ _ ho)
 have h2 : wStep (wLay e) m = wGap p.2 (wTot (wGross (wLay e) m) p.1) / wTot (wRates (wLay e) m) p.1 := k4
 refine .inr ⟨p, k1, (wSplit p.2 (wTot (wGross (wLay e) m) p.1)).1 + 1, ?_⟩
 have h3 := wGap_eq _ _ k2
 rw [← h3, h2]
 have hoB : wOpen (wRanks e.claims) B := by
  unfold wOpen
  rw [hb]; exact ho
 have hg := gross_lin (m := B) (h := (wSplit (wRanks e.claims) m).2) h hB0 hp.1 fun _ => by
  have h5 := hp.2 ho
  rw [← wGap_A _ _ hoB]
  unfold wGap
  rw [hb]
  have hgd : (wRanks e.claims).getD (wSplit (wRanks e.claims) m).1 [] = (wRanks e.claims)[(wSplit (wRanks e.claims) m).1]'ho := by rw [List.getD_eq_getElem?_getD, List.getElem?_eq_getElem ho]; rfl
  rw [hgd]; grind
 rw [← he] at hg
 have hT := wTot_lin hg p.1
 rw [← hr] at hT ⊢
 generalize wTot (wRates (wLay e) m) p.1 = κ at *
 generalize wTot (wGross (wLay e) B) p.1 = gB at *
 generalize wGap p.2 (wTot (wGross (wLay e) m) p.1) = gp at *
 generalize wTot (wGross (wLay e) m) p.1 = gm at *
 generalize (wSplit (wRanks e.claims) m).2 = lf at *
 have h6 : (gm + gp - gB) / κ = lf + gp / κ := by
  have h7 : gm + gp - gB = lf * κ + gp := by grind
  rw [h7, Rat.div_def, Rat.div_def, Rat.add_mul]
  have h8 : κ * κ⁻¹ = 1 := Rat.mul_inv_cancel κ (by grind)
  rw [Rat.mul_assoc, h8]; grind
 rw [h6]; grind
def kB (nc K : Nat) : Nat := 1 + 8 * (kS nc K + 1)
def kR (nc K : Nat) : Nat := 1 + nc * (K + (1 + kS nc K) + 1)
def kU (nc K : Nat) : Nat := kB nc K + ((1 + 25 * (kT K + 1)) + (1 + nc * (kG nc K (kB nc K) + 1)) + 1 + (1 + nc * (kR nc K + 1))) + 1
theorem kS_le {e : GEst} (h : wcOK e) {K nc na : Nat} (hs : estS K e) (hK0 : 0 < K) (hnc : e.claims.length ≤ nc) (hnc2 : nc ≤ 24) (hna : e.agrs.length ≤ na)
  (hb : kG nc K (kB nc K) ≤ 40000000 ∧ kY nc K (kB nc K) ≤ 40000000000 ∧ kG nc K (kB nc K) + (na * 600) * (kY nc K (kB nc K) + 1) ≤ 50000000000) {m : Rat} (hm : 0 ≤ m) (ho : wOpen (wRanks e.claims) m) : qB (kU nc K) (m + wStep (wLay e) m) := by
 have hB := wc_delB h hs hK0 hnc hnc2 hna hb
 obtain ⟨B, hBe, hr, hk⟩ := kink_form h.cl hm ho
 have hl8 : (wRanks e.claims).length = 8 := wRanks_len _
 have hcap : ∀ k, qB (kB nc K) (wCap ((wRanks e.claims).take k)) := fun k => by
  have h1 := wCap_qB ((wRanks e.claims).take k) fun t ht => (hB.rk.2 t (List.mem_of_mem_take ht)).2.1
  refine h1.mono ?_
  have h2 : ((wRanks e.claims).take k).length ≤ 8 := by rw [List.length_take]; omega
  have := Nat.mul_le_mul_right (kS nc K + 1) h2
  unfold kB; omega
 have hG0 : 0 < kG nc K (kB nc K) := by unfold kG; omega
 rcases hk with hk | ⟨p, hp, k, hk⟩
 ·rw [hk]
  exact (hcap _).mono (by unfold kU; omega)
 rw [hk]
 have hpn : p.1.length ≤ nc := by
  have e3 : (wLay e).pools = e.agrs.map (wPool e.claims) := rfl
  rw [e3] at hp
  obtain ⟨a, ha, rfl⟩ := List.mem_map.1 hp
  exact Nat.le_trans (h.mi a ha).2 hnc
 have hpl := hB.pl p hp
 have h25 : p.2.length ≤ 25 := by
  have e3 : (wLay e).pools = e.agrs.map (wPool e.claims) := rfl
  rw [e3] at hp
  obtain ⟨a, ha, rfl⟩ := List.mem_map.1 hp
  have e4 : (wPool e.claims a).2.length = a.length + 1 := by show ((wTiers a _).2 ++ [_]).length = _; rw [List.length_append, (wTiers_len a _).1]; rfl
  have := (h.ag a ha).1
  omega
 have c1 : qB (1 + 25 * (kT K + 1)) (wCap (p.2.take k)) := by
  have h1 := wCap_qB (p.2.take k) fun t ht => (hpl.1.2 t (List.mem_of_mem_take ht)).2.1
  refine h1.mono ?_
  have h2 : (p.2.take k).length ≤ 25 := by rw [List.length_take]; omega
  have := Nat.mul_le_mul_right (kT K + 1) h2
  omega
 have hBq : qB (kB nc K) B := by rw [hBe]; exact hcap _
 have c2 : qB (1 + nc * (kG nc K (kB nc K) + 1)) (wTot (wGross (wLay e) B) p.1) := by
  refine (wTot_B (wGross_B hB hBq) hG0 p.1).mono ?_
  have := Nat.mul_le_mul_right (kG nc K (kB nc K) + 1) hpn
  omega
 have c3 : qB (1 + nc * (kR nc K + 1)) (wTot (wRates (wLay e) B) p.1) := by
  have hR : ∀ x ∈ wRates (wLay e) B, qB (kR nc K) x := fun x hx => by
   refine (wRates_B0 hB.rk B x hx).mono ?_
   have h1 : wN (wLay e).ranks ≤ nc := Nat.le_trans (wRanks_N e.claims) hnc
   have := Nat.mul_le_mul_right (K + (1 + kS nc K) + 1) h1
   unfold kR; omega
  refine (wTot_B hR (by unfold kR; omega) p.1).mono ?_
  have := Nat.mul_le_mul_right (kR nc K + 1) hpn
  omega
 refine (hBq.add ((c1.sub c2).div c3)).mono ?_
 unfold kU; omega
end Go.Proofs.YtokmkopihhnggaaGreatDoor
