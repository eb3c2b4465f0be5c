/- Sums of numbers, the builder of an estate; walked by the abstract machine. -/
import Derived.Test.YtmbahnmhicdjfaaGreatDoorPe2M
import Derived.Test.YtmbahnmhicdjfaaGreatDoorAbUM
import Derived.Test.YtmbahnmhicdjfaaGreatDoorWlaM
import Derived.Test.YtmbahnmhicdjfaaGreatDoorGu3M
import Derived.Test.YtmbahnmhicdjfaaGreatDoorOw4M
set_option linter.unusedVariables false
set_option linter.unusedSimpArgs false
set_option linter.defProp false
set_option linter.unnecessarySimpa false
section
/- Sums of numbers, the builder of an estate; walked by the abstract machine. -/
namespace Go.Proofs.YtmbahnmhicdjfaaGreatDoor
open Go Go.RowKit
def F_lEs := And.intro zS (And.intro tf61 (And.intro tf62 (And.intro tf74 (And.intro tf63 (And.intro tf64 (And.intro tf53 (And.intro tf84 (tf130))))))))
set_option maxRecDepth 100000 in
set_option maxHeartbeats 4000000 in
theorem est_A (c : Nat) (list : List N4) (pools : List N3) (hc : c < 65536) (hls : ∀ x ∈ list, x.a < 65536 ∧ x.b < 65536 ∧ x.c < 65536 ∧ x.d < 65536) (hps : ∀ p ∈ pools, p.a < 65536 ∧ p.b < 65536 ∧ p.c < 65536) (hl1 : list.length ≤ 9223372036854775807) (hp1 : pools.length ≤ 9223372036854775807) : ACall Tryz.prog 36 [.one (.lit (.int .u16 c)), .one (.sh 4 list.length (flat cN4 list)), .one (.sh 3 pools.length (flat cN3 pools))] (.val (.agg (cEst (estN c list pools)))) := by
 refine acall_of Tryz.func36 rfl (by decide) (N := 15) rfl (by simp) (R := [.cell 6 36]) rfl fun en k0 => ?_
 refine awR [] [none] ?_
 simp only [(id F_lEs), seval]
 repeat refine ob ?_
 have hes : (grpN 0 [c] list pools []).ests = [estN c list pools] := estN_list c list pools
 have hG := group_A 0 [c] list pools [] (by decide) (by simpa using hc) hls hps (by simp) (by simp) hl1 hp1 (by simp)
 generalize hgr : grpN 0 [c] list pools [] = gr at *
 have hfe : flat cEst [estN c list pools] = cEst (estN c list pools) ++ [] := rfl
 simp only [cEst, List.cons_append, List.nil_append] at hfe
 simp only [cGrp, hes, List.length_cons, List.length_nil, hfe] at hG
 refine awR [11] [none, none, none, none, none, none, none, none, none] ?_
 simp only [(id F_lEs), seval, cEst, cGrp]
 repeat refine ob ?_
 refine ⟨_, acallI_give (nm := 8) hG (by simp [allA, pure1, pureCs, pureC, A1.cells, flat_pure cClaim_pure, flat_pure cAgr_pure, flat_pure cDebt_pure]) (by simp [pure1, pureCs, pureC, A1.cells, flat_pure cN4_pure, flat_pure cN3_pure, flat_pure cU16_pure]) (fun e σ w vs hW hx hd => ?_), ?_⟩
 ·
  obtain ⟨v1, vs1, rfl, d1, hd1⟩ := den1s_cons hd
  obtain ⟨v2, vs2, rfl, d2, hd2⟩ := den1s_cons hd1
  obtain ⟨v3, vs3, rfl, d3, hd3⟩ := den1s_cons hd2
  obtain ⟨v4, vs4, rfl, d4, hd4⟩ := den1s_cons hd3
  obtain ⟨v5, vs5, rfl, d5, hd5⟩ := den1s_cons hd4
  exact ⟨den1_ext hx d1, own_give (B := ⟨1, 57, 1, 1, flat cU16 [c]⟩) hW d2 (by rfl) rfl (by show (1 : Nat) ≠ 0; decide), den1_ext hx d3, den1_ext hx d4, den_nilsh 3 (den1_ext (a := .one (.lit (.slice none 0 0))) hx d5), (by cases vs5 with | nil => exact trivial | cons v vs => exact hd5.elim)⟩
 rintro res H' nx' ⟨rfl, rfl, rfl⟩
 simp only [(id F_lEs), seval, (id SD)]
 repeat refine ob ?_
 refine awX ?_
 simp only [(id F_lEs), seval]
 try rfl
 try exact ⟨flat_pure cClaim_pure _, flat_pure cAgr_pure _⟩
end Go.Proofs.YtmbahnmhicdjfaaGreatDoor
end
section
/- Plain: what the laws of the ranks, pools and tiers say of a built estate. No walk. -/
namespace Go.Proofs.YtmbahnmhicdjfaaGreatDoor
open Go Go.RowKit
theorem mPos_enc {m : Rat} (h : 0 ≤ m) : mPos (enc m) = m := by
  unfold mPos qmax
  rw [qOf_enc]
  split <;> grind
theorem getD_el {l : List Rat} {i : Nat} (h : i < l.length) : l.getD i 0 = l[i] := by rw [List.getD_eq_getElem?_getD, List.getElem?_eq_getElem h]; rfl
theorem sgn_gt (q : Rat) : 0 < qSgn q ↔ 0 < q := by unfold qSgn qCmp; grind
structure grP (e : GEst) (g : List Rat) (i k : Nat) (hi : i < e.claims.length) (hk : k < e.claims.length) (hgi : i < g.length) (hgk : k < g.length) : Prop where
  nn : ¬ qSgn g[i] < 0
  le : ¬ 0 < qCmp g[i] (qOf e.claims[i].amount)
  sen : e.claims[i].rank < e.claims[k].rank → 0 < qSgn g[k] → g[i] = qOf e.claims[i].amount
  par : e.claims[i].rank = e.claims[k].rank → g[i] * qOf e.claims[k].amount = g[k] * qOf e.claims[i].amount
theorem aMulE (p : Rat) (a : GRat) (m n : Nat) (hp : qB m p) (ha : sB n a) (hm0 : 0 < m) (hn0 : 0 < n) (hm : m ≤ 100000000000) (hn : n ≤ 100000000000) : ACall Tryz.prog 40 [.agg (cRat (enc p)), .agg (cRat a)] (.val (.agg (cRat (enc (p * qOf a))))) := by
  have h := aMul (enc p) a m n (sB_enc hp) ha hm hn hm0 hn0
  rwa [qOf_enc] at h
end Go.Proofs.YtmbahnmhicdjfaaGreatDoor
end
section
/- Plain: what is delivered by a built estate: sizes; the claims that are in no agreement. No walk. -/
namespace Go.Proofs.YtmbahnmhicdjfaaGreatDoor
open Go Go.RowKit
theorem wPools_B {L : WL} {K Sm M Z G K2 S2 Z2 : Nat} (hB : delB L K Sm M Z G K2 S2 Z2) {g : List Rat} (hg : ∀ x ∈ g, qB G x) (h0 : 0 < G) : ∀ (ps : List WPool) (R : WR) (w : Nat), (∀ p ∈ ps, p ∈ L.pools) → R.B (G + w * (Z2 + 1)) → (wPools g ps R).B (G + (w + pSum ps) * (Z2 + 1))
  | [], R, w, _, h => by simpa [wPools, pSum] using h
  | p :: ps, R, w, hp, h => by
    have hpp := hB.pl p (hp p (by simp))
    have hpz := hB.pz p (hp p (by simp))
    have h1 := (wPay_B hpp.1 (wTot_B hg h0 p.1) h).mono (n := G + (w + wN p.2) * (Z2 + 1)) (by
      have h7 : wN p.2 * (K2 + (1 + p.1.length * (G + 1) + p.2.length * (S2 + 1)) + S2 + 1) ≤ wN p.2 * (Z2 + 1) := Nat.mul_le_mul_left _ (by omega)
      rw [Nat.add_mul]
      omega)
    have h2 := wPools_B hB hg h0 ps _ _ (fun q hq => hp q (by simp [hq])) h1
    rw [wPools, pSum_cons, ← Nat.add_assoc]
    exact h2
theorem wDel_B {L : WL} {K Sm M Z G K2 S2 Z2 : Nat} (hB : delB L K Sm M Z G K2 S2 Z2) {m : Rat} (hm : qB M m) (h0 : 0 < G) : (wDel L m).B (G + pSum L.pools * (Z2 + 1)) := by
  have hg := wGross_B hB hm
  have h1 : (⟨wTake L.pools (wGross L m), 0⟩ : WR).B (G + 0 * (Z2 + 1)) := ⟨fun x hx => (wTake_B h0 L.pools _ hg x hx).mono (by omega), qB_zero.mono (by omega)⟩
  have h2 := wPools_B hB hg h0 L.pools _ 0 (fun _ h => h) h1
  rw [Nat.zero_add] at h2
  exact h2
theorem pSum_le {e : GEst} (h : wcOK e) : ∀ l : List GAgr, (∀ a ∈ l, a ∈ e.agrs) → pSum (l.map (wPool e.claims)) ≤ l.length * 600
  | [], _ => Nat.le_refl _
  | a :: l, hl => by
    have h1 := pSum_le h l fun x hx => hl x (by simp [hx])
    have ha := hl a (by simp)
    have h2 : wN (wPool e.claims a).2 = pN a + (mem a).length := by
      show wN ((wTiers a _).2 ++ [wLast _ _]) = _
      rw [wN_app, (wTiers_len a _).2]
      simp [wN, wLast]
    have h3 : pN a ≤ 576 := by rw [pN_flat]; exact (h.ag a ha).2.2.1
    have h4 := (h.mi a ha).2
    have h5 := h.n
    rw [List.map_cons, pSum_cons, h2, List.length_cons]
    omega
def kD (M : Nat) : Nat := kG 6 1 M + 1200 * (kY 6 1 M + 1)
theorem delN_B {e : GEst} {M : Nat} (hI : eIn e 1 M 6 2) (h0 : wcSpec e = 0) {m : Rat} (hm : qB M m) : (wDel (wLay e) m).B (kD M) := by
  have hW := wc_ok h0
  refine (wDel_B (wc_delB hW hI.s hI.k0 hI.hnc hI.nc2 hI.hna hI.b) hm (by unfold kG; omega)).mono ?_
  have h1 := pSum_le hW e.agrs fun _ h => h
  have h2 : pSum (wLay e).pools ≤ 1200 := by
    have := hI.hna
    show pSum (e.agrs.map (wPool e.claims)) ≤ 1200
    omega
  have h3 : pSum (wLay e).pools * (kY 6 1 M + 1) ≤ 1200 * (kY 6 1 M + 1) := Nat.mul_le_mul_right _ h2
  unfold kD
  omega
def ipP (c : Int) : List GPart → Bool
  | [] => false
  | p :: l => if p.claim = c then true else ipP c l
def ipT (c : Int) : List (List GPart) → Bool
  | [] => false
  | t :: l => if ipP c t = true then true else ipT c l
def ipA (c : Int) : List GAgr → Bool
  | [] => false
  | a :: l => if ipT c a = true then true else ipA c l
structure dlP (e : GEst) (l g : List Rat) (i : Nat) (hi : i < e.claims.length) (hl : i < l.length) (hg : i < g.length) : Prop where
  nn : ¬ qSgn l[i] < 0
  le : ¬ 0 < qCmp l[i] (qOf e.claims[i].amount)
  out : ipA (i : Int) e.agrs = false → l[i] = g[i]
end Go.Proofs.YtmbahnmhicdjfaaGreatDoor
end
section
/- WaterfallPools: the law's own function; walked by the abstract machine. -/
namespace Go.Proofs.YtmbahnmhicdjfaaGreatDoor
open Go Go.RowKit
theorem aSgnB (q : Rat) (M : Nat) (h : qB M q) (hM : M ≤ 500000000000) : ACall Tryz.prog 39 [.agg (cRat (enc q))] (one (.int .i64 (qSgn q))) := by
  have hs := sB_enc h
  have h := aSign (enc q) (Nat.le_trans hs.1 hM) (Nat.le_trans hs.2 hM)
  rwa [qOf_enc] at h
structure dlQ (l g : Rat) (ip : Bool) (a : GClaim) : Prop where
  nn : ¬ qSgn l < 0
  le : ¬ 0 < qCmp l (qOf a.amount)
  out : ip = false → l = g
end Go.Proofs.YtmbahnmhicdjfaaGreatDoor
end
