/- Sums of numbers, the builder of an estate; walked by the abstract machine. -/
import Derived.Test.YtmbahnmhicdjfaaGreatDoorAbUM
import Derived.Test.YtmbahnmhicdjfaaGreatDoorWlaM
import Derived.Test.YtmbahnmhicdjfaaGreatDoorGu3M
import Derived.Test.YtmbahnmhicdjfaaGreatDoorOw4M
set_option linter.unusedVariables false
set_option linter.unusedSimpArgs false
set_option linter.defProp false
set_option linter.unnecessarySimpa false
section
/- Sums of numbers, the builder of an estate; walked by the abstract machine. -/
namespace Go.Proofs.YtmbahnmhicdjfaaGreatDoor
open Go Go.RowKit
theorem aAdd0Q (p q : Rat) (m n : Nat) (hp : qB m p) (hq : qB n q) (hm : m ≤ 100000000000) (hn : n ≤ 100000000000) : ACall Tryz.prog 95 [.agg (cRat (enc p)), .agg (cRat (enc q))] (.val (.agg (cRat (enc (p + q))))) :=
  acall_flat (fnOK_of Tryz.func95 (by decide) (by kernel_rfl)) [vRat (enc p), vRat (enc q)] (vRat (enc (p + q))) fun w => qadd_any p q m n w hp hq hm hn
def F_wSm := And.intro zS (And.intro tf98 (And.intro tf99 (And.intro tf18 (And.intro tf86 (tf87)))))
set_option maxRecDepth 100000 in
set_option maxHeartbeats 4000000 in
theorem aSumQ (l : List Rat) (n9 : Nat) (hn9 : l.length = n9) (G : Nat) (hG : ∀ x ∈ l, qB G x) (hGb : G ≤ 50000000000) (hl : l.length ≤ 1000000) (hB : 1 + l.length * (G + 1) ≤ 50000000000) : ACall Tryz.prog 43 [.one (.sh 3 n9 (flat cQ l))] (.val (.agg (cRat (enc (rSum l))))) := by
 subst hn9
 refine acall_of Tryz.func43 rfl (by decide) (N := 19) rfl (by simp) (R := [.cell 2 32]) rfl fun en k0 => ?_
 refine awR [] [none] ?_
 simp only [(id F_wSm), seval, cRat]
 repeat refine ob ?_
 refine awR [] [none, none, none] ?_
 simp only [(id F_wSm), seval, cRat]
 repeat refine ob ?_
 refine awp_wk (wk_cells 3 (cRat (enc 0)) (by rfl) (by show (3 : Nat) ≠ 0; decide) (by rfl) (fun κ vs h => by rw [enc0_cells]; exact h)) ?_
 simp only [(id F_wSm), seval]
 refine awR [] [none, none, none] ?_
 simp only [(id F_wSm), seval, cRat]
 repeat refine ob ?_
 have hq0 : qB (1 + 0 * (G + 1)) (0 : Rat) := qB_zero.mono (by omega)
 refine awp_keep [2, 3, 7, 8, 9] [2, 3] ?_
 try unfold Later
 try simp only [(id F_wSm), seval, cRat]
 repeat' first|apply awS|apply awB
 refine awp_loopw (fun n st => ∃ i0 q nx, i0 ≤ l.length ∧ n = l.length - i0 ∧ q + rSum (l.drop i0) = 0 + rSum l ∧ qB (1 + i0 * (G + 1)) q ∧ st = ⟨mkT [(2, .val (.one (.ptr 2 0 0))), (3, .val (.one (.ptr 3 1 0))), (7, .val (.one (.sh 3 l.length (flat cQ l)))), (8, one (.int .i64 l.length)), (9, one (.int .i64 i0))], mkH [(2, ⟨0, 32, 3, 1, [.lit (.bool false), .lit (.string bEmpty), .lit (.string bEmpty)]⟩), (3, ⟨1, 32, 3, 1, cRat (enc q)⟩)], nx, 0⟩) (l.length) ⟨0, 0, _, by omega, by omega, by rfl, (by first | omega | assumption | rfl | simp | (simp; omega)), rfl⟩ ?_
 rintro n0 st ⟨i0, q, nx0, hk0, rfl, hL0, hV0_1, rfl⟩
 by_cases hlt0 : i0 < l.length
 ·
  have hI0 : (i0 : Int) < (l.length : Int) := by omega
  have hat0 := flat_at cQ_len l i0 hlt0
  try rw [Nat.mul_one] at hat0
  rw [List.drop_eq_getElem_cons hlt0] at hL0
  have hGx := hG _ (List.getElem_mem hlt0)
  have hVq := hV0_1
  have hmul : (i0 + 1) * (G + 1) ≤ l.length * (G + 1) := Nat.mul_le_mul_right _ hlt0
  have hmul1 : (i0 + 1) * (G + 1) = i0 * (G + 1) + (G + 1) := Nat.succ_mul _ _
  have hnx := (hVq.add hGx).mono (n := 1 + (i0 + 1) * (G + 1)) (by omega)
  generalize l[i0] = x at *
  simp only [rSum] at hL0
  refine awR [] [none] ?_
  simp only [(id F_wSm), seval, cRat, hI0, hat0]
  repeat refine ob ?_
  refine awT ?_
  refine awK ?_
  simp only [(id F_wSm), seval]
  refine awR [] [none, none, none, none] ?_
  simp only [(id F_wSm), seval, cRat, hI0, hat0, cQ]
  repeat refine ob ?_
  have hCl := aCleanQ x G hGx (by omega)
  have hA := aAdd0Q q x _ G hVq hGx (by omega) (by omega)
  simp only [cRat] at hA hCl
  refine awD (scq [1, 3, 4, 6, 8] .nil) [none, none, none, none, none] ?_
  simp only [(id F_wSm), seval, cRat, hI0, hat0]
  repeat refine ob ?_
  refine ⟨_, hCl, rfl, ?_⟩
  try unfold Later
  try simp only [(id F_wSm), seval, cRat, hI0, hat0]
  repeat refine ob ?_
  refine ⟨_, hA, rfl, ?_⟩
  try unfold Later
  try simp only [(id F_wSm), seval, cRat, hI0, hat0]
  repeat refine ob ?_
  refine awR [] [none, none] ?_
  simp only [(id F_wSm), seval, cRat, hI0, hat0]
  repeat refine ob ?_
  repeat refine ob ?_
  refine ⟨_, wk_keep [2, 3, 7, 8, 9] [2, 3], l.length - (i0 + 1), by omega, i0 + 1, (q + x), ?a7_nx, by omega, rfl, ?i7_0, ?i7_1, ?st7⟩
  case st7 => (simp only [(id F_wSm), seval, cRat, hI0, hat0]; first | rfl | (simp [hI0, hat0, Nat.add_mul]; done))
  case i7_0 => (rw [← hL0]; grind)
  case i7_1 => (first | omega | assumption | (simp; omega) | (simp_all; done))
 obtain rfl : i0 = l.length := by omega
 have hI0 : ¬ (l.length : Int) < (l.length : Int) := by omega
 rw [List.drop_length] at hL0
 simp only [rSum] at hL0
 refine awR [] [none] ?_
 simp only [(id F_wSm), seval, cRat, hI0]
 repeat refine ob ?_
 refine awF ?_
 refine awQ ?_
 simp only [(id F_wSm), seval]
 refine awR [] [none, none] ?_
 simp only [(id F_wSm), seval, cRat, hI0]
 repeat refine ob ?_
 refine awX ?_
 simp only [(id F_wSm), seval]
 have hq9 : q = rSum l := by grind
 simp [hq9, cRat]
def F_lEs := And.intro zS (And.intro tf61 (And.intro tf62 (And.intro tf74 (And.intro tf63 (And.intro tf64 (And.intro tf53 (And.intro tf84 (tf130))))))))
set_option maxRecDepth 100000 in
set_option maxHeartbeats 4000000 in
theorem est_A (c : Nat) (list : List N4) (pools : List N3) (hc : c < 65536) (hls : ∀ x ∈ list, x.a < 65536 ∧ x.b < 65536 ∧ x.c < 65536 ∧ x.d < 65536) (hps : ∀ p ∈ pools, p.a < 65536 ∧ p.b < 65536 ∧ p.c < 65536) (hl1 : list.length ≤ 9223372036854775807) (hp1 : pools.length ≤ 9223372036854775807) : ACall Tryz.prog 36 [.one (.lit (.int .u16 c)), .one (.sh 4 list.length (flat cN4 list)), .one (.sh 3 pools.length (flat cN3 pools))] (.val (.agg (cEst (estN c list pools)))) := by
 refine acall_of Tryz.func36 rfl (by decide) (N := 15) rfl (by simp) (R := [.cell 6 36]) rfl fun en k0 => ?_
 refine awR [] [none] ?_
 simp only [(id F_lEs), seval]
 repeat refine ob ?_
 have hes : (grpN 0 [c] list pools []).ests = [estN c list pools] := estN_list c list pools
 have hG := group_A 0 [c] list pools [] (by decide) (by simpa using hc) hls hps (by simp) (by simp) hl1 hp1 (by simp)
 generalize hgr : grpN 0 [c] list pools [] = gr at *
 have hfe : flat cEst [estN c list pools] = cEst (estN c list pools) ++ [] := rfl
 simp only [cEst, List.cons_append, List.nil_append] at hfe
 simp only [cGrp, hes, List.length_cons, List.length_nil, hfe] at hG
 refine awR [11] [none, none, none, none, none, none, none, none, none] ?_
 simp only [(id F_lEs), seval, cEst, cGrp]
 repeat refine ob ?_
 refine ⟨_, acallI_give (nm := 8) hG (by simp [allA, pure1, pureCs, pureC, A1.cells, flat_pure cClaim_pure, flat_pure cAgr_pure, flat_pure cDebt_pure]) (by simp [pure1, pureCs, pureC, A1.cells, flat_pure cN4_pure, flat_pure cN3_pure, flat_pure cU16_pure]) (fun e σ w vs hW hx hd => ?_), ?_⟩
 ·
  obtain ⟨v1, vs1, rfl, d1, hd1⟩ := den1s_cons hd
  obtain ⟨v2, vs2, rfl, d2, hd2⟩ := den1s_cons hd1
  obtain ⟨v3, vs3, rfl, d3, hd3⟩ := den1s_cons hd2
  obtain ⟨v4, vs4, rfl, d4, hd4⟩ := den1s_cons hd3
  obtain ⟨v5, vs5, rfl, d5, hd5⟩ := den1s_cons hd4
  exact ⟨den1_ext hx d1, own_give (B := ⟨1, 57, 1, 1, flat cU16 [c]⟩) hW d2 (by rfl) rfl (by show (1 : Nat) ≠ 0; decide), den1_ext hx d3, den1_ext hx d4, den_nilsh 3 (den1_ext (a := .one (.lit (.slice none 0 0))) hx d5), (by cases vs5 with | nil => exact trivial | cons v vs => exact hd5.elim)⟩
 rintro res H' nx' ⟨rfl, rfl, rfl⟩
 simp only [(id F_lEs), seval, (id SD)]
 repeat refine ob ?_
 refine awX ?_
 simp only [(id F_lEs), seval]
 try rfl
 try exact ⟨flat_pure cClaim_pure _, flat_pure cAgr_pure _⟩
end Go.Proofs.YtmbahnmhicdjfaaGreatDoor
end
section
/- Plain: what the laws of the ranks, pools and tiers say of a built estate. No walk. -/
namespace Go.Proofs.YtmbahnmhicdjfaaGreatDoor
open Go Go.RowKit
theorem mPos_enc {m : Rat} (h : 0 ≤ m) : mPos (enc m) = m := by
  unfold mPos qmax
  rw [qOf_enc]
  split <;> grind
theorem getD_el {l : List Rat} {i : Nat} (h : i < l.length) : l.getD i 0 = l[i] := by rw [List.getD_eq_getElem?_getD, List.getElem?_eq_getElem h]; rfl
theorem sgn_neg {q : Rat} (h : 0 ≤ q) : ¬ qSgn q < 0 := by unfold qSgn qCmp; grind
theorem cmp_le {p q : Rat} (h : p ≤ q) : ¬ 0 < qCmp p q := by unfold qCmp; grind
structure grP (e : GEst) (g : List Rat) (i k : Nat) (hi : i < e.claims.length) (hk : k < e.claims.length) (hgi : i < g.length) (hgk : k < g.length) : Prop where
  nn : ¬ qSgn g[i] < 0
  le : ¬ 0 < qCmp g[i] (qOf e.claims[i].amount)
  sen : e.claims[i].rank < e.claims[k].rank → 0 < qSgn g[k] → g[i] = qOf e.claims[i].amount
  par : e.claims[i].rank = e.claims[k].rank → g[i] * qOf e.claims[k].amount = g[k] * qOf e.claims[i].amount
theorem aCmpE (p : Rat) (a : GRat) (m n : Nat) (hp : qB m p) (ha : sB n a) (hm0 : 0 < m) (hn0 : 0 < n) (hm : m ≤ 50000000000) (hn : n ≤ 50000000000) : ACall Tryz.prog 44 [.agg (cRat (enc p)), .agg (cRat a)] (one (.int .i64 (qCmp p (qOf a)))) := by
  have h := aCompare (enc p) a m n (sB_enc hp) ha (by omega) (by omega) hm0 hn0
  rwa [qOf_enc] at h
theorem grossN_B {e : GEst} {M : Nat} (hI : eIn e 1 M 6 2) (h0 : wcSpec e = 0) {m : Rat} (hm : qB M m) : ∀ x ∈ wGross (wLay e) m, qB (kG 6 1 M) x :=
  wGross_B (wc_delB (wc_ok h0) hI.s hI.k0 hI.hnc hI.nc2 hI.hna hI.b) hm
end Go.Proofs.YtmbahnmhicdjfaaGreatDoor
end
section
/- Plain: what is delivered by a built estate: sizes; the claims that are in no agreement. No walk. -/
namespace Go.Proofs.YtmbahnmhicdjfaaGreatDoor
open Go Go.RowKit
theorem wPools_B {L : WL} {K Sm M Z G K2 S2 Z2 : Nat} (hB : delB L K Sm M Z G K2 S2 Z2) {g : List Rat} (hg : ∀ x ∈ g, qB G x) (h0 : 0 < G) : ∀ (ps : List WPool) (R : WR) (w : Nat), (∀ p ∈ ps, p ∈ L.pools) → R.B (G + w * (Z2 + 1)) → (wPools g ps R).B (G + (w + pSum ps) * (Z2 + 1))
  | [], R, w, _, h => by simpa [wPools, pSum] using h
  | p :: ps, R, w, hp, h => by
    have hpp := hB.pl p (hp p (by simp))
    have hpz := hB.pz p (hp p (by simp))
    have h1 := (wPay_B hpp.1 (wTot_B hg h0 p.1) h).mono (n := G + (w + wN p.2) * (Z2 + 1)) (by
      have h7 : wN p.2 * (K2 + (1 + p.1.length * (G + 1) + p.2.length * (S2 + 1)) + S2 + 1) ≤ wN p.2 * (Z2 + 1) := Nat.mul_le_mul_left _ (by omega)
      rw [Nat.add_mul]
      omega)
    have h2 := wPools_B hB hg h0 ps _ _ (fun q hq => hp q (by simp [hq])) h1
    rw [wPools, pSum_cons, ← Nat.add_assoc]
    exact h2
theorem wDel_B {L : WL} {K Sm M Z G K2 S2 Z2 : Nat} (hB : delB L K Sm M Z G K2 S2 Z2) {m : Rat} (hm : qB M m) (h0 : 0 < G) : (wDel L m).B (G + pSum L.pools * (Z2 + 1)) := by
  have hg := wGross_B hB hm
  have h1 : (⟨wTake L.pools (wGross L m), 0⟩ : WR).B (G + 0 * (Z2 + 1)) := ⟨fun x hx => (wTake_B h0 L.pools _ hg x hx).mono (by omega), qB_zero.mono (by omega)⟩
  have h2 := wPools_B hB hg h0 L.pools _ 0 (fun _ h => h) h1
  rw [Nat.zero_add] at h2
  exact h2
theorem pSum_le {e : GEst} (h : wcOK e) : ∀ l : List GAgr, (∀ a ∈ l, a ∈ e.agrs) → pSum (l.map (wPool e.claims)) ≤ l.length * 600
  | [], _ => Nat.le_refl _
  | a :: l, hl => by
    have h1 := pSum_le h l fun x hx => hl x (by simp [hx])
    have ha := hl a (by simp)
    have h2 : wN (wPool e.claims a).2 = pN a + (mem a).length := by
      show wN ((wTiers a _).2 ++ [wLast _ _]) = _
      rw [wN_app, (wTiers_len a _).2]
      simp [wN, wLast]
    have h3 : pN a ≤ 576 := by rw [pN_flat]; exact (h.ag a ha).2.2.1
    have h4 := (h.mi a ha).2
    have h5 := h.n
    rw [List.map_cons, pSum_cons, h2, List.length_cons]
    omega
def kD (M : Nat) : Nat := kG 6 1 M + 1200 * (kY 6 1 M + 1)
theorem delN_B {e : GEst} {M : Nat} (hI : eIn e 1 M 6 2) (h0 : wcSpec e = 0) {m : Rat} (hm : qB M m) : (wDel (wLay e) m).B (kD M) := by
  have hW := wc_ok h0
  refine (wDel_B (wc_delB hW hI.s hI.k0 hI.hnc hI.nc2 hI.hna hI.b) hm (by unfold kG; omega)).mono ?_
  have h1 := pSum_le hW e.agrs fun _ h => h
  have h2 : pSum (wLay e).pools ≤ 1200 := by
    have := hI.hna
    show pSum (e.agrs.map (wPool e.claims)) ≤ 1200
    omega
  have h3 : pSum (wLay e).pools * (kY 6 1 M + 1) ≤ 1200 * (kY 6 1 M + 1) := Nat.mul_le_mul_right _ h2
  unfold kD
  omega
def ipP (c : Int) : List GPart → Bool
  | [] => false
  | p :: l => if p.claim = c then true else ipP c l
def ipT (c : Int) : List (List GPart) → Bool
  | [] => false
  | t :: l => if ipP c t = true then true else ipT c l
def ipA (c : Int) : List GAgr → Bool
  | [] => false
  | a :: l => if ipT c a = true then true else ipA c l
theorem ipP_mb (c : Int) : ∀ l, ipP c l = mbT c l
  | [] => rfl
  | p :: l => by
    rw [ipP, mbT, ipP_mb c l]
    by_cases h : p.claim = c <;> simp [h]
theorem ipT_mb (c : Int) : ∀ l, ipT c l = mbA c l
  | [] => rfl
  | t :: l => by
    rw [ipT, mbA, ipT_mb c l, ipP_mb]
    cases mbT c t <;> simp
theorem ipA_out (c : Int) (hc : c ≠ -1) : ∀ l, ipA c l = false → ∀ a ∈ l, c ∉ mem a
  | [], _, _, h => by cases h
  | b :: l, h, a, ha => by
    rw [ipA] at h
    split at h
    · cases h
    rename_i h1
    rcases List.mem_cons.1 ha with rfl | ha
    · intro hm
      exact h1 (by rw [ipT_mb]; exact (mbA_mem a c hc).2 hm)
    exact ipA_out c hc l h a ha
structure dlP (e : GEst) (l g : List Rat) (i : Nat) (hi : i < e.claims.length) (hl : i < l.length) (hg : i < g.length) : Prop where
  nn : ¬ qSgn l[i] < 0
  le : ¬ 0 < qCmp l[i] (qOf e.claims[i].amount)
  out : ipA (i : Int) e.agrs = false → l[i] = g[i]
theorem del_P {e : GEst} {m : Rat} (h : eOK e) (hm : 0 ≤ m) (i : Nat) (hi : i < e.claims.length) (hl : i < (wDel (wLay e) m).cl.length) (hg : i < (wGross (wLay e) m).length) : dlP e (wDel (wLay e) m).cl (wGross (wLay e) m) i hi hl hg := by
  have h1 := del_bounds h hm i
  rw [am_getD _ i hi, getD_el hl] at h1
  refine ⟨sgn_neg h1.1, cmp_le h1.2, fun ho => ?_⟩
  have h2 := (del_at (m := m) h i).1 fun ⟨p, hp, hi⟩ => by
    obtain ⟨a, ha, rfl⟩ := List.mem_map.1 hp
    exact ipA_out _ (by omega) _ ho a ha hi
  rw [getD_el hl, getD_el hg] at h2
  exact h2
end Go.Proofs.YtmbahnmhicdjfaaGreatDoor
end
section
/- WaterfallPools: the law's own function; walked by the abstract machine. -/
namespace Go.Proofs.YtmbahnmhicdjfaaGreatDoor
open Go Go.RowKit
def F_lIp := And.intro zS (And.intro tf1 (And.intro tf20 (And.intro tf6 (And.intro tf2 (And.intro tf23 (And.intro tf0 (And.intro tf8 (And.intro tf30 (And.intro tf9 (And.intro tf10 (And.intro tf31 (And.intro tf3 (And.intro tf33 (And.intro tf11 (And.intro tf12 (And.intro tf35 (tf5)))))))))))))))))
set_option maxRecDepth 100000 in
set_option maxHeartbeats 4000000 in
theorem inPool_A (e : GEst) (c : Int) (hn : e.agrs.length ≤ 1000000) (he : ∀ a ∈ e.agrs, a.length ≤ 1000000 ∧ ∀ t ∈ a, t.length ≤ 1000000) : ACall Tryz.prog 45 [.agg (cEst e), .one (.lit (.int .i64 c))] (one (.bool (ipA c e.agrs))) := by
 refine acall_of Tryz.func45 rfl (by decide) (N := 38) rfl (by simp) (R := [.tmp 4]) rfl fun en k0 => ?_
 refine awR [] [none, none] ?_
 simp only [(id F_lIp), seval, cEst]
 repeat refine ob ?_
 refine awR [] [none, none, none, none] ?_
 simp only [(id F_lIp), seval, cEst]
 repeat refine ob ?_
 refine awp_keep [1, 2, 12, 13, 14] [2] ?_
 try unfold Later
 try simp only [(id F_lIp), seval, cEst]
 repeat' first|apply awS|apply awB
 refine awp_loopw (fun n st => ∃ k0 nx, k0 ≤ e.agrs.length ∧ n = e.agrs.length - k0 ∧ ipA c (e.agrs.drop k0) = ipA c e.agrs ∧ st = ⟨mkT [(1, one (.int .i64 c)), (2, .val (.one (.ptr 2 0 0))), (12, .val (.one (.sh 1 e.agrs.length (flat cAgr e.agrs)))), (13, one (.int .i64 e.agrs.length)), (14, one (.int .i64 k0))], mkH [(2, ⟨0, 36, 5, 1, cEst e⟩)], nx, 0⟩) (e.agrs.length) ⟨0, _, by omega, by omega, by rfl, rfl⟩ ?_
 rintro n0 st ⟨k0, nx0, hk0, rfl, hL0, rfl⟩
 by_cases hlt0 : k0 < e.agrs.length
 ·
  have hI0 : (k0 : Int) < (e.agrs.length : Int) := by omega
  have hat0 := flat_at cAgr_len e.agrs k0 hlt0
  try rw [Nat.mul_one] at hat0
  rw [List.drop_eq_getElem_cons hlt0] at hL0
  have hA := he _ (List.getElem_mem hlt0)
  generalize e.agrs[k0] = a at *
  simp only [ipA] at hL0
  refine awR [] [none] ?_
  simp only [(id F_lIp), seval, cEst, hI0, hat0]
  repeat refine ob ?_
  refine awT ?_
  refine awK ?_
  simp only [(id F_lIp), seval]
  refine awR [] [none, none, none, none] ?_
  simp only [(id F_lIp), seval, cEst, hI0, hat0, cAgr]
  repeat refine ob ?_
  refine awR [] [none, none, none, none] ?_
  simp only [(id F_lIp), seval, cEst, hI0, hat0, cAgr]
  repeat refine ob ?_
  refine awp_keep [1, 2, 12, 13, 14, 19, 20, 21] [2] ?_
  try unfold Later
  try simp only [(id F_lIp), seval, cEst, hI0, hat0]
  repeat' first|apply awS|apply awB
  refine awp_loopw (fun n st => ∃ k1 nx, k1 ≤ a.length ∧ n = a.length - k1 ∧ ipT c (a.drop k1) = ipT c a ∧ st = ⟨mkT [(1, one (.int .i64 c)), (2, .val (.one (.ptr 2 0 0))), (12, .val (.one (.sh 1 e.agrs.length (flat cAgr e.agrs)))), (13, one (.int .i64 e.agrs.length)), (14, one (.int .i64 k0)), (19, .val (.one (.sh 1 a.length (flat cTier a)))), (20, one (.int .i64 a.length)), (21, one (.int .i64 k1))], mkH [(2, ⟨0, 36, 5, 1, cEst e⟩)], nx, 0⟩) (a.length) ⟨0, _, by omega, by omega, by rfl, rfl⟩ ?_
  rintro n1 st ⟨k1, nx1, hk1, rfl, hL1, rfl⟩
  by_cases hlt1 : k1 < a.length
  ·
   have hI1 : (k1 : Int) < (a.length : Int) := by omega
   have hat1 := flat_at cTier_len a k1 hlt1
   try rw [Nat.mul_one] at hat1
   rw [List.drop_eq_getElem_cons hlt1] at hL1
   have hn3 := hA.2 _ (List.getElem_mem hlt1)
   generalize a[k1] = t at *
   simp only [ipT] at hL1
   refine awR [] [none] ?_
   simp only [(id F_lIp), seval, cEst, hI0, hat0, hI1, hat1]
   repeat refine ob ?_
   refine awT ?_
   refine awK ?_
   simp only [(id F_lIp), seval]
   refine awR [] [none, none, none] ?_
   simp only [(id F_lIp), seval, cEst, hI0, hat0, hI1, hat1, cTier]
   repeat refine ob ?_
   refine awR [] [none, none, none] ?_
   simp only [(id F_lIp), seval, cEst, hI0, hat0, hI1, hat1]
   repeat refine ob ?_
   refine awp_keep [1, 2, 12, 13, 14, 19, 20, 21, 25, 26, 27] [2] ?_
   try unfold Later
   try simp only [(id F_lIp), seval, cEst, hI0, hat0, hI1, hat1]
   repeat' first|apply awS|apply awB
   refine awp_loopw (fun n st => ∃ k2 nx, k2 ≤ t.length ∧ n = t.length - k2 ∧ ipP c (t.drop k2) = ipP c t ∧ st = ⟨mkT [(1, one (.int .i64 c)), (2, .val (.one (.ptr 2 0 0))), (12, .val (.one (.sh 1 e.agrs.length (flat cAgr e.agrs)))), (13, one (.int .i64 e.agrs.length)), (14, one (.int .i64 k0)), (19, .val (.one (.sh 1 a.length (flat cTier a)))), (20, one (.int .i64 a.length)), (21, one (.int .i64 k1)), (25, .val (.one (.sh 5 t.length (flat cPart t)))), (26, one (.int .i64 t.length)), (27, one (.int .i64 k2))], mkH [(2, ⟨0, 36, 5, 1, cEst e⟩)], nx, 0⟩) (t.length) ⟨0, _, by omega, by omega, by rfl, rfl⟩ ?_
   rintro n2 st ⟨k2, nx2, hk2, rfl, hL2, rfl⟩
   by_cases hlt2 : k2 < t.length
   ·
    have hI2 : (k2 : Int) < (t.length : Int) := by omega
    have hat2 := flat_at cPart_len t k2 hlt2
    try rw [Nat.mul_one] at hat2
    rw [List.drop_eq_getElem_cons hlt2] at hL2
    generalize t[k2] = p at *
    simp only [ipP] at hL2
    refine awR [] [none] ?_
    simp only [(id F_lIp), seval, cEst, hI0, hat0, hI1, hat1, hI2, hat2]
    repeat refine ob ?_
    refine awT ?_
    refine awK ?_
    simp only [(id F_lIp), seval]
    refine awR [] [none, none, none, none] ?_
    simp only [(id F_lIp), seval, cEst, hI0, hat0, hI1, hat1, hI2, hat2, cPart]
    repeat refine ob ?_
    by_cases h1 : p.claim = c
    ·
     refine awR [] [none, none, none, none] ?_
     simp only [(id F_lIp), seval, cEst, hI0, hat0, hI1, hat1, hI2, hat2, h1, cPart]
     repeat refine ob ?_
     refine awT ?_
     refine awR [] [none] ?_
     simp only [(id F_lIp), seval, cEst, hI0, hat0, hI1, hat1, hI2, hat2, h1]
     repeat refine ob ?_
     refine awX ?_
     (first | (simp only [(id F_lIp), seval, cEst, hI0, hat0, hI1, hat1, hI2, hat2, h1, ← hL0, ← hL1, ← hL2]; done) | (simp only [(id F_lIp), seval, cEst]; first | (simp [hI0, hat0, hI1, hat1, hI2, hat2, h1, ← hL0, ← hL1, ← hL2]; done) | (simp [hI0, hat0, hI1, hat1, hI2, hat2, h1]; done) | (rw [← hL0, ← hL1, ← hL2]; simp [hI0, hat0, hI1, hat1, hI2, hat2, h1]; done)))
    refine awR [] [none, none, none, none] ?_
    simp only [(id F_lIp), seval, cEst, hI0, hat0, hI1, hat1, hI2, hat2, h1, cPart]
    repeat refine ob ?_
    refine awF ?_
    refine awK ?_
    simp only [(id F_lIp), seval]
    refine awR [] [none, none] ?_
    simp only [(id F_lIp), seval, cEst, hI0, hat0, hI1, hat1, hI2, hat2, h1]
    repeat refine ob ?_
    repeat refine ob ?_
    refine ⟨_, wk_keep [1, 2, 12, 13, 14, 19, 20, 21, 25, 26, 27] [2], t.length - (k2 + 1), by omega, k2 + 1, ?a15_nx, by omega, rfl, ?i15_0, ?st15⟩
    case st15 => (simp only [(id F_lIp), seval, cEst, hI0, hat0, hI1, hat1, hI2, hat2, h1]; first | rfl | (simp [hI0, hat0, hI1, hat1, hI2, hat2, h1, Nat.add_mul]; done))
    case i15_0 => (first | exact hL2 | (rw [← hL2]; simp only [reduceIte, hI0, hat0, hI1, hat1, hI2, hat2, h1]; done) | (rw [← hL2]; simp [hI0, hat0, hI1, hat1, hI2, hat2, h1]; done) | (simp [hI0, hat0, hI1, hat1, hI2, hat2, h1] at hL2; simpa using hL2) | (rw [← hL2]; simp [*]; done))
   obtain rfl : k2 = t.length := by omega
   have hI2 : ¬ (t.length : Int) < (t.length : Int) := by omega
   rw [List.drop_length] at hL2
   simp only [ipP] at hL2
   refine awR [] [none] ?_
   simp only [(id F_lIp), seval, cEst, hI0, hat0, hI1, hat1, hI2]
   repeat refine ob ?_
   refine awF ?_
   refine awQ ?_
   simp only [(id F_lIp), seval]
   refine awR [] [none, none] ?_
   simp only [(id F_lIp), seval, cEst, hI0, hat0, hI1, hat1, hI2]
   repeat refine ob ?_
   repeat refine ob ?_
   refine ⟨_, wk_keep [1, 2, 12, 13, 14, 19, 20, 21] [2], a.length - (k1 + 1), by omega, k1 + 1, ?a18_nx, by omega, rfl, ?i18_0, ?st18⟩
   case st18 => (simp only [(id F_lIp), seval, cEst, hI0, hat0, hI1, hat1, hI2]; first | rfl | (simp [hI0, hat0, hI1, hat1, hI2, Nat.add_mul]; done))
   case i18_0 => (first | exact hL1 | (rw [← hL1]; simp [hI0, hat0, hI1, hat1, hI2, ← hL2]; done) | (rw [← hL1]; simp only [reduceIte, hI0, hat0, hI1, hat1, hI2]; done) | (rw [← hL1]; simp [hI0, hat0, hI1, hat1, hI2]; done) | (simp [hI0, hat0, hI1, hat1, hI2] at hL1; simpa using hL1) | (rw [← hL1]; simp [*]; done))
  obtain rfl : k1 = a.length := by omega
  have hI1 : ¬ (a.length : Int) < (a.length : Int) := by omega
  rw [List.drop_length] at hL1
  simp only [ipT] at hL1
  refine awR [] [none] ?_
  simp only [(id F_lIp), seval, cEst, hI0, hat0, hI1]
  repeat refine ob ?_
  refine awF ?_
  refine awQ ?_
  simp only [(id F_lIp), seval]
  refine awR [] [none, none] ?_
  simp only [(id F_lIp), seval, cEst, hI0, hat0, hI1]
  repeat refine ob ?_
  repeat refine ob ?_
  refine ⟨_, wk_keep [1, 2, 12, 13, 14] [2], e.agrs.length - (k0 + 1), by omega, k0 + 1, ?a21_nx, by omega, rfl, ?i21_0, ?st21⟩
  case st21 => (simp only [(id F_lIp), seval, cEst, hI0, hat0, hI1]; first | rfl | (simp [hI0, hat0, hI1, Nat.add_mul]; done))
  case i21_0 => (first | exact hL0 | (rw [← hL0]; simp [hI0, hat0, hI1, ← hL1]; done) | (rw [← hL0]; simp only [reduceIte, hI0, hat0, hI1]; done) | (rw [← hL0]; simp [hI0, hat0, hI1]; done) | (simp [hI0, hat0, hI1] at hL0; simpa using hL0) | (rw [← hL0]; simp [*]; done))
 obtain rfl : k0 = e.agrs.length := by omega
 have hI0 : ¬ (e.agrs.length : Int) < (e.agrs.length : Int) := by omega
 rw [List.drop_length] at hL0
 simp only [ipA] at hL0
 refine awR [] [none] ?_
 simp only [(id F_lIp), seval, cEst, hI0]
 repeat refine ob ?_
 refine awF ?_
 refine awQ ?_
 simp only [(id F_lIp), seval]
 refine awR [] [none] ?_
 simp only [(id F_lIp), seval, cEst, hI0]
 repeat refine ob ?_
 refine awX ?_
 (first | (simp only [(id F_lIp), seval, cEst, hI0, ← hL0]; done) | (simp only [(id F_lIp), seval, cEst]; first | (simp [hI0, ← hL0]; done) | (simp [hI0]; done) | (rw [← hL0]; simp [hI0]; done)))
theorem aSgnB (q : Rat) (M : Nat) (h : qB M q) (hM : M ≤ 500000000000) : ACall Tryz.prog 39 [.agg (cRat (enc q))] (one (.int .i64 (qSgn q))) := by
  have hs := sB_enc h
  have h := aSign (enc q) (Nat.le_trans hs.1 hM) (Nat.le_trans hs.2 hM)
  rwa [qOf_enc] at h
theorem rSum_B {G : Nat} : ∀ {l : List Rat}, (∀ x ∈ l, qB G x) → l.length ≤ 6 → qB (1 + 6 * (G + 1)) (rSum l) := fun {l} h hn => by
  have h1 : ∀ l : List Rat, (∀ x ∈ l, qB G x) → qB (1 + l.length * (G + 1)) (rSum l) := by
    intro l
    induction l with
    | nil => intro _; simpa [rSum] using qB_zero
    | cons x l ih =>
      intro h
      refine ((h x (by simp)).add (ih fun y hy => h y (by simp [hy]))).mono ?_
      simp only [List.length_cons, Nat.add_mul, Nat.one_mul]; omega
  refine (h1 l h).mono ?_
  have := Nat.mul_le_mul_right (G + 1) hn
  omega
structure dlQ (l g : Rat) (ip : Bool) (a : GClaim) : Prop where
  nn : ¬ qSgn l < 0
  le : ¬ 0 < qCmp l (qOf a.amount)
  out : ip = false → l = g
theorem dlQ_of {e : GEst} {l g : List Rat} {i : Nat} {hi : i < e.claims.length} {hl : i < l.length} {hg : i < g.length} (h : dlP e l g i hi hl hg) : dlQ l[i] g[i] (ipA (i : Int) e.agrs) e.claims[i] := ⟨h.nn, h.le, h.out⟩
def F_lWP := And.intro zS (And.intro tf21 (And.intro tf98 (And.intro tf24 (And.intro tf99 (And.intro tf27 (And.intro tf29 (And.intro tf32 (And.intro tf34 (And.intro tf53 (And.intro tf18 (And.intro tf36 (And.intro tf84 (tf87)))))))))))))
set_option maxRecDepth 100000 in
set_option maxHeartbeats 4000000 in
theorem lWP_A (list : List N4) (pools : List N3) (money : Nat) (hls : okSl okN4 list) (hps : okSl okN3 pools) (hm : money < 65536) : ACall Tryz.prog 9 [.one (.sh 4 list.length (flat cN4 list)), .one (.sh 3 pools.length (flat cN3 pools)), .one (.lit (.int .u16 money))] (one (.bool true)) := by
 have hl1 : list.length ≤ 9223372036854775807 := Nat.le_trans hls.1 (by decide)
 have hp1 : pools.length ≤ 9223372036854775807 := Nat.le_trans hps.1 (by decide)
 refine acall_of Tryz.func9 rfl (by decide) (N := 113) rfl (by simp) (R := [.tmp 6]) rfl fun en k0 => ?_
 refine awR [] [none] ?_
 simp only [(id F_lWP), seval, cEst, cRat]
 repeat refine ob ?_
 have hE := est_A 0 list pools (by decide) hls.2 hps.2 hl1 hp1
 have hI := estN_in 0 list pools (M := 1) (by decide) (by decide)
 have h0 := estN_wc 0 list pools
 have heo := estN_eok 0 list pools
 have hcn := (estN_ok 0 list pools).2.2.1
 have hen := (estN_ok 0 list pools).1.1
 have hea := (estN_ok 0 list pools).1.2
 generalize estN 0 list pools = e at *
 simp only [cEst] at hE
 refine awR [] [none, none, none, none, none] ?_
 simp only [(id F_lWP), seval, cEst, cRat, flat_pure cClaim_pure, flat_pure cAgr_pure, flat_pure cN4_pure, flat_pure cN3_pure, flat_pure cQ_pure]
 repeat refine ob ?_
 refine ⟨_, hE, (by first | rfl | simp [allA, pure1, pureCs, pureC, A1.cells, flat_pure cQ_pure, flat_pure cClaim_pure, flat_pure cAgr_pure]), ?_⟩
 try unfold Later
 try simp only [(id F_lWP), seval, cEst, cRat, flat_pure cClaim_pure, flat_pure cAgr_pure, flat_pure cN4_pure, flat_pure cN3_pure, flat_pure cQ_pure]
 repeat refine ob ?_
 have hAm := aAmount money hm
 have hmB := amt_qB money
 have hm0 := amt_nonneg money
 generalize qAmt money = m at *
 simp only [cRat] at hAm
 refine awR [] [none, none, none, none] ?_
 simp only [(id F_lWP), seval, cEst, cRat]
 repeat refine ob ?_
 refine ⟨_, hAm, (by first | rfl | simp [allA, pure1, pureCs, pureC, A1.cells, flat_pure cQ_pure, flat_pure cClaim_pure, flat_pure cAgr_pure]), ?_⟩
 try unfold Later
 try simp only [(id F_lWP), seval, cEst, cRat]
 repeat refine ob ?_
 have hG := wGross_A e (enc m) 1 1 6 2 hI (sB_enc hmB)
 rw [mPos_enc hm0] at hG
 simp only [grR, h0, if_true, cEst, cRat] at hG
 refine awR [] [none, none, none, none, none, none, none, none] ?_
 simp only [(id F_lWP), seval, cEst, cRat, flat_pure cClaim_pure, flat_pure cAgr_pure, flat_pure cN4_pure, flat_pure cN3_pure, flat_pure cQ_pure]
 repeat refine ob ?_
 refine ⟨_, hG, (by first | rfl | simp [allA, pure1, pureCs, pureC, A1.cells, flat_pure cQ_pure, flat_pure cClaim_pure, flat_pure cAgr_pure]), ?_⟩
 try unfold Later
 try simp only [(id F_lWP), seval, cEst, cRat, flat_pure cClaim_pure, flat_pure cAgr_pure, flat_pure cN4_pure, flat_pure cN3_pure, flat_pure cQ_pure]
 repeat refine ob ?_
 have hD := wDeliver_A e (enc m) 1 1 6 2 hI (sB_enc hmB)
 rw [mPos_enc hm0] at hD
 simp only [dlR, h0, if_true, cEst, cRat] at hD
 have hgl := gross_len e m
 have hdl : (wDel (wLay e) m).cl.length = e.claims.length := wDel_len _ _
 have hgB := grossN_B hI h0 hmB
 have hdB := delN_B hI h0 hmB
 have hds := del_sum (m := m) heo hm0
 have hrv := del_rv_nn (m := m) heo hm0
 have hdP := del_P (m := m) heo hm0
 generalize wGross (wLay e) m = g at *
 obtain ⟨l, rv, hlr⟩ : ∃ l rv, wDel (wLay e) m = ⟨l, rv⟩ := ⟨_, _, rfl⟩
 rw [hlr] at hD hdl hdB hds hrv
 simp only [hlr] at hdP
 simp only at hD hdl hdB hds hrv
 refine awR [] [none, none, none, none, none, none, none, none, none, none, none] ?_
 simp only [(id F_lWP), seval, cEst, cRat, flat_pure cClaim_pure, flat_pure cAgr_pure, flat_pure cN4_pure, flat_pure cN3_pure, flat_pure cQ_pure]
 repeat refine ob ?_
 refine ⟨_, hD, (by first | rfl | simp [allA, pure1, pureCs, pureC, A1.cells, flat_pure cQ_pure, flat_pure cClaim_pure, flat_pure cAgr_pure]), ?_⟩
 try unfold Later
 try simp only [(id F_lWP), seval, cEst, cRat, flat_pure cClaim_pure, flat_pure cAgr_pure, flat_pure cN4_pure, flat_pure cN3_pure, flat_pure cQ_pure]
 repeat refine ob ?_
 have hSg := aSgnB rv _ hdB.2 (by decide)
 simp only [cRat] at hSg
 have hrn : ¬ qSgn rv < 0 := sgn_neg hrv
 have hS1 := aSumQ l e.claims.length hdl (kD 1) hdB.1 (by decide) (by omega) (by have h9 : kD 1 = 872021696 := rfl; rw [h9]; omega)
 have hS2 := aSumQ g e.claims.length hgl (kG 6 1 1) hgB (by decide) (by omega) (by have h9 : kG 6 1 1 = 896 := rfl; rw [h9]; omega)
 have hA := aAddQ (rSum l) rv _ _ (rSum_B hdB.1 (show l.length ≤ 6 by omega)) hdB.2 (by decide) (by decide)
 rw [hds] at hA
 have q1 := EqOK_ratW (enc (rSum g))
 have q2 := eqVs_ratW (enc (rSum g))
 simp only [cRat] at hS1 hS2 hA
 refine awD (scq [1, 3, 5, 7, 9, 11, 13, 15, 17, 19, 21, 23, 25, 27, 29, 31, 33, 35, 37, 39, 41, 43, 45, 47, 48, 51, 53, 55, 57, 61, 65, 58, 62, 66, 69, 71] .nil) [none, none, none, some (36, false), some (36, false), none, none, some (40, false), some (40, false), some (40, false), some (40, false), some (40, false), some (40, false), none, none, some (48, false), some (48, false), some (48, false), some (48, false), some (48, false), some (48, false), none, none, some (56, false), some (56, false), some (56, false), none, none, some (61, false), some (61, false), some (61, false), some (61, false), some (61, false), some (61, false), some (61, false), none] ?_
 simp only [(id F_lWP), seval, cEst, cRat, flat_pure cClaim_pure, flat_pure cAgr_pure, flat_pure cN4_pure, flat_pure cN3_pure, flat_pure cQ_pure, q1, q2, hrn]
 repeat refine ob ?_
 refine ⟨_, hSg, (by first | rfl | simp [allA, pure1, pureCs, pureC, A1.cells, flat_pure cQ_pure, flat_pure cClaim_pure, flat_pure cAgr_pure]), ?_⟩
 try unfold Later
 try simp only [(id F_lWP), seval, cEst, cRat, flat_pure cClaim_pure, flat_pure cAgr_pure, flat_pure cN4_pure, flat_pure cN3_pure, flat_pure cQ_pure, q1, q2, hrn]
 repeat refine ob ?_
 refine ⟨_, hS1, (by first | rfl | simp [allA, pure1, pureCs, pureC, A1.cells, flat_pure cQ_pure, flat_pure cClaim_pure, flat_pure cAgr_pure]), ?_⟩
 try unfold Later
 try simp only [(id F_lWP), seval, cEst, cRat, flat_pure cClaim_pure, flat_pure cAgr_pure, flat_pure cN4_pure, flat_pure cN3_pure, flat_pure cQ_pure, q1, q2, hrn]
 repeat refine ob ?_
 refine ⟨_, hA, (by first | rfl | simp [allA, pure1, pureCs, pureC, A1.cells, flat_pure cQ_pure, flat_pure cClaim_pure, flat_pure cAgr_pure]), ?_⟩
 try unfold Later
 try simp only [(id F_lWP), seval, cEst, cRat, flat_pure cClaim_pure, flat_pure cAgr_pure, flat_pure cN4_pure, flat_pure cN3_pure, flat_pure cQ_pure, q1, q2, hrn]
 repeat refine ob ?_
 refine ⟨_, hS2, (by first | rfl | simp [allA, pure1, pureCs, pureC, A1.cells, flat_pure cQ_pure, flat_pure cClaim_pure, flat_pure cAgr_pure]), ?_⟩
 try unfold Later
 try simp only [(id F_lWP), seval, cEst, cRat, flat_pure cClaim_pure, flat_pure cAgr_pure, flat_pure cN4_pure, flat_pure cN3_pure, flat_pure cQ_pure, q1, q2, hrn]
 repeat refine ob ?_
 refine awF ?_
 refine awK ?_
 simp only [(id F_lWP), seval]
 refine awR [] [none, none, none, none] ?_
 simp only [(id F_lWP), seval, cEst, cRat]
 repeat refine ob ?_
 refine awp_keep [7, 9, 11, 71, 72, 73] [7] ?_
 try unfold Later
 try simp only [(id F_lWP), seval, cEst, cRat]
 repeat' first|apply awS|apply awB
 refine awp_loopw (fun n st => ∃ i0 nx, i0 ≤ e.claims.length ∧ n = e.claims.length - i0 ∧ st = ⟨mkT [(7, .val (.one (.ptr 7 0 0))), (9, .val (.one (.sh 3 e.claims.length (flat cQ g)))), (11, .val (.one (.sh 3 e.claims.length (flat cQ l)))), (71, .val (.one (.sh 5 e.claims.length (flat cClaim e.claims)))), (72, one (.int .i64 e.claims.length)), (73, one (.int .i64 i0))], mkH [(7, ⟨0, 36, 5, 1, cEst e⟩)], nx, 0⟩) (e.claims.length) ⟨0, _, by omega, by omega, rfl⟩ ?_
 rintro n0 st ⟨i0, nx0, hk0, rfl, rfl⟩
 by_cases hlt0 : i0 < e.claims.length
 ·
  have hI0 : (i0 : Int) < (e.claims.length : Int) := by omega
  have hat0 := flat_at cClaim_len e.claims i0 hlt0
  try rw [Nat.mul_one] at hat0
  have hig : i0 < g.length := by omega
  have hil : i0 < l.length := by omega
  have hatg := flat_at cQ_len g i0 hig
  have hatl := flat_at cQ_len l i0 hil
  simp only [cQ, cRat] at hatg hatl
  have hd := dlQ_of (hdP i0 hlt0 hil hig)
  have hx0s := (hcn _ (List.getElem_mem hlt0)).1
  have hnn := hd.nn
  have hle := hd.le
  generalize e.claims[i0] = x0 at *
  refine awR [] [none] ?_
  simp only [(id F_lWP), seval, cEst, cRat, hI0, hat0]
  repeat refine ob ?_
  refine awT ?_
  refine awK ?_
  simp only [(id F_lWP), seval]
  refine awR [] [none, none, none, none, none, none] ?_
  simp only [(id F_lWP), seval, cEst, cRat, hI0, hat0, cClaim]
  repeat refine ob ?_
  by_cases hip : ipA (i0 : Int) e.agrs = true
  ·
   have hSg := aSgnB l[i0] _ (hdB.1 _ (List.getElem_mem hil)) (by decide)
   simp only [cRat] at hSg
   have hCm := aCmpE l[i0] x0.amount _ _ (hdB.1 _ (List.getElem_mem hil)) hx0s (by decide) (by decide) (by decide) (by decide)
   simp only [cRat] at hCm
   have hIp := inPool_A e i0 (by omega) (fun a ha => ⟨by have := (hea.2 a ha).1; omega, fun t ht => by have := (hea.2 a ha).2 t ht; omega⟩)
   simp only [cEst] at hIp
   refine awD (scq [1, 3, 5, 7, 8, 11, 13, 15, 17, 19, 21, 23, 25, 26, 29, 31, 33, 35, 37, 38, 41, 43, 45, 47, 49, 51, 53, 55, 57, 59, 61, 63, 65] .nil) [none, none, none, none, none, none, none, some (84, false), some (84, false), some (84, false), some (84, false), some (84, false), some (84, false), some (84, false), some (84, false), none, none, some (94, false), some (94, false), some (94, false), some (94, false), some (94, false), some (99, true), some (99, true), some (99, true), some (99, true), some (99, true), some (99, true), some (99, true), some (99, true), some (99, true), some (94, false), none] ?_
   simp only [(id F_lWP), seval, cEst, cRat, hI0, hat0, hip, flat_pure cClaim_pure, flat_pure cAgr_pure, flat_pure cN4_pure, flat_pure cN3_pure, flat_pure cQ_pure, cClaim, hatg, hatl, hnn, hle]
   repeat refine ob ?_
   refine ⟨_, hSg, (by first | rfl | simp [allA, pure1, pureCs, pureC, A1.cells, flat_pure cQ_pure, flat_pure cClaim_pure, flat_pure cAgr_pure]), ?_⟩
   try unfold Later
   try simp only [(id F_lWP), seval, cEst, cRat, hI0, hat0, hip, flat_pure cClaim_pure, flat_pure cAgr_pure, flat_pure cN4_pure, flat_pure cN3_pure, flat_pure cQ_pure, cClaim, hatg, hatl, hnn, hle]
   repeat refine ob ?_
   refine ⟨_, hCm, (by first | rfl | simp [allA, pure1, pureCs, pureC, A1.cells, flat_pure cQ_pure, flat_pure cClaim_pure, flat_pure cAgr_pure]), ?_⟩
   try unfold Later
   try simp only [(id F_lWP), seval, cEst, cRat, hI0, hat0, hip, flat_pure cClaim_pure, flat_pure cAgr_pure, flat_pure cN4_pure, flat_pure cN3_pure, flat_pure cQ_pure, cClaim, hatg, hatl, hnn, hle]
   repeat refine ob ?_
   refine ⟨_, hIp, (by first | rfl | simp [allA, pure1, pureCs, pureC, A1.cells, flat_pure cQ_pure, flat_pure cClaim_pure, flat_pure cAgr_pure]), ?_⟩
   try unfold Later
   try simp only [(id F_lWP), seval, cEst, cRat, hI0, hat0, hip, flat_pure cClaim_pure, flat_pure cAgr_pure, flat_pure cN4_pure, flat_pure cN3_pure, flat_pure cQ_pure, cClaim, hatg, hatl, hnn, hle]
   repeat refine ob ?_
   refine awF ?_
   refine awK ?_
   simp only [(id F_lWP), seval]
   refine awR [] [none, none] ?_
   simp only [(id F_lWP), seval, cEst, cRat, hI0, hat0, hip]
   repeat refine ob ?_
   repeat refine ob ?_
   refine ⟨_, wk_keep [7, 9, 11, 71, 72, 73] [7], e.claims.length - (i0 + 1), by omega, i0 + 1, ?a11_nx, by omega, rfl, ?st11⟩
   case st11 => (simp only [(id F_lWP), seval, cEst, cRat, hI0, hat0, hip]; first | rfl | (simp [hI0, hat0, hip, Nat.add_mul]; done))
  have q3 : EqOK Tryz.prog 32 [.bool (enc l[i0]).neg, .string (enc l[i0]).num, .string (enc l[i0]).den] [.bool (enc g[i0]).neg, .string (enc g[i0]).num, .string (enc g[i0]).den] := by rw [hd.out (by simpa using hip)]; exact EqOK_ratW _
  have q4 : eqVs [.bool (enc l[i0]).neg, .string (enc l[i0]).num, .string (enc l[i0]).den] [.bool (enc g[i0]).neg, .string (enc g[i0]).num, .string (enc g[i0]).den] = true := by rw [hd.out (by simpa using hip)]; exact eqVs_ratW _
  have hSg := aSgnB l[i0] _ (hdB.1 _ (List.getElem_mem hil)) (by decide)
  simp only [cRat] at hSg
  have hCm := aCmpE l[i0] x0.amount _ _ (hdB.1 _ (List.getElem_mem hil)) hx0s (by decide) (by decide) (by decide) (by decide)
  simp only [cRat] at hCm
  have hIp := inPool_A e i0 (by omega) (fun a ha => ⟨by have := (hea.2 a ha).1; omega, fun t ht => by have := (hea.2 a ha).2 t ht; omega⟩)
  simp only [cEst] at hIp
  refine awD (scq [1, 3, 5, 7, 8, 11, 13, 15, 17, 19, 21, 23, 25, 26, 29, 31, 33, 35, 37, 38, 41, 43, 45, 47, 49, 51, 53, 55, 57, 59, 61, 63, 65] .nil) [none, none, none, none, none, none, none, some (84, false), some (84, false), some (84, false), some (84, false), some (84, false), some (84, false), some (84, false), some (84, false), none, none, some (94, false), some (94, false), some (94, false), some (94, false), some (94, false), some (99, true), some (99, true), some (99, true), some (99, true), some (99, true), some (99, true), some (99, true), some (99, true), some (99, true), some (94, false), none] ?_
  simp only [(id F_lWP), seval, cEst, cRat, hI0, hat0, hip, q3, q4, flat_pure cClaim_pure, flat_pure cAgr_pure, flat_pure cN4_pure, flat_pure cN3_pure, flat_pure cQ_pure, cClaim, hatg, hatl, hnn, hle]
  repeat refine ob ?_
  refine ⟨_, hSg, (by first | rfl | simp [allA, pure1, pureCs, pureC, A1.cells, flat_pure cQ_pure, flat_pure cClaim_pure, flat_pure cAgr_pure]), ?_⟩
  try unfold Later
  try simp only [(id F_lWP), seval, cEst, cRat, hI0, hat0, hip, q3, q4, flat_pure cClaim_pure, flat_pure cAgr_pure, flat_pure cN4_pure, flat_pure cN3_pure, flat_pure cQ_pure, cClaim, hatg, hatl, hnn, hle]
  repeat refine ob ?_
  refine ⟨_, hCm, (by first | rfl | simp [allA, pure1, pureCs, pureC, A1.cells, flat_pure cQ_pure, flat_pure cClaim_pure, flat_pure cAgr_pure]), ?_⟩
  try unfold Later
  try simp only [(id F_lWP), seval, cEst, cRat, hI0, hat0, hip, q3, q4, flat_pure cClaim_pure, flat_pure cAgr_pure, flat_pure cN4_pure, flat_pure cN3_pure, flat_pure cQ_pure, cClaim, hatg, hatl, hnn, hle]
  repeat refine ob ?_
  refine ⟨_, hIp, (by first | rfl | simp [allA, pure1, pureCs, pureC, A1.cells, flat_pure cQ_pure, flat_pure cClaim_pure, flat_pure cAgr_pure]), ?_⟩
  try unfold Later
  try simp only [(id F_lWP), seval, cEst, cRat, hI0, hat0, hip, q3, q4, flat_pure cClaim_pure, flat_pure cAgr_pure, flat_pure cN4_pure, flat_pure cN3_pure, flat_pure cQ_pure, cClaim, hatg, hatl, hnn, hle]
  repeat refine ob ?_
  refine awF ?_
  refine awK ?_
  simp only [(id F_lWP), seval]
  refine awR [] [none, none] ?_
  simp only [(id F_lWP), seval, cEst, cRat, hI0, hat0, hip, q3, q4]
  repeat refine ob ?_
  repeat refine ob ?_
  refine ⟨_, wk_keep [7, 9, 11, 71, 72, 73] [7], e.claims.length - (i0 + 1), by omega, i0 + 1, ?a14_nx, by omega, rfl, ?st14⟩
  case st14 => (simp only [(id F_lWP), seval, cEst, cRat, hI0, hat0, hip, q3, q4]; first | rfl | (simp [hI0, hat0, hip, q3, q4, Nat.add_mul]; done))
 obtain rfl : i0 = e.claims.length := by omega
 have hI0 : ¬ (e.claims.length : Int) < (e.claims.length : Int) := by omega
 refine awR [] [none] ?_
 simp only [(id F_lWP), seval, cEst, cRat, hI0]
 repeat refine ob ?_
 refine awF ?_
 refine awQ ?_
 simp only [(id F_lWP), seval]
 refine awR [] [none, none] ?_
 simp only [(id F_lWP), seval, cEst, cRat, hI0]
 repeat refine ob ?_
 refine ⟨_, awake17_A, (by first | rfl | simp [allA, pure1, pureCs, pureC, A1.cells, flat_pure cQ_pure, flat_pure cClaim_pure, flat_pure cAgr_pure]), ?_⟩
 try unfold Later
 try simp only [(id F_lWP), seval, cEst, cRat, hI0]
 repeat refine ob ?_
 refine awX ?_
 (first | (simp only [(id F_lWP), seval, cEst, cRat, hI0]; done) | (simp only [(id F_lWP), seval, cEst, cRat]; first | (simp [hI0]; done)))
theorem lWP_walk (v0 v1 v2 : Value) (list : List N4) (pools : List N3) (money : Nat) (W : World) (o0 : rC (cSl 4 cN4) (okSl okN4) W (LT W.heap.size) [v0] list) (o1 : rC (cSl 3 cN3) (okSl okN3) W (LT W.heap.size) [v1] pools) (o2 : rC cU16 (· < 65536) W (LT W.heap.size) [v2] money) :
    Calls Tryz.prog 9 #[v0, v1, v2] W fun e w' => e = .returned (.bool true) ∧ Below W.heap.size W w' := by
  obtain ⟨h0, k0⟩ := den_oneC o0 rfl
  obtain ⟨h1, k1⟩ := den_oneC o1 rfl
  obtain ⟨h2, k2⟩ := den_oneC o2 rfl
  exact acall_law (vs := [v0, v1, v2]) (lWP_A list pools money k0 k1 k2) ⟨h0, h1, h2, trivial⟩
end Go.Proofs.YtmbahnmhicdjfaaGreatDoor
end
