/- Sums of numbers, the builder of an estate; walked by the abstract machine. -/
import Derived.Test.YtmbahnmhicdjfaaGreatDoorAbUM
import Derived.Test.YtmbahnmhicdjfaaGreatDoorWlaM
import Derived.Test.YtmbahnmhicdjfaaGreatDoorGu3M
import Derived.Test.YtmbahnmhicdjfaaGreatDoorOw4M
set_option linter.unusedVariables false
set_option linter.unusedSimpArgs false
set_option linter.defProp false
set_option linter.unnecessarySimpa false
section
/- Sums of numbers, the builder of an estate; walked by the abstract machine. -/
namespace Go.Proofs.YtmbahnmhicdjfaaGreatDoor
open Go Go.RowKit
theorem aAdd0Q (p q : Rat) (m n : Nat) (hp : qB m p) (hq : qB n q) (hm : m ≤ 100000000000) (hn : n ≤ 100000000000) : ACall Tryz.prog 95 [.agg (cRat (enc p)), .agg (cRat (enc q))] (.val (.agg (cRat (enc (p + q))))) :=
  acall_flat (fnOK_of Tryz.func95 (by decide) (by kernel_rfl)) [vRat (enc p), vRat (enc q)] (vRat (enc (p + q))) fun w => qadd_any p q m n w hp hq hm hn
def F_wSm := And.intro zS (And.intro tf98 (And.intro tf99 (And.intro tf18 (And.intro tf86 (tf87)))))
set_option maxRecDepth 100000 in
set_option maxHeartbeats 4000000 in
theorem aSumQ (l : List Rat) (n9 : Nat) (hn9 : l.length = n9) (G : Nat) (hG : ∀ x ∈ l, qB G x) (hGb : G ≤ 50000000000) (hl : l.length ≤ 1000000) (hB : 1 + l.length * (G + 1) ≤ 50000000000) : ACall Tryz.prog 43 [.one (.sh 3 n9 (flat cQ l))] (.val (.agg (cRat (enc (rSum l))))) := by
 subst hn9
 refine acall_of Tryz.func43 rfl (by decide) (N := 19) rfl (by simp) (R := [.cell 2 32]) rfl fun en k0 => ?_
 refine awR [] [none] ?_
 simp only [(id F_wSm), seval, cRat]
 repeat refine ob ?_
 refine awR [] [none, none, none] ?_
 simp only [(id F_wSm), seval, cRat]
 repeat refine ob ?_
 refine awp_wk (wk_cells 3 (cRat (enc 0)) (by rfl) (by show (3 : Nat) ≠ 0; decide) (by rfl) (fun κ vs h => by rw [enc0_cells]; exact h)) ?_
 simp only [(id F_wSm), seval]
 refine awR [] [none, none, none] ?_
 simp only [(id F_wSm), seval, cRat]
 repeat refine ob ?_
 have hq0 : qB (1 + 0 * (G + 1)) (0 : Rat) := qB_zero.mono (by omega)
 refine awp_keep [2, 3, 7, 8, 9] [2, 3] ?_
 try unfold Later
 try simp only [(id F_wSm), seval, cRat]
 repeat' first|apply awS|apply awB
 refine awp_loopw (fun n st => ∃ i0 q nx, i0 ≤ l.length ∧ n = l.length - i0 ∧ q + rSum (l.drop i0) = 0 + rSum l ∧ qB (1 + i0 * (G + 1)) q ∧ st = ⟨mkT [(2, .val (.one (.ptr 2 0 0))), (3, .val (.one (.ptr 3 1 0))), (7, .val (.one (.sh 3 l.length (flat cQ l)))), (8, one (.int .i64 l.length)), (9, one (.int .i64 i0))], mkH [(2, ⟨0, 32, 3, 1, [.lit (.bool false), .lit (.string bEmpty), .lit (.string bEmpty)]⟩), (3, ⟨1, 32, 3, 1, cRat (enc q)⟩)], nx, 0⟩) (l.length) ⟨0, 0, _, by omega, by omega, by rfl, (by first | omega | assumption | rfl | simp | (simp; omega)), rfl⟩ ?_
 rintro n0 st ⟨i0, q, nx0, hk0, rfl, hL0, hV0_1, rfl⟩
 by_cases hlt0 : i0 < l.length
 ·
  have hI0 : (i0 : Int) < (l.length : Int) := by omega
  have hat0 := flat_at cQ_len l i0 hlt0
  try rw [Nat.mul_one] at hat0
  rw [List.drop_eq_getElem_cons hlt0] at hL0
  have hGx := hG _ (List.getElem_mem hlt0)
  have hVq := hV0_1
  have hmul : (i0 + 1) * (G + 1) ≤ l.length * (G + 1) := Nat.mul_le_mul_right _ hlt0
  have hmul1 : (i0 + 1) * (G + 1) = i0 * (G + 1) + (G + 1) := Nat.succ_mul _ _
  have hnx := (hVq.add hGx).mono (n := 1 + (i0 + 1) * (G + 1)) (by omega)
  generalize l[i0] = x at *
  simp only [rSum] at hL0
  refine awR [] [none] ?_
  simp only [(id F_wSm), seval, cRat, hI0, hat0]
  repeat refine ob ?_
  refine awT ?_
  refine awK ?_
  simp only [(id F_wSm), seval]
  refine awR [] [none, none, none, none] ?_
  simp only [(id F_wSm), seval, cRat, hI0, hat0, cQ]
  repeat refine ob ?_
  have hCl := aCleanQ x G hGx (by omega)
  have hA := aAdd0Q q x _ G hVq hGx (by omega) (by omega)
  simp only [cRat] at hA hCl
  refine awD (scq [1, 3, 4, 6, 8] .nil) [none, none, none, none, none] ?_
  simp only [(id F_wSm), seval, cRat, hI0, hat0]
  repeat refine ob ?_
  refine ⟨_, hCl, rfl, ?_⟩
  try unfold Later
  try simp only [(id F_wSm), seval, cRat, hI0, hat0]
  repeat refine ob ?_
  refine ⟨_, hA, rfl, ?_⟩
  try unfold Later
  try simp only [(id F_wSm), seval, cRat, hI0, hat0]
  repeat refine ob ?_
  refine awR [] [none, none] ?_
  simp only [(id F_wSm), seval, cRat, hI0, hat0]
  repeat refine ob ?_
  repeat refine ob ?_
  refine ⟨_, wk_keep [2, 3, 7, 8, 9] [2, 3], l.length - (i0 + 1), by omega, i0 + 1, (q + x), ?a7_nx, by omega, rfl, ?i7_0, ?i7_1, ?st7⟩
  case st7 => (simp only [(id F_wSm), seval, cRat, hI0, hat0]; first | rfl | (simp [hI0, hat0, Nat.add_mul]; done))
  case i7_0 => (rw [← hL0]; grind)
  case i7_1 => (first | omega | assumption | (simp; omega) | (simp_all; done))
 obtain rfl : i0 = l.length := by omega
 have hI0 : ¬ (l.length : Int) < (l.length : Int) := by omega
 rw [List.drop_length] at hL0
 simp only [rSum] at hL0
 refine awR [] [none] ?_
 simp only [(id F_wSm), seval, cRat, hI0]
 repeat refine ob ?_
 refine awF ?_
 refine awQ ?_
 simp only [(id F_wSm), seval]
 refine awR [] [none, none] ?_
 simp only [(id F_wSm), seval, cRat, hI0]
 repeat refine ob ?_
 refine awX ?_
 simp only [(id F_wSm), seval]
 have hq9 : q = rSum l := by grind
 simp [hq9, cRat]
def F_lEs := And.intro zS (And.intro tf61 (And.intro tf62 (And.intro tf74 (And.intro tf63 (And.intro tf64 (And.intro tf53 (And.intro tf84 (tf130))))))))
set_option maxRecDepth 100000 in
set_option maxHeartbeats 4000000 in
theorem est_A (c : Nat) (list : List N4) (pools : List N3) (hc : c < 65536) (hls : ∀ x ∈ list, x.a < 65536 ∧ x.b < 65536 ∧ x.c < 65536 ∧ x.d < 65536) (hps : ∀ p ∈ pools, p.a < 65536 ∧ p.b < 65536 ∧ p.c < 65536) (hl1 : list.length ≤ 9223372036854775807) (hp1 : pools.length ≤ 9223372036854775807) : ACall Tryz.prog 36 [.one (.lit (.int .u16 c)), .one (.sh 4 list.length (flat cN4 list)), .one (.sh 3 pools.length (flat cN3 pools))] (.val (.agg (cEst (estN c list pools)))) := by
 refine acall_of Tryz.func36 rfl (by decide) (N := 15) rfl (by simp) (R := [.cell 6 36]) rfl fun en k0 => ?_
 refine awR [] [none] ?_
 simp only [(id F_lEs), seval]
 repeat refine ob ?_
 have hes : (grpN 0 [c] list pools []).ests = [estN c list pools] := estN_list c list pools
 have hG := group_A 0 [c] list pools [] (by decide) (by simpa using hc) hls hps (by simp) (by simp) hl1 hp1 (by simp)
 generalize hgr : grpN 0 [c] list pools [] = gr at *
 have hfe : flat cEst [estN c list pools] = cEst (estN c list pools) ++ [] := rfl
 simp only [cEst, List.cons_append, List.nil_append] at hfe
 simp only [cGrp, hes, List.length_cons, List.length_nil, hfe] at hG
 refine awR [11] [none, none, none, none, none, none, none, none, none] ?_
 simp only [(id F_lEs), seval, cEst, cGrp]
 repeat refine ob ?_
 refine ⟨_, acallI_give (nm := 8) hG (by simp [allA, pure1, pureCs, pureC, A1.cells, flat_pure cClaim_pure, flat_pure cAgr_pure, flat_pure cDebt_pure]) (by simp [pure1, pureCs, pureC, A1.cells, flat_pure cN4_pure, flat_pure cN3_pure, flat_pure cU16_pure]) (fun e σ w vs hW hx hd => ?_), ?_⟩
 ·
  obtain ⟨v1, vs1, rfl, d1, hd1⟩ := den1s_cons hd
  obtain ⟨v2, vs2, rfl, d2, hd2⟩ := den1s_cons hd1
  obtain ⟨v3, vs3, rfl, d3, hd3⟩ := den1s_cons hd2
  obtain ⟨v4, vs4, rfl, d4, hd4⟩ := den1s_cons hd3
  obtain ⟨v5, vs5, rfl, d5, hd5⟩ := den1s_cons hd4
  exact ⟨den1_ext hx d1, own_give (B := ⟨1, 57, 1, 1, flat cU16 [c]⟩) hW d2 (by rfl) rfl (by show (1 : Nat) ≠ 0; decide), den1_ext hx d3, den1_ext hx d4, den_nilsh 3 (den1_ext (a := .one (.lit (.slice none 0 0))) hx d5), (by cases vs5 with | nil => exact trivial | cons v vs => exact hd5.elim)⟩
 rintro res H' nx' ⟨rfl, rfl, rfl⟩
 simp only [(id F_lEs), seval, (id SD)]
 repeat refine ob ?_
 refine awX ?_
 simp only [(id F_lEs), seval]
 try rfl
 try exact ⟨flat_pure cClaim_pure _, flat_pure cAgr_pure _⟩
end Go.Proofs.YtmbahnmhicdjfaaGreatDoor
end
section
/- Plain: what the laws of the ranks, pools and tiers say of a built estate. No walk. -/
namespace Go.Proofs.YtmbahnmhicdjfaaGreatDoor
open Go Go.RowKit
theorem est_nil (c : Nat) (list : List N4) (hc : c < 65536) (hls : ∀ x ∈ list, x.a < 65536 ∧ x.b < 65536 ∧ x.c < 65536 ∧ x.d < 65536) (hl1 : list.length ≤ 9223372036854775807) : ACall Tryz.prog 36 [.one (.lit (.int .u16 c)), .one (.sh 4 list.length (flat cN4 list)), .one (.lit (.slice none 0 0))] (.val (.agg (cEst (estN c list [])))) :=
  acall_args (est_A c list [] hc hls (by simp) hl1 (by simp)) fun κ vs h => by
    obtain ⟨v1, vs1, rfl, d1, h1⟩ := den1s_cons h
    obtain ⟨v2, vs2, rfl, d2, h2⟩ := den1s_cons h1
    obtain ⟨v3, vs3, rfl, d3, h3⟩ := den1s_cons h2
    cases vs3 with
    | nil => exact ⟨d1, d2, den_nilsh 3 d3, trivial⟩
    | cons v vs => exact h3.elim
theorem mPos_enc {m : Rat} (h : 0 ≤ m) : mPos (enc m) = m := by
  unfold mPos qmax
  rw [qOf_enc]
  split <;> grind
theorem getD_el {l : List Rat} {i : Nat} (h : i < l.length) : l.getD i 0 = l[i] := by rw [List.getD_eq_getElem?_getD, List.getElem?_eq_getElem h]; rfl
theorem sgn_neg {q : Rat} (h : 0 ≤ q) : ¬ qSgn q < 0 := by unfold qSgn qCmp; grind
theorem sgn_gt (q : Rat) : 0 < qSgn q ↔ 0 < q := by unfold qSgn qCmp; grind
theorem cmp_le {p q : Rat} (h : p ≤ q) : ¬ 0 < qCmp p q := by unfold qCmp; grind
structure grP (e : GEst) (g : List Rat) (i k : Nat) (hi : i < e.claims.length) (hk : k < e.claims.length) (hgi : i < g.length) (hgk : k < g.length) : Prop where
  nn : ¬ qSgn g[i] < 0
  le : ¬ 0 < qCmp g[i] (qOf e.claims[i].amount)
  sen : e.claims[i].rank < e.claims[k].rank → 0 < qSgn g[k] → g[i] = qOf e.claims[i].amount
  par : e.claims[i].rank = e.claims[k].rank → g[i] * qOf e.claims[k].amount = g[k] * qOf e.claims[i].amount
theorem gross_P {e : GEst} {m : Rat} (h : wEst e.claims) (hm : 0 ≤ m) (i k : Nat) (hi : i < e.claims.length) (hk : k < e.claims.length) (hgi : i < (wGross (wLay e) m).length) (hgk : k < (wGross (wLay e) m).length) : grP e (wGross (wLay e) m) i k hi hk hgi hgk := by
  have h1 := gross_bounds h hm i
  rw [am_getD _ i hi] at h1
  have hA := gross_at (m := m) h i hi
  have hB := gross_at (m := m) h k hk
  rw [getD_el hgi] at h1 hA
  rw [getD_el hgk] at hB
  refine ⟨sgn_neg h1.1, cmp_le h1.2, fun hr hs => ?_, fun hr => ?_⟩
  · rw [sgn_gt, hB] at hs
    have hb := (wFr_bounds (wRanks e.claims) m e.claims[k].rank.toNat hm).1
    have ha := h.am _ (List.getElem_mem hk)
    have hri := h.rk _ (List.getElem_mem hi)
    have hrk := h.rk _ (List.getElem_mem hk)
    have hf : 0 < gFr e.claims m e.claims[k].rank := by
      unfold gFr at hs ⊢
      apply Classical.byContradiction
      intro hn
      have h0 : wFr (wRanks e.claims) m e.claims[k].rank.toNat = 0 := by grind
      rw [h0] at hs; grind
    have h3 : gFr e.claims m e.claims[i].rank = 1 := wFr_senior (wRanks e.claims) m _ _ hm (by omega) hf
    rw [hA, h3]; grind
  rw [hA, hB, hr]; grind
theorem aMulE (p : Rat) (a : GRat) (m n : Nat) (hp : qB m p) (ha : sB n a) (hm0 : 0 < m) (hn0 : 0 < n) (hm : m ≤ 100000000000) (hn : n ≤ 100000000000) : ACall Tryz.prog 40 [.agg (cRat (enc p)), .agg (cRat a)] (.val (.agg (cRat (enc (p * qOf a))))) := by
  have h := aMul (enc p) a m n (sB_enc hp) ha hm hn hm0 hn0
  rwa [qOf_enc] at h
theorem aCmpE (p : Rat) (a : GRat) (m n : Nat) (hp : qB m p) (ha : sB n a) (hm0 : 0 < m) (hn0 : 0 < n) (hm : m ≤ 50000000000) (hn : n ≤ 50000000000) : ACall Tryz.prog 44 [.agg (cRat (enc p)), .agg (cRat a)] (one (.int .i64 (qCmp p (qOf a)))) := by
  have h := aCompare (enc p) a m n (sB_enc hp) ha (by omega) (by omega) hm0 hn0
  rwa [qOf_enc] at h
theorem grossN_B {e : GEst} {M : Nat} (hI : eIn e 1 M 6 2) (h0 : wcSpec e = 0) {m : Rat} (hm : qB M m) : ∀ x ∈ wGross (wLay e) m, qB (kG 6 1 M) x :=
  wGross_B (wc_delB (wc_ok h0) hI.s hI.k0 hI.hnc hI.nc2 hI.hna hI.b) hm
end Go.Proofs.YtmbahnmhicdjfaaGreatDoor
end
section
/- WaterfallRanks: the law's own function; walked by the abstract machine. -/
namespace Go.Proofs.YtmbahnmhicdjfaaGreatDoor
open Go Go.RowKit
theorem wTotN_B {cs : List GClaim} (hc : ∀ c ∈ cs, sB 1 c.amount ∧ enc (qOf c.amount) = c.amount) (hn : cs.length ≤ 6) : qB 50000000000 (wTotal cs) := by
  have h : ∀ cs : List GClaim, (∀ c ∈ cs, sB 1 c.amount ∧ enc (qOf c.amount) = c.amount) → qB (1 + cs.length * 2) (wTotal cs) := by
    intro cs
    induction cs with
    | nil => intro _; simpa [wTotal] using qB_zero
    | cons c cs ih =>
      intro h
      have h1 := ih fun x hx => h x (by simp [hx])
      refine (((h c (by simp)).1.qB (by decide)).add h1).mono ?_
      simp only [List.length_cons]; omega
  exact (h cs hc).mono (by omega)
structure grQ (gi gk : Rat) (a b : GClaim) : Prop where
  sen : a.rank < b.rank → 0 < qSgn gk → gi = qOf a.amount
  par : a.rank = b.rank → gi * qOf b.amount = gk * qOf a.amount
theorem grQ_of {e : GEst} {g : List Rat} {i k : Nat} {hi : i < e.claims.length} {hk : k < e.claims.length} {hgi : i < g.length} {hgk : k < g.length} (h : grP e g i k hi hk hgi hgk) : grQ g[i] g[k] e.claims[i] e.claims[k] := ⟨h.sen, h.par⟩
def F_lWR := And.intro zS (And.intro tf21 (And.intro tf98 (And.intro tf24 (And.intro tf99 (And.intro tf26 (And.intro tf27 (And.intro tf29 (And.intro tf32 (And.intro tf34 (And.intro tf53 (And.intro tf18 (And.intro tf12 (And.intro tf36 (And.intro tf84 (tf87)))))))))))))))
set_option maxRecDepth 100000 in
set_option maxHeartbeats 4000000 in
theorem lWR_A (list : List N4) (money : Nat) (hls : okSl okN4 list) (hm : money < 65536) : ACall Tryz.prog 11 [.one (.sh 4 list.length (flat cN4 list)), .one (.lit (.int .u16 money))] (one (.bool true)) := by
 have hl1 : list.length ≤ 9223372036854775807 := Nat.le_trans hls.1 (by decide)
 refine acall_of Tryz.func11 rfl (by decide) (N := 131) rfl (by simp) (R := [.tmp 4]) rfl fun en k0 => ?_
 refine awR [] [none] ?_
 simp only [(id F_lWR), seval, cEst, cRat]
 repeat refine ob ?_
 have hE := est_nil 0 list (by decide) hls.2 hl1
 have hI := estN_in 0 list [] (M := 1) (by decide) (by decide)
 have h0 := estN_wc 0 list []
 have heo := estN_eok 0 list []
 have hcn := (estN_ok 0 list []).2.2.1
 have hen := (estN_ok 0 list []).1.1
 generalize estN 0 list [] = e at *
 simp only [cEst] at hE
 refine awR [] [none, none, none, none] ?_
 simp only [(id F_lWR), seval, cEst, cRat, flat_pure cClaim_pure, flat_pure cAgr_pure, flat_pure cN4_pure, flat_pure cQ_pure]
 repeat refine ob ?_
 refine ⟨_, hE, (by first | rfl | simp [allA, pure1, pureCs, pureC, A1.cells, flat_pure cQ_pure, flat_pure cClaim_pure, flat_pure cAgr_pure]), ?_⟩
 try unfold Later
 try simp only [(id F_lWR), seval, cEst, cRat, flat_pure cClaim_pure, flat_pure cAgr_pure, flat_pure cN4_pure, flat_pure cQ_pure]
 repeat refine ob ?_
 have hAm := aAmount money hm
 have hmB := amt_qB money
 have hm0 := amt_nonneg money
 generalize qAmt money = m at *
 simp only [cRat] at hAm
 refine awR [] [none, none, none, none] ?_
 simp only [(id F_lWR), seval, cEst, cRat]
 repeat refine ob ?_
 refine ⟨_, hAm, (by first | rfl | simp [allA, pure1, pureCs, pureC, A1.cells, flat_pure cQ_pure, flat_pure cClaim_pure, flat_pure cAgr_pure]), ?_⟩
 try unfold Later
 try simp only [(id F_lWR), seval, cEst, cRat]
 repeat refine ob ?_
 have hG := wGross_A e (enc m) 1 1 6 2 hI (sB_enc hmB)
 rw [mPos_enc hm0] at hG
 simp only [grR, h0, if_true, cEst, cRat] at hG
 refine awR [] [none, none, none, none, none, none, none, none] ?_
 simp only [(id F_lWR), seval, cEst, cRat, flat_pure cClaim_pure, flat_pure cAgr_pure, flat_pure cN4_pure, flat_pure cQ_pure]
 repeat refine ob ?_
 refine ⟨_, hG, (by first | rfl | simp [allA, pure1, pureCs, pureC, A1.cells, flat_pure cQ_pure, flat_pure cClaim_pure, flat_pure cAgr_pure]), ?_⟩
 try unfold Later
 try simp only [(id F_lWR), seval, cEst, cRat, flat_pure cClaim_pure, flat_pure cAgr_pure, flat_pure cN4_pure, flat_pure cQ_pure]
 repeat refine ob ?_
 have hT := wTotal_A e 1 1 6 2 hI
 simp only [ttR, h0, if_true, cEst, cRat] at hT
 have hgl := gross_len e m
 have hgB := grossN_B hI h0 hmB
 have hgs := gross_sum (m := m) heo.cl hm0
 have hgP := gross_P (m := m) heo.cl hm0
 generalize wGross (wLay e) m = g at *
 refine awR [] [none, none, none, none, none, none, none, none] ?_
 simp only [(id F_lWR), seval, cEst, cRat, flat_pure cClaim_pure, flat_pure cAgr_pure, flat_pure cN4_pure, flat_pure cQ_pure]
 repeat refine ob ?_
 refine ⟨_, hT, (by first | rfl | simp [allA, pure1, pureCs, pureC, A1.cells, flat_pure cQ_pure, flat_pure cClaim_pure, flat_pure cAgr_pure]), ?_⟩
 try unfold Later
 try simp only [(id F_lWR), seval, cEst, cRat, flat_pure cClaim_pure, flat_pure cAgr_pure, flat_pure cN4_pure, flat_pure cQ_pure]
 repeat refine ob ?_
 have hS := aSumQ g e.claims.length hgl (kG 6 1 1) hgB (by decide) (by omega) (by have : kG 6 1 1 = 896 := rfl; rw [this]; omega)
 rw [hgs] at hS
 have htB : qB 50000000000 (wTotal e.claims) := wTotN_B hcn hen
 have hMn := aMin (enc m) (enc (wTotal e.claims)) 1 50000000000 (sB_enc hmB) (sB_enc htB) (by decide) (by decide) (by decide) (by decide)
 rw [qOf_enc, qOf_enc] at hMn
 have q1 := EqOK_ratW (enc (qmin m (wTotal e.claims)))
 have q2 := eqVs_ratW (enc (qmin m (wTotal e.claims)))
 simp only [cRat] at hS hMn
 refine awD (scq [1, 3, 5, 7, 9, 11, 13, 15, 17, 19, 21, 23, 25, 27, 29, 31, 35, 37, 32, 38, 41, 43] .nil) [none, none, none, some (32, false), some (32, false), none, none, some (36, false), some (36, false), some (36, false), some (36, false), some (36, false), some (36, false), none, none, some (44, false), some (44, false), some (44, false), some (44, false), some (44, false), some (44, false), none] ?_
 simp only [(id F_lWR), seval, cEst, cRat, flat_pure cClaim_pure, flat_pure cAgr_pure, flat_pure cN4_pure, flat_pure cQ_pure, q1, q2]
 repeat refine ob ?_
 refine ⟨_, hS, (by first | rfl | simp [allA, pure1, pureCs, pureC, A1.cells, flat_pure cQ_pure, flat_pure cClaim_pure, flat_pure cAgr_pure]), ?_⟩
 try unfold Later
 try simp only [(id F_lWR), seval, cEst, cRat, flat_pure cClaim_pure, flat_pure cAgr_pure, flat_pure cN4_pure, flat_pure cQ_pure, q1, q2]
 repeat refine ob ?_
 refine ⟨_, hMn, (by first | rfl | simp [allA, pure1, pureCs, pureC, A1.cells, flat_pure cQ_pure, flat_pure cClaim_pure, flat_pure cAgr_pure]), ?_⟩
 try unfold Later
 try simp only [(id F_lWR), seval, cEst, cRat, flat_pure cClaim_pure, flat_pure cAgr_pure, flat_pure cN4_pure, flat_pure cQ_pure, q1, q2]
 repeat refine ob ?_
 refine awF ?_
 refine awK ?_
 simp only [(id F_lWR), seval]
 refine awR [] [none, none, none, none] ?_
 simp only [(id F_lWR), seval, cEst, cRat]
 repeat refine ob ?_
 refine awp_keep [5, 7, 53, 54, 55] [5] ?_
 try unfold Later
 try simp only [(id F_lWR), seval, cEst, cRat]
 repeat' first|apply awS|apply awB
 refine awp_loopw (fun n st => ∃ i0 nx, i0 ≤ e.claims.length ∧ n = e.claims.length - i0 ∧ st = ⟨mkT [(5, .val (.one (.ptr 5 0 0))), (7, .val (.one (.sh 3 e.claims.length (flat cQ g)))), (53, .val (.one (.sh 5 e.claims.length (flat cClaim e.claims)))), (54, one (.int .i64 e.claims.length)), (55, one (.int .i64 i0))], mkH [(5, ⟨0, 36, 5, 1, cEst e⟩)], nx, 0⟩) (e.claims.length) ⟨0, _, by omega, by omega, rfl⟩ ?_
 rintro n0 st ⟨i0, nx0, hk0, rfl, rfl⟩
 by_cases hlt0 : i0 < e.claims.length
 ·
  have hI0 : (i0 : Int) < (e.claims.length : Int) := by omega
  have hat0 := flat_at cClaim_len e.claims i0 hlt0
  try rw [Nat.mul_one] at hat0
  have hgi0 : i0 < g.length := by omega
  have hatg := flat_at cQ_len g i0 hgi0
  simp only [cQ, cRat] at hatg
  have hP := hgP i0
  have hx0s := (hcn _ (List.getElem_mem hlt0)).1
  have hx0e := (hcn _ (List.getElem_mem hlt0)).2
  have hnn := (hP i0 hlt0 hlt0 hgi0 hgi0).nn
  have hle := (hP i0 hlt0 hlt0 hgi0 hgi0).le
  replace hP := fun k hk hgk => grQ_of (hP k hlt0 hk hgi0 hgk)
  generalize e.claims[i0] = x0 at *
  refine awR [] [none] ?_
  simp only [(id F_lWR), seval, cEst, cRat, hI0, hat0]
  repeat refine ob ?_
  refine awT ?_
  refine awK ?_
  simp only [(id F_lWR), seval]
  refine awR [] [none, none, none, none, none, none] ?_
  simp only [(id F_lWR), seval, cEst, cRat, hI0, hat0, cClaim]
  repeat refine ob ?_
  have hSg := aSign (enc g[i0]) (by have := (sB_enc (hgB _ (List.getElem_mem hgi0))).1; have h9 : kG 6 1 1 = 896 := rfl; omega) (by have := (sB_enc (hgB _ (List.getElem_mem hgi0))).2; have h9 : kG 6 1 1 = 896 := rfl; omega)
  rw [qOf_enc] at hSg
  have hCm := aCmpE g[i0] x0.amount _ _ (hgB _ (List.getElem_mem hgi0)) hx0s (by decide) (by decide) (by decide) (by decide)
  simp only [cRat] at hSg hCm
  refine awD (scq [1, 3, 5, 7, 8, 11, 13, 15, 17, 19, 21, 23, 25, 26, 29, 31] .nil) [none, none, none, none, none, none, none, some (66, false), some (66, false), some (66, false), some (66, false), some (66, false), some (66, false), some (66, false), some (66, false), none] ?_
  simp only [(id F_lWR), seval, cEst, cRat, hI0, hat0, cClaim, hatg, hnn, hle]
  repeat refine ob ?_
  refine ⟨_, hSg, (by first | rfl | simp [allA, pure1, pureCs, pureC, A1.cells, flat_pure cQ_pure, flat_pure cClaim_pure, flat_pure cAgr_pure]), ?_⟩
  try unfold Later
  try simp only [(id F_lWR), seval, cEst, cRat, hI0, hat0, cClaim, hatg, hnn, hle]
  repeat refine ob ?_
  refine ⟨_, hCm, (by first | rfl | simp [allA, pure1, pureCs, pureC, A1.cells, flat_pure cQ_pure, flat_pure cClaim_pure, flat_pure cAgr_pure]), ?_⟩
  try unfold Later
  try simp only [(id F_lWR), seval, cEst, cRat, hI0, hat0, cClaim, hatg, hnn, hle]
  repeat refine ob ?_
  refine awF ?_
  refine awK ?_
  simp only [(id F_lWR), seval]
  refine awR [] [none, none, none, none] ?_
  simp only [(id F_lWR), seval, cEst, cRat, hI0, hat0]
  repeat refine ob ?_
  refine awp_keep [5, 7, 53, 54, 55, 11, 12, 77, 78, 79] [5, 12] ?_
  try unfold Later
  try simp only [(id F_lWR), seval, cEst, cRat, hI0, hat0]
  repeat' first|apply awS|apply awB
  refine awp_loopw (fun n st => ∃ i1 nx, i1 ≤ e.claims.length ∧ n = e.claims.length - i1 ∧ st = ⟨mkT [(5, .val (.one (.ptr 5 0 0))), (7, .val (.one (.sh 3 e.claims.length (flat cQ g)))), (53, .val (.one (.sh 5 e.claims.length (flat cClaim e.claims)))), (54, one (.int .i64 e.claims.length)), (55, one (.int .i64 i0)), (11, one (.int .i64 i0)), (12, .val (.one (.ptr 12 nx0 0))), (77, .val (.one (.sh 5 e.claims.length (flat cClaim e.claims)))), (78, one (.int .i64 e.claims.length)), (79, one (.int .i64 i1))], mkH [(5, ⟨0, 36, 5, 1, cEst e⟩), (12, ⟨nx0, 38, 5, 1, cClaim x0⟩)], nx, 0⟩) (e.claims.length) ⟨0, _, by omega, by omega, rfl⟩ ?_
  rintro n1 st ⟨i1, nx1, hk1, rfl, rfl⟩
  by_cases hlt1 : i1 < e.claims.length
  ·
   have hI1 : (i1 : Int) < (e.claims.length : Int) := by omega
   have hat1 := flat_at cClaim_len e.claims i1 hlt1
   try rw [Nat.mul_one] at hat1
   have hgi1 : i1 < g.length := by omega
   have hatk := flat_at cQ_len g i1 hgi1
   simp only [cQ, cRat] at hatk
   have hx1s := (hcn _ (List.getElem_mem hlt1)).1
   have hg1 := hP i1 hlt1 hgi1
   generalize e.claims[i1] = x1 at *
   refine awR [] [none] ?_
   simp only [(id F_lWR), seval, cEst, cRat, hI0, hat0, hI1, hat1]
   repeat refine ob ?_
   refine awT ?_
   refine awK ?_
   simp only [(id F_lWR), seval]
   refine awR [] [none, none, none, none, none, none] ?_
   simp only [(id F_lWR), seval, cEst, cRat, hI0, hat0, hI1, hat1, cClaim]
   repeat refine ob ?_
   by_cases hr : x0.rank < x1.rank
   ·
    by_cases hs : 0 < qSgn g[i1]
    ·
     have q1 : EqOK Tryz.prog 32 [.bool (enc g[i0]).neg, .string (enc g[i0]).num, .string (enc g[i0]).den] [.bool x0.amount.neg, .string x0.amount.num, .string x0.amount.den] := by rw [hg1.sen hr hs, hx0e]; exact EqOK_ratW _
     have q2 : eqVs [.bool (enc g[i0]).neg, .string (enc g[i0]).num, .string (enc g[i0]).den] [.bool x0.amount.neg, .string x0.amount.num, .string x0.amount.den] = true := by rw [hg1.sen hr hs, hx0e]; exact eqVs_ratW _
     have hSg := aSign (enc g[i1]) (by have := (sB_enc (hgB _ (List.getElem_mem hgi1))).1; have h9 : kG 6 1 1 = 896 := rfl; omega) (by have := (sB_enc (hgB _ (List.getElem_mem hgi1))).2; have h9 : kG 6 1 1 = 896 := rfl; omega)
     rw [qOf_enc] at hSg
     simp only [cRat] at hSg
     refine awD (scq [1, 3, 5, 7, 9, 11, 13, 15, 17, 19, 20, 23, 25, 27, 29, 31, 33, 35, 37, 39, 41, 43] .nil) [none, none, none, none, none, none, some (89, true), some (89, true), some (89, true), some (89, true), some (89, true), some (89, true), none, none, some (97, true), some (97, true), some (97, true), some (97, true), some (97, true), some (97, true), some (97, true), none] ?_
     simp only [(id F_lWR), seval, cEst, cRat, hI0, hat0, hI1, hat1, hr, hs, q1, q2, cClaim, hatg, hatk]
     repeat refine ob ?_
     refine ⟨_, hSg, (by first | rfl | simp [allA, pure1, pureCs, pureC, A1.cells, flat_pure cQ_pure, flat_pure cClaim_pure, flat_pure cAgr_pure]), ?_⟩
     try unfold Later
     try simp only [(id F_lWR), seval, cEst, cRat, hI0, hat0, hI1, hat1, hr, hs, q1, q2, cClaim, hatg, hatk]
     repeat refine ob ?_
     refine awF ?_
     refine awK ?_
     simp only [(id F_lWR), seval]
     have he : ¬ x0.rank = x1.rank := by omega
     refine awD (scq [1, 3, 5, 7, 9, 11, 13, 15, 17, 19, 21, 23, 27, 29, 31, 33, 35, 37, 24, 38, 41, 43] .nil) [none, none, none, none, none, none, some (111, true), some (111, true), some (111, true), some (111, true), some (111, true), some (111, true), some (111, true), some (111, true), some (111, true), some (111, true), some (111, true), some (111, true), some (111, true), some (111, true), some (111, true), none] ?_
     simp only [(id F_lWR), seval, cEst, cRat, hI0, hat0, hI1, hat1, hr, hs, q1, q2, cClaim, hatg, hatk, he]
     repeat refine ob ?_
     refine awF ?_
     refine awK ?_
     simp only [(id F_lWR), seval]
     refine awR [] [none, none] ?_
     simp only [(id F_lWR), seval, cEst, cRat, hI0, hat0, hI1, hat1, hr, hs, q1, q2]
     repeat refine ob ?_
     repeat refine ob ?_
     refine ⟨_, wk_keep [5, 7, 53, 54, 55, 11, 12, 77, 78, 79] [5, 12], e.claims.length - (i1 + 1), by omega, i1 + 1, ?a16_nx, by omega, rfl, ?st16⟩
     case st16 => (simp only [(id F_lWR), seval, cEst, cRat, hI0, hat0, hI1, hat1, hr, hs, q1, q2]; first | rfl | (simp [hI0, hat0, hI1, hat1, hr, hs, q1, q2, Nat.add_mul]; done))
    have hSg := aSign (enc g[i1]) (by have := (sB_enc (hgB _ (List.getElem_mem hgi1))).1; have h9 : kG 6 1 1 = 896 := rfl; omega) (by have := (sB_enc (hgB _ (List.getElem_mem hgi1))).2; have h9 : kG 6 1 1 = 896 := rfl; omega)
    rw [qOf_enc] at hSg
    simp only [cRat] at hSg
    refine awD (scq [1, 3, 5, 7, 9, 11, 13, 15, 17, 19, 20, 23, 25, 27, 29, 31, 33, 35, 37, 39, 41, 43] .nil) [none, none, none, none, none, none, some (89, true), some (89, true), some (89, true), some (89, true), some (89, true), some (89, true), none, none, some (97, true), some (97, true), some (97, true), some (97, true), some (97, true), some (97, true), some (97, true), none] ?_
    simp only [(id F_lWR), seval, cEst, cRat, hI0, hat0, hI1, hat1, hr, hs, cClaim, hatg, hatk]
    repeat refine ob ?_
    refine ⟨_, hSg, (by first | rfl | simp [allA, pure1, pureCs, pureC, A1.cells, flat_pure cQ_pure, flat_pure cClaim_pure, flat_pure cAgr_pure]), ?_⟩
    try unfold Later
    try simp only [(id F_lWR), seval, cEst, cRat, hI0, hat0, hI1, hat1, hr, hs, cClaim, hatg, hatk]
    repeat refine ob ?_
    refine awF ?_
    refine awK ?_
    simp only [(id F_lWR), seval]
    have he : ¬ x0.rank = x1.rank := by omega
    refine awD (scq [1, 3, 5, 7, 9, 11, 13, 15, 17, 19, 21, 23, 27, 29, 31, 33, 35, 37, 24, 38, 41, 43] .nil) [none, none, none, none, none, none, some (111, true), some (111, true), some (111, true), some (111, true), some (111, true), some (111, true), some (111, true), some (111, true), some (111, true), some (111, true), some (111, true), some (111, true), some (111, true), some (111, true), some (111, true), none] ?_
    simp only [(id F_lWR), seval, cEst, cRat, hI0, hat0, hI1, hat1, hr, hs, cClaim, hatg, hatk, he]
    repeat refine ob ?_
    refine awF ?_
    refine awK ?_
    simp only [(id F_lWR), seval]
    refine awR [] [none, none] ?_
    simp only [(id F_lWR), seval, cEst, cRat, hI0, hat0, hI1, hat1, hr, hs]
    repeat refine ob ?_
    repeat refine ob ?_
    refine ⟨_, wk_keep [5, 7, 53, 54, 55, 11, 12, 77, 78, 79] [5, 12], e.claims.length - (i1 + 1), by omega, i1 + 1, ?a20_nx, by omega, rfl, ?st20⟩
    case st20 => (simp only [(id F_lWR), seval, cEst, cRat, hI0, hat0, hI1, hat1, hr, hs]; first | rfl | (simp [hI0, hat0, hI1, hat1, hr, hs, Nat.add_mul]; done))
   have hSg := aSign (enc g[i1]) (by have := (sB_enc (hgB _ (List.getElem_mem hgi1))).1; have h9 : kG 6 1 1 = 896 := rfl; omega) (by have := (sB_enc (hgB _ (List.getElem_mem hgi1))).2; have h9 : kG 6 1 1 = 896 := rfl; omega)
   rw [qOf_enc] at hSg
   simp only [cRat] at hSg
   refine awD (scq [1, 3, 5, 7, 9, 11, 13, 15, 17, 19, 20, 23, 25, 27, 29, 31, 33, 35, 37, 39, 41, 43] .nil) [none, none, none, none, none, none, some (89, true), some (89, true), some (89, true), some (89, true), some (89, true), some (89, true), none, none, some (97, true), some (97, true), some (97, true), some (97, true), some (97, true), some (97, true), some (97, true), none] ?_
   simp only [(id F_lWR), seval, cEst, cRat, hI0, hat0, hI1, hat1, hr, cClaim, hatg, hatk]
   repeat refine ob ?_
   refine awF ?_
   refine awK ?_
   simp only [(id F_lWR), seval]
   by_cases he : x0.rank = x1.rank
   ·
    have hM1 := aMulE g[i0] x1.amount _ _ (hgB _ (List.getElem_mem hgi0)) hx1s (by decide) (by decide) (by decide) (by decide)
    rw [hg1.par he] at hM1
    have hM2 := aMulE g[i1] x0.amount _ _ (hgB _ (List.getElem_mem hgi1)) hx0s (by decide) (by decide) (by decide) (by decide)
    have q3 := EqOK_ratW (enc (g[i1] * qOf x0.amount))
    have q4 := eqVs_ratW (enc (g[i1] * qOf x0.amount))
    simp only [cRat] at hM1 hM2
    refine awD (scq [1, 3, 5, 7, 9, 11, 13, 15, 17, 19, 21, 23, 27, 29, 31, 33, 35, 37, 24, 38, 41, 43] .nil) [none, none, none, none, none, none, some (111, true), some (111, true), some (111, true), some (111, true), some (111, true), some (111, true), some (111, true), some (111, true), some (111, true), some (111, true), some (111, true), some (111, true), some (111, true), some (111, true), some (111, true), none] ?_
    simp only [(id F_lWR), seval, cEst, cRat, hI0, hat0, hI1, hat1, hr, he, q3, q4, cClaim, hatg, hatk]
    repeat refine ob ?_
    refine ⟨_, hM1, (by first | rfl | simp [allA, pure1, pureCs, pureC, A1.cells, flat_pure cQ_pure, flat_pure cClaim_pure, flat_pure cAgr_pure]), ?_⟩
    try unfold Later
    try simp only [(id F_lWR), seval, cEst, cRat, hI0, hat0, hI1, hat1, hr, he, q3, q4, cClaim, hatg, hatk]
    repeat refine ob ?_
    refine ⟨_, hM2, (by first | rfl | simp [allA, pure1, pureCs, pureC, A1.cells, flat_pure cQ_pure, flat_pure cClaim_pure, flat_pure cAgr_pure]), ?_⟩
    try unfold Later
    try simp only [(id F_lWR), seval, cEst, cRat, hI0, hat0, hI1, hat1, hr, he, q3, q4, cClaim, hatg, hatk]
    repeat refine ob ?_
    refine awF ?_
    refine awK ?_
    simp only [(id F_lWR), seval]
    refine awR [] [none, none] ?_
    simp only [(id F_lWR), seval, cEst, cRat, hI0, hat0, hI1, hat1, hr, he, q3, q4]
    repeat refine ob ?_
    repeat refine ob ?_
    refine ⟨_, wk_keep [5, 7, 53, 54, 55, 11, 12, 77, 78, 79] [5, 12], e.claims.length - (i1 + 1), by omega, i1 + 1, ?a24_nx, by omega, rfl, ?st24⟩
    case st24 => (simp only [(id F_lWR), seval, cEst, cRat, hI0, hat0, hI1, hat1, hr, he, q3, q4]; first | rfl | (simp [hI0, hat0, hI1, hat1, hr, he, q3, q4, Nat.add_mul]; done))
   refine awD (scq [1, 3, 5, 7, 9, 11, 13, 15, 17, 19, 21, 23, 27, 29, 31, 33, 35, 37, 24, 38, 41, 43] .nil) [none, none, none, none, none, none, some (111, true), some (111, true), some (111, true), some (111, true), some (111, true), some (111, true), some (111, true), some (111, true), some (111, true), some (111, true), some (111, true), some (111, true), some (111, true), some (111, true), some (111, true), none] ?_
   simp only [(id F_lWR), seval, cEst, cRat, hI0, hat0, hI1, hat1, hr, he, cClaim, hatg, hatk]
   repeat refine ob ?_
   refine awF ?_
   refine awK ?_
   simp only [(id F_lWR), seval]
   refine awR [] [none, none] ?_
   simp only [(id F_lWR), seval, cEst, cRat, hI0, hat0, hI1, hat1, hr, he]
   repeat refine ob ?_
   repeat refine ob ?_
   refine ⟨_, wk_keep [5, 7, 53, 54, 55, 11, 12, 77, 78, 79] [5, 12], e.claims.length - (i1 + 1), by omega, i1 + 1, ?a27_nx, by omega, rfl, ?st27⟩
   case st27 => (simp only [(id F_lWR), seval, cEst, cRat, hI0, hat0, hI1, hat1, hr, he]; first | rfl | (simp [hI0, hat0, hI1, hat1, hr, he, Nat.add_mul]; done))
  obtain rfl : i1 = e.claims.length := by omega
  have hI1 : ¬ (e.claims.length : Int) < (e.claims.length : Int) := by omega
  refine awR [] [none] ?_
  simp only [(id F_lWR), seval, cEst, cRat, hI0, hat0, hI1]
  repeat refine ob ?_
  refine awF ?_
  refine awQ ?_
  simp only [(id F_lWR), seval]
  refine awR [] [none, none] ?_
  simp only [(id F_lWR), seval, cEst, cRat, hI0, hat0, hI1]
  repeat refine ob ?_
  repeat refine ob ?_
  refine ⟨_, wk_keep [5, 7, 53, 54, 55] [5], e.claims.length - (i0 + 1), by omega, i0 + 1, ?a30_nx, by omega, rfl, ?st30⟩
  case st30 => (simp only [(id F_lWR), seval, cEst, cRat, hI0, hat0, hI1]; first | rfl | (simp [hI0, hat0, hI1, Nat.add_mul]; done))
 obtain rfl : i0 = e.claims.length := by omega
 have hI0 : ¬ (e.claims.length : Int) < (e.claims.length : Int) := by omega
 refine awR [] [none] ?_
 simp only [(id F_lWR), seval, cEst, cRat, hI0]
 repeat refine ob ?_
 refine awF ?_
 refine awQ ?_
 simp only [(id F_lWR), seval]
 refine awR [] [none, none] ?_
 simp only [(id F_lWR), seval, cEst, cRat, hI0]
 repeat refine ob ?_
 refine ⟨_, awake17_A, (by first | rfl | simp [allA, pure1, pureCs, pureC, A1.cells, flat_pure cQ_pure, flat_pure cClaim_pure, flat_pure cAgr_pure]), ?_⟩
 try unfold Later
 try simp only [(id F_lWR), seval, cEst, cRat, hI0]
 repeat refine ob ?_
 refine awX ?_
 (first | (simp only [(id F_lWR), seval, cEst, cRat, hI0]; done) | (simp only [(id F_lWR), seval, cEst, cRat]; first | (simp [hI0]; done)))
theorem lWR_walk (v0 v1 : Value) (list : List N4) (money : Nat) (W : World) (o0 : rC (cSl 4 cN4) (okSl okN4) W (LT W.heap.size) [v0] list) (o1 : rC cU16 (· < 65536) W (LT W.heap.size) [v1] money) :
    Calls Tryz.prog 11 #[v0, v1] W fun e w' => e = .returned (.bool true) ∧ Below W.heap.size W w' := by
  obtain ⟨h0, k0⟩ := den_oneC o0 rfl
  obtain ⟨h1, k1⟩ := den_oneC o1 rfl
  exact acall_law (vs := [v0, v1]) (lWR_A list money k0 k1) ⟨h0, h1, trivial⟩
end Go.Proofs.YtmbahnmhicdjfaaGreatDoor
end
