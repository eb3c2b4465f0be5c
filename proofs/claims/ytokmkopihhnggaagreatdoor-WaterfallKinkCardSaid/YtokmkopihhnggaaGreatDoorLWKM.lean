/- WaterfallKink: the law's own function; walked by the abstract machine. -/
import Derived.Test.YtokmkopihhnggaaGreatDoorWs3M
set_option linter.unusedVariables false
set_option linter.unusedSimpArgs false
set_option linter.defProp false
namespace Go.Proofs.YtokmkopihhnggaaGreatDoor
open Go Go.RowKit
theorem wRems_le (g : List Rat) : ∀ ps : List WPool, (∀ p ∈ ps, p.2.length ≤ 25) → wRems g ps ≤ ps.length * 25
 | [], _ => Nat.le_refl _
 | p :: ps, h => by
  have h1 := wRems_le g ps fun q hq => h q (by simp [hq])
  have h2 := h p (by simp)
  rw [wRems, List.length_cons]
  unfold wRem
  omega
theorem mu_le {e : GEst} (h : wcOK e) (hn : e.agrs.length ≤ 2) (x : Rat) : wMu (wLay e) x ≤ 58 := by
 have h1 : wRem (wLay e).ranks x ≤ 8 := by
  have h8 : (wLay e).ranks.length = 8 := wRanks_len _
  unfold wRem
  omega
 have h2 := wRems_le (wGross (wLay e) x) (wLay e).pools fun p hp => by
  obtain ⟨a, ha, rfl⟩ := List.mem_map.1 hp
  have e4 : (wPool e.claims a).2.length = a.length + 1 := by show ((wTiers a _).2 ++ [_]).length = _; rw [List.length_append, (wTiers_len a _).1]; rfl
  have := (h.ag a ha).1
  omega
 have h3 : (wLay e).pools.length = e.agrs.length := List.length_map _
 unfold wMu
 omega
theorem cmp_ge {p q : Rat} (h : q ≤ p) : 0 ≤ qCmp p q := by unfold qCmp; grind
theorem sgn_z : qSgn 0 = 0 := by unfold qSgn qCmp; grind
def F44 := And.intro zS (And.intro tf50 (And.intro tf51 (tf18)))
set_option maxRecDepth 100000 in
set_option maxHeartbeats 4000000 in
theorem sameRats_A (l k : List Rat) (n9 : Nat) (hl : l.length = n9) (hk : k.length = n9) (hn : n9 ≤ 1000000) : ACall Tryz.prog 43 [.one (.sh 3 n9 (flat cQ l)), .one (.sh 3 n9 (flat cQ k))] (one (.bool (eqR l k))) := by
 subst hl
 refine acall_of Tryz.func43 rfl (by decide) (N := 26) rfl (by simp) (R := [.tmp 4]) rfl fun en k0 => ?_
 refine awN ?_
 simp only [(id F44), seval, cRat]
 repeat refine ob ?_
 refine awN ?_
 simp only [(id F44), seval, cRat, hk]
 repeat refine ob ?_
 refine awF ?_
 refine awK ?_
 simp only [(id F44), seval]
 refine awN ?_
 simp only [(id F44), seval, cRat]
 repeat refine ob ?_
 refine awp_keep [0, 1, 5] [] ?_
 try unfold Later
 try simp only [(id F44), seval, cRat]
 repeat' first|apply awS|apply awB
 refine awp_loopw (fun n st => ∃ i0 nx, i0 ≤ l.length ∧ n = l.length - i0 ∧ eqR (l.drop i0) (k.drop i0) = eqR l (k.drop 0) ∧ st = ⟨mkT [(0, .val (.one (.sh 3 l.length (flat cQ l)))), (1, .val (.one (.sh 3 l.length (flat cQ k)))), (5, one (.int .i64 i0))], mkH [], nx, 0⟩) (l.length) ⟨0, _, by omega, by omega, by rfl, rfl⟩ ?_
 rintro n0 st ⟨i0, nx0, hk0, rfl, hL0, rfl⟩
 by_cases hlt0 : i0 < l.length
 ·
  have hI0 : (i0 : Int) < (l.length : Int) := by omega
  have hat0 := flat_at cQ_len l i0 hlt0
  try rw [Nat.mul_one] at hat0
  rw [List.drop_eq_getElem_cons hlt0] at hL0
  have hik : i0 < k.length := by omega
  have hatk := flat_at cQ_len k i0 hik
  simp only [cQ, cRat] at hatk
  rw [List.drop_eq_getElem_cons hik] at hL0
  generalize l[i0] = x at *
  simp only [eqR_cons, eqR_nil] at hL0
  refine awN ?_
  simp only [(id F44), seval, cRat, hI0, hat0]
  repeat refine ob ?_
  refine awT ?_
  refine awK ?_
  simp only [(id F44), seval]
  by_cases heq : x = k[i0]
  ·
   have q3 : decide (x = k[i0]) = true := by simp [heq]
   have q1 := EqOK_two (enc x) (enc k[i0])
   have q2 := eqVs_two x k[i0]
   refine awD (scT 0 9 .nil) [none, none, none, none, none, none, none, none, none] ?_
   simp only [(id F44), seval, cRat, hI0, hat0, q3, hat0, hatk, cQ, q1, q2]
   repeat refine ob ?_
   refine awF ?_
   refine awK ?_
   simp only [(id F44), seval]
   refine awN ?_
   simp only [(id F44), seval, cRat, hI0, hat0, q3]
   repeat refine ob ?_
   repeat refine ob ?_
   refine ⟨_, wk_keep [0, 1, 5] [], l.length - (i0 + 1), by omega, i0 + 1, ?a6_nx, by omega, rfl, ?i6_0, ?st6⟩
   case st6 => (simp only [(id F44), seval, cRat, hI0, hat0, q3]; first | rfl | (simp [hI0, hat0, q3, Nat.add_mul]; done))
   case i6_0 => (rw [if_pos heq, List.drop_zero] at hL0; exact hL0)
  have q3 : decide (x = k[i0]) = false := by simp [heq]
  have q1 := EqOK_two (enc x) (enc k[i0])
  have q2 := eqVs_two x k[i0]
  refine awD (scT 0 9 .nil) [none, none, none, none, none, none, none, none, none] ?_
  simp only [(id F44), seval, cRat, hI0, hat0, q3, hat0, hatk, cQ, q1, q2]
  repeat refine ob ?_
  refine awT ?_
  refine awN ?_
  simp only [(id F44), seval, cRat, hI0, hat0, q3]
  repeat refine ob ?_
  refine awX ?_
  try simp only [(id F44), seval]
  have h9 : eqR l k = false := by rw [List.drop_zero, if_neg heq] at hL0; exact hL0.symm
  rw [h9]
 obtain rfl : i0 = l.length := by omega
 have hI0 : ¬ (l.length : Int) < (l.length : Int) := by omega
 rw [List.drop_length] at hL0
 simp only [eqR_cons, eqR_nil] at hL0
 refine awN ?_
 simp only [(id F44), seval, cRat, hI0]
 repeat refine ob ?_
 refine awF ?_
 refine awQ ?_
 simp only [(id F44), seval]
 refine awN ?_
 simp only [(id F44), seval, cRat, hI0]
 repeat refine ob ?_
 refine awX ?_
 try simp only [(id F44), seval]
 have h9 : eqR l k = true := by rw [List.drop_zero] at hL0; exact hL0.symm
 rw [h9]
def F45 := And.intro zS (And.intro tf75 (And.intro tf18 (And.intro tf86 (tf39))))
set_option maxRecDepth 100000 in
set_option maxHeartbeats 4000000 in
theorem lWK_A (list : List N4) (pools : List N3) (money : Nat) (hls : okSl okN4 list) (hps : okSl okN3 pools) (hm : money < 65536) : ACall Tryz.prog 9 [.one (.sh 4 list.length (flat cN4 list)), .one (.sh 3 pools.length (flat cN3 pools)), .one (.lit (.int .u16 money))] (one (.bool true)) := by
 have hl1 : list.length ≤ 9223372036854775807 := Nat.le_trans hls.1 (by decide)
 have hp1 : pools.length ≤ 9223372036854775807 := Nat.le_trans hps.1 (by decide)
 refine acall_of Tryz.func9 rfl (by decide) (N := 87) rfl (by simp) (R := [.tmp 6]) rfl fun en k0 => ?_
 refine awN ?_
 simp only [(id F45), seval, cEst, cRat]
 repeat refine ob ?_
 have hE := est_A 0 list pools (by decide) hls.2 hps.2 hl1 hp1
 have hI := estN_in 0 list pools (M := 704000) (by decide) (by decide)
 have h0 := estN_wc 0 list pools
 have heo := estN_eok 0 list pools
 have hcn := (estN_ok 0 list pools).2.2.1
 have hen := (estN_ok 0 list pools).1.1
 have hea := (estN_ok 0 list pools).1.2.1
 generalize estN 0 list pools = e at *
 have hmu := mu_le (wc_ok h0) hea
 simp only [cEst] at hE
 refine awN ?_
 simp only [(id F45), seval, cEst, cRat, flat_pure cClaim_pure, flat_pure cAgr_pure, flat_pure cN4_pure, flat_pure cN3_pure, flat_pure cQ_pure]
 repeat refine ob ?_
 refine ⟨_, hE, (by first | rfl | simp [allA, pure1, pureCs, pureC, A1.cells, flat_pure cQ_pure, flat_pure cClaim_pure, flat_pure cAgr_pure]), ?_⟩
 try unfold Later
 try simp only [(id F45), seval, cEst, cRat, flat_pure cClaim_pure, flat_pure cAgr_pure, flat_pure cN4_pure, flat_pure cN3_pure, flat_pure cQ_pure]
 repeat refine ob ?_
 have hAm := aAmount money hm
 have hmB := amt_qB money
 have hm0 := amt_nonneg money
 generalize qAmt money = m at *
 simp only [cRat] at hAm
 refine awN ?_
 simp only [(id F45), seval, cEst, cRat]
 repeat refine ob ?_
 refine ⟨_, hAm, (by first | rfl | simp [allA, pure1, pureCs, pureC, A1.cells, flat_pure cQ_pure, flat_pure cClaim_pure, flat_pure cAgr_pure]), ?_⟩
 try unfold Later
 try simp only [(id F45), seval, cEst, cRat]
 repeat refine ob ?_
 have hT := wTotal_A e 1 704000 6 2 hI
 simp only [ttR, h0, if_true, cEst, cRat] at hT
 have htB := wTotU_B hcn hen
 obtain ⟨t, ht⟩ : ∃ t, wTotal e.claims = t := ⟨_, rfl⟩
 rw [ht] at hT htB
 refine awN ?_
 simp only [(id F45), seval, cEst, cRat, flat_pure cClaim_pure, flat_pure cAgr_pure, flat_pure cN4_pure, flat_pure cN3_pure, flat_pure cQ_pure]
 repeat refine ob ?_
 refine ⟨_, hT, (by first | rfl | simp [allA, pure1, pureCs, pureC, A1.cells, flat_pure cQ_pure, flat_pure cClaim_pure, flat_pure cAgr_pure]), ?_⟩
 try unfold Later
 try simp only [(id F45), seval, cEst, cRat, flat_pure cClaim_pure, flat_pure cAgr_pure, flat_pure cN4_pure, flat_pure cN3_pure, flat_pure cQ_pure]
 repeat refine ob ?_
 refine awN ?_
 simp only [(id F45), seval, cEst, cRat]
 repeat refine ob ?_
 refine awp_keep [7, 8, 9, 11] [7, 8, 9] ?_
 try unfold Later
 try simp only [(id F45), seval, cEst, cRat]
 repeat' first|apply awS|apply awB
 refine awp_loopw (fun n st => ∃ j x nx, j ≤ 100 ∧ n = 100 - j ∧ wMu (wLay e) x + j < 100 ∧ qB 703900 x ∧ 0 ≤ x ∧ st = ⟨mkT [(7, .val (.one (.ptr 7 0 0))), (8, .val (.one (.ptr 8 1 0))), (9, .val (.one (.ptr 9 2 0))), (11, one (.int .i64 j))], mkH [(7, ⟨0, 36, 5, 1, cEst e⟩), (8, ⟨1, 32, 3, 1, cRat (enc x)⟩), (9, ⟨2, 32, 3, 1, cRat (enc t)⟩)], nx, 0⟩) (100) ⟨0, m, _, by omega, by omega, by have := hmu m; omega, hmB.mono (by decide), hm0, rfl⟩ ?_
 rintro n0 st ⟨j, x, nx0, hj, rfl, hmx, hxB, hx0, rfl⟩
 have hlt : (j : Int) < 100 := by omega
 refine awN ?_
 simp only [(id F45), seval, cEst, cRat, hlt]
 repeat refine ob ?_
 refine awT ?_
 refine awK ?_
 simp only [(id F45), seval]
 have hNx := wNextN_A e (enc x) hI (sB_enc (hxB.mono (by decide)))
 rw [mPos_enc hx0] at hNx
 simp only [neR, h0, if_true, decide_true, Bool.true_and, cEst, cRat] at hNx
 refine awN ?_
 simp only [(id F45), seval, cEst, cRat, hlt, flat_pure cClaim_pure, flat_pure cAgr_pure, flat_pure cN4_pure, flat_pure cN3_pure, flat_pure cQ_pure]
 repeat refine ob ?_
 refine ⟨_, hNx, (by first | rfl | simp [allA, pure1, pureCs, pureC, A1.cells, flat_pure cQ_pure, flat_pure cClaim_pure, flat_pure cAgr_pure]), ?_⟩
 try unfold Later
 try simp only [(id F45), seval, cEst, cRat, hlt, flat_pure cClaim_pure, flat_pure cAgr_pure, flat_pure cN4_pure, flat_pure cN3_pure, flat_pure cQ_pure]
 repeat refine ob ?_
 refine awN ?_
 simp only [(id F45), seval, cEst, cRat, hlt]
 repeat refine ob ?_
 refine awF ?_
 refine awK ?_
 simp only [(id F45), seval]
 by_cases hno : (wNext (wLay e) x).isSome = true
 ·
  obtain ⟨y, hy⟩ := Option.isSome_iff_exists.1 hno
  have hk := next_some heo hx0 hy
  have hyB := next_B hI h0 hx0 hy
  have hgy : (wNext (wLay e) x).getD 0 = y := by rw [hy]; rfl
  refine awN ?_
  simp only [(id F45), seval, cEst, cRat, hlt, hno, hgy]
  repeat refine ob ?_
  refine awF ?_
  refine awK ?_
  simp only [(id F45), seval]
  have hS1 := wSlopes_A e (enc x) 1 704000 6 2 hI (sB_enc (hxB.mono (by decide)))
  rw [mPos_enc hx0] at hS1
  simp only [slR, h0, if_true, cEst, cRat] at hS1
  have hy0 : 0 ≤ y := by have := hk.gt; grind
  refine awN ?_
  simp only [(id F45), seval, cEst, cRat, hlt, hno, hgy, flat_pure cClaim_pure, flat_pure cAgr_pure, flat_pure cN4_pure, flat_pure cN3_pure, flat_pure cQ_pure]
  repeat refine ob ?_
  refine ⟨_, hS1, (by first | rfl | simp [allA, pure1, pureCs, pureC, A1.cells, flat_pure cQ_pure, flat_pure cClaim_pure, flat_pure cAgr_pure]), ?_⟩
  try unfold Later
  try simp only [(id F45), seval, cEst, cRat, hlt, hno, hgy, flat_pure cClaim_pure, flat_pure cAgr_pure, flat_pure cN4_pure, flat_pure cN3_pure, flat_pure cQ_pure]
  repeat refine ob ?_
  have hS2 := wSlopes_A e (enc y) 1 704000 6 2 hI (sB_enc (hyB.mono (by decide)))
  rw [mPos_enc hy0] at hS2
  simp only [slR, h0, if_true, cEst, cRat] at hS2
  refine awN ?_
  simp only [(id F45), seval, cEst, cRat, hlt, hno, hgy, flat_pure cClaim_pure, flat_pure cAgr_pure, flat_pure cN4_pure, flat_pure cN3_pure, flat_pure cQ_pure]
  repeat refine ob ?_
  refine ⟨_, hS2, (by first | rfl | simp [allA, pure1, pureCs, pureC, A1.cells, flat_pure cQ_pure, flat_pure cClaim_pure, flat_pure cAgr_pure]), ?_⟩
  try unfold Later
  try simp only [(id F45), seval, cEst, cRat, hlt, hno, hgy, flat_pure cClaim_pure, flat_pure cAgr_pure, flat_pure cN4_pure, flat_pure cN3_pure, flat_pure cQ_pure]
  repeat refine ob ?_
  by_cases hcl : eqR (wSlo (wLay e) x).cl (wSlo (wLay e) y).cl = true
  ·
   have q3 : decide ((wSlo (wLay e) x).rv = (wSlo (wLay e) y).rv) = false := by have h9 := (eqR_iff (by rw [slo_len, slo_len])).1 hcl; exact decide_eq_false fun h => hk.ne ⟨h.symm, h9.symm⟩
   have hSR := sameRats_A (wSlo (wLay e) x).cl (wSlo (wLay e) y).cl e.claims.length (slo_len e x) (slo_len e y) (by omega)
   have q1 := EqOK_two (enc (wSlo (wLay e) x).rv) (enc (wSlo (wLay e) y).rv)
   have q2 := eqVs_two (wSlo (wLay e) x).rv (wSlo (wLay e) y).rv
   have hCm := aCmpQ y t (hyB.mono (by decide)) htB
   have hcn2 : ¬ 0 < qCmp y t := cmp_le (by rw [← ht]; exact hk.le)
   simp only [cRat] at hCm
   refine awR [] [none, none, none, none, some (75, true), some (75, true), some (75, true), none, none, some (80, false), some (80, false), some (80, false), some (80, false), none] ?_
   simp only [(id F45), seval, cEst, cRat, hlt, hno, hgy, hcl, q3, flat_pure cClaim_pure, flat_pure cAgr_pure, flat_pure cN4_pure, flat_pure cN3_pure, flat_pure cQ_pure, q1, q2, hcn2]
   repeat refine ob ?_
   refine ⟨_, hSR, (by first | rfl | simp [allA, pure1, pureCs, pureC, A1.cells, flat_pure cQ_pure, flat_pure cClaim_pure, flat_pure cAgr_pure]), ?_⟩
   try unfold Later
   try simp only [(id F45), seval, cEst, cRat, hlt, hno, hgy, hcl, q3, flat_pure cClaim_pure, flat_pure cAgr_pure, flat_pure cN4_pure, flat_pure cN3_pure, flat_pure cQ_pure, q1, q2, hcn2]
   repeat refine ob ?_
   refine ⟨_, hCm, (by first | rfl | simp [allA, pure1, pureCs, pureC, A1.cells, flat_pure cQ_pure, flat_pure cClaim_pure, flat_pure cAgr_pure]), ?_⟩
   try unfold Later
   try simp only [(id F45), seval, cEst, cRat, hlt, hno, hgy, hcl, q3, flat_pure cClaim_pure, flat_pure cAgr_pure, flat_pure cN4_pure, flat_pure cN3_pure, flat_pure cQ_pure, q1, q2, hcn2]
   repeat refine ob ?_
   refine awF ?_
   refine awK ?_
   simp only [(id F45), seval]
   refine awN ?_
   simp only [(id F45), seval, cEst, cRat, hlt, hno, hgy, hcl, q3]
   repeat refine ob ?_
   refine awN ?_
   simp only [(id F45), seval, cEst, cRat, hlt, hno, hgy, hcl, q3]
   repeat refine ob ?_
   repeat refine ob ?_
   refine ⟨_, wk_keep [7, 8, 9, 11] [7, 8, 9], 100 - (j + 1), by omega, j + 1, y, ?na, by omega, rfl, by have := hk.mu; omega, hyB, hy0, ?st⟩
   case st => (simp only [(id F45), seval, cEst, cRat, hgy]; first | rfl | (simp; done))
  have hSR := sameRats_A (wSlo (wLay e) x).cl (wSlo (wLay e) y).cl e.claims.length (slo_len e x) (slo_len e y) (by omega)
  have q1 := EqOK_two (enc (wSlo (wLay e) x).rv) (enc (wSlo (wLay e) y).rv)
  have q2 := eqVs_two (wSlo (wLay e) x).rv (wSlo (wLay e) y).rv
  have hCm := aCmpQ y t (hyB.mono (by decide)) htB
  have hcn2 : ¬ 0 < qCmp y t := cmp_le (by rw [← ht]; exact hk.le)
  simp only [cRat] at hCm
  refine awR [] [none, none, none, none, some (75, true), some (75, true), some (75, true), none, none, some (80, false), some (80, false), some (80, false), some (80, false), none] ?_
  simp only [(id F45), seval, cEst, cRat, hlt, hno, hgy, hcl, flat_pure cClaim_pure, flat_pure cAgr_pure, flat_pure cN4_pure, flat_pure cN3_pure, flat_pure cQ_pure, q1, q2, hcn2]
  repeat refine ob ?_
  refine ⟨_, hSR, (by first | rfl | simp [allA, pure1, pureCs, pureC, A1.cells, flat_pure cQ_pure, flat_pure cClaim_pure, flat_pure cAgr_pure]), ?_⟩
  try unfold Later
  try simp only [(id F45), seval, cEst, cRat, hlt, hno, hgy, hcl, flat_pure cClaim_pure, flat_pure cAgr_pure, flat_pure cN4_pure, flat_pure cN3_pure, flat_pure cQ_pure, q1, q2, hcn2]
  repeat refine ob ?_
  refine ⟨_, hCm, (by first | rfl | simp [allA, pure1, pureCs, pureC, A1.cells, flat_pure cQ_pure, flat_pure cClaim_pure, flat_pure cAgr_pure]), ?_⟩
  try unfold Later
  try simp only [(id F45), seval, cEst, cRat, hlt, hno, hgy, hcl, flat_pure cClaim_pure, flat_pure cAgr_pure, flat_pure cN4_pure, flat_pure cN3_pure, flat_pure cQ_pure, q1, q2, hcn2]
  repeat refine ob ?_
  refine awF ?_
  refine awK ?_
  simp only [(id F45), seval]
  refine awN ?_
  simp only [(id F45), seval, cEst, cRat, hlt, hno, hgy, hcl]
  repeat refine ob ?_
  refine awN ?_
  simp only [(id F45), seval, cEst, cRat, hlt, hno, hgy, hcl]
  repeat refine ob ?_
  repeat refine ob ?_
  refine ⟨_, wk_keep [7, 8, 9, 11] [7, 8, 9], 100 - (j + 1), by omega, j + 1, y, ?na, by omega, rfl, by have := hk.mu; omega, hyB, hy0, ?st⟩
  case st => (simp only [(id F45), seval, cEst, cRat, hgy]; first | rfl | (simp; done))
 have hnn : wNext (wLay e) x = none := by simpa using hno
 have htx := next_none heo hx0 hnn
 have hgy : (wNext (wLay e) x).getD 0 = 0 := by rw [hnn]; rfl
 refine awN ?_
 simp only [(id F45), seval, cEst, cRat, hlt, hno, hgy]
 repeat refine ob ?_
 refine awT ?_
 have hCm := aCmpQ x t (hxB.mono (by decide)) htB
 have hcg : 0 ≤ qCmp x t := cmp_ge (by rw [← ht]; exact htx)
 have hSg := aSgnB 0 1 qB_zero (by decide)
 rw [sgn_z] at hSg
 simp only [cRat] at hCm hSg
 refine awR [] [none, none, some (47, true), some (47, true), some (47, true), some (47, true), none, none, some (53, true), some (53, true), some (53, true), none, none] ?_
 simp only [(id F45), seval, cEst, cRat, hlt, hno, hgy, hcg, decide_true]
 repeat refine ob ?_
 refine ⟨_, awake17_A, (by first | rfl | simp [allA, pure1, pureCs, pureC, A1.cells, flat_pure cQ_pure, flat_pure cClaim_pure, flat_pure cAgr_pure]), ?_⟩
 try unfold Later
 try simp only [(id F45), seval, cEst, cRat, hlt, hno, hgy, hcg, decide_true]
 repeat refine ob ?_
 refine ⟨_, hCm, (by first | rfl | simp [allA, pure1, pureCs, pureC, A1.cells, flat_pure cQ_pure, flat_pure cClaim_pure, flat_pure cAgr_pure]), ?_⟩
 try unfold Later
 try simp only [(id F45), seval, cEst, cRat, hlt, hno, hgy, hcg, decide_true]
 repeat refine ob ?_
 refine ⟨_, hSg, (by first | rfl | simp [allA, pure1, pureCs, pureC, A1.cells, flat_pure cQ_pure, flat_pure cClaim_pure, flat_pure cAgr_pure]), ?_⟩
 try unfold Later
 try simp only [(id F45), seval, cEst, cRat, hlt, hno, hgy, hcg, decide_true]
 repeat refine ob ?_
 refine awX ?_
 (first | (simp only [(id F45), seval, cEst, cRat, hlt, hno, hgy]; done) | (simp only [(id F45), seval, cEst, cRat]; first | (simp [hlt, hno, hgy]; done)))
theorem lWK_walk (v0 v1 v2 : Value) (list : List N4) (pools : List N3) (money : Nat) (W : World) (o0 : rC (cSl 4 cN4) (okSl okN4) W (LT W.heap.size) [v0] list) (o1 : rC (cSl 3 cN3) (okSl okN3) W (LT W.heap.size) [v1] pools) (o2 : rC cU16 (· < 65536) W (LT W.heap.size) [v2] money) :
  Calls Tryz.prog 9 #[v0, v1, v2] W fun e w' => e = .returned (.bool true) ∧ Below W.heap.size W w' := by
 obtain ⟨h0, k0⟩ := den_oneC o0 rfl
 obtain ⟨h1, k1⟩ := den_oneC o1 rfl
 obtain ⟨h2, k2⟩ := den_oneC o2 rfl
 exact acall_law (vs := [v0, v1, v2]) (lWK_A list pools money k0 k1 k2) ⟨h0, h1, h2, trivial⟩
end Go.Proofs.YtokmkopihhnggaaGreatDoor
