/- The waterfall: the slopes of what is delivered, the step to the next kink; walked by the abstract machine. -/
import Derived.Test.YtokmkopihhnggaaGreatDoorWs1M
set_option linter.unusedVariables false
set_option linter.unusedSimpArgs false
set_option linter.defProp false
namespace Go.Proofs.YtokmkopihhnggaaGreatDoor
open Go Go.RowKit
noncomputable def stR (L : WL) (m : Rat) : AV := .tup [.agg (cRat (enc (if wOpen L.ranks m then wStep L m else 0))), .one (.lit (.bool (decide (wOpen L.ranks m))))]
theorem aMinQ (p q : Rat) (hp : qB 50000000000 p) (hq : qB 50000000000 q) : ACall Tryz.prog 36 [.agg (cRat (enc p)), .agg (cRat (enc q))] (.val (.agg (cRat (enc (qmin p q))))) := by
 have h := aMin (enc p) (enc q) 50000000000 50000000000 (sB_enc hp) (sB_enc hq) (by decide) (by decide) (by decide) (by decide)
 rwa [qOf_enc, qOf_enc] at h
theorem aSgnQ (q : Rat) (h : qB 50000000000 q) : ACall Tryz.prog 42 [.agg (cRat (enc q))] (one (.int .i64 (qSgn q))) := by
 have hs := sB_enc h
 have h := aSign (enc q) (Nat.le_trans hs.1 (by decide)) (Nat.le_trans hs.2 (by decide))
 rwa [qOf_enc] at h
theorem qSgn_gt (q : Rat) : 0 < qSgn q ↔ 0 < q := by unfold qSgn qCmp; grind
theorem wGap_B {K S M : Nat} {l : List WT} (h : wOK K S l) {m : Rat} (hm : qB M m) (ho : wOpen l m) : qB (S + (M + l.length * (S + 1)) + 1) (wGap l m) := by
 have h1 := wSplit_B l m M (fun t ht => (h.2 t ht).2.1) hm
 have hgd : l.getD (wSplit l m).1 [] = l[(wSplit l m).1]'ho := by rw [List.getD_eq_getElem?_getD, List.getElem?_eq_getElem ho]; rfl
 unfold wGap
 rw [hgd]
 exact (h.2 _ (List.getElem_mem ho)).2.1.sub h1
def F38 := And.intro zS (And.intro tf82 (And.intro tf70 (And.intro tf72 (And.intro tf65 (And.intro tf52 (And.intro tf53 (And.intro tf54 (And.intro tf74 (And.intro tf18 (And.intro tf76 (And.intro tf66 (And.intro tf67 (And.intro tf39 (tf69))))))))))))))
set_option maxRecDepth 100000 in
set_option maxHeartbeats 4000000 in
theorem lSlo_A (L : WL) (m : Rat) (K Sm M Z G K2 S2 Z2 : Nat) (hB : delB L K Sm M Z G K2 S2 Z2) (hM0 : 0 < M) (hM : qB M m) : ACall Tryz.prog 91 [.agg (cLay L), .agg (cRat (enc m))] (delR L.count (wSlo L m)) := by
 have hGg := hB.g
 have hGz := hB.gz
 have hGb := hB.gb
 have hBb : G + pSum L.pools * (Z2 + 1) ≤ 50000000000 := hB.b
 have hG0 : 0 < G := by omega
 have hLn := hB.n
 have hLp := hB.pn
 refine acall_of Tryz.func91 rfl (by decide) (N := 46) rfl (by simp) (R := [.tmp 4, .cell 5 32]) rfl fun en k0 => ?_
 refine awN ?_
 simp only [(id F38), seval, cRat, cLay]
 repeat refine ob ?_
 have hG := lGross_A L m K Sm M Z (by have := hB.n; omega) hB.rk hB.rin hM hB.z (by omega) (by have := hB.zb; omega)
 have hR := rates_A L m K Sm M Z (by have := hB.n; omega) hB.rk hB.rin hM (by have := hB.z; have := hB.zb; omega) (by have := hB.z; omega) (by omega) (by have := hB.zb; omega)
 simp only [cRat] at hG hR
 refine awD (scq [1, 3, 7, 9, 4, 10, 13, 15] .nil) [none, none, none, none, none, none, none, none] ?_
 simp only [(id F38), seval, cRat, cLay, flat_pure cWT_pure, flat_pure cPool_pure, flat_pure cQ_pure]
 repeat refine ob ?_
 refine ⟨_, hG, (by first | rfl | simp [allA, pure1, pureCs, pureC, A1.cells, flat_pure cQ_pure, flat_pure cI_pure, flat_pure cWT_pure]), ?_⟩
 try unfold Later
 try simp only [(id F38), seval, cRat, cLay, flat_pure cWT_pure, flat_pure cPool_pure, flat_pure cQ_pure]
 repeat refine ob ?_
 refine ⟨_, hR, (by first | rfl | simp [allA, pure1, pureCs, pureC, A1.cells, flat_pure cQ_pure, flat_pure cI_pure, flat_pure cWT_pure]), ?_⟩
 try unfold Later
 try simp only [(id F38), seval, cRat, cLay, flat_pure cWT_pure, flat_pure cPool_pure, flat_pure cQ_pure]
 repeat refine ob ?_
 have hgl := wGross_len L m
 have hgB := wGross_B hB hM
 have hkl := wRates_len L m
 have hkB := wRates_B hB hM0 m
 obtain ⟨g, hg⟩ : ∃ g, wGross L m = g := ⟨_, rfl⟩
 obtain ⟨kk, hk⟩ : ∃ g, wRates L m = g := ⟨_, rfl⟩
 rw [hg] at hgl hgB
 rw [hk] at hkl hkB
 rw [hg, hk]
 refine awR [19] [none, none, none, none] ?_
 simp only [(id F38), seval, cRat, cLay, flat_pure cWT_pure, flat_pure cPool_pure, flat_pure cQ_pure]
 repeat refine ob ?_
 refine ⟨_, take_I L kk _ _ hkl (by have := hB.n; omega) hB.pn (fun p hp => ⟨(hB.pl p hp).2.2.1, (hB.pl p hp).2.2.2⟩) (fun y B h => ?_), ?_⟩
 ·
  by_cases hy : y < 37
  ·
   exact hy
  exfalso
  simp only [up_apply] at h
  repeat rw [if_neg (by omega)] at h
  cases h
 rintro res H' nx' ⟨s, sc, rfl, rfl⟩
 simp only [(id F38), seval]
 repeat refine ob ?_
 obtain ⟨nx9, hnx9⟩ : ∃ n, nx' = n := ⟨_, rfl⟩
 simp only [hnx9]
 refine awN ?_
 simp only [(id F38), seval, cRat, cLay]
 repeat refine ob ?_
 have hR0 : (⟨wTake L.pools kk, 0⟩ : WR).B (G + 0 * (Z2 + 1)) := ⟨fun x hx => (wTake_B (by omega) L.pools kk hkB x hx).mono (by omega), qB_zero.mono (by omega)⟩
 have hR1 : (⟨wTake L.pools kk, 0⟩ : WR).cl.length = L.count := by show (wTake L.pools kk).length = _; rw [wTake_len]; exact hkl
 refine awp_keep [5, 6, 7, 8, 21, 22, 23] [50, 48, 5] ?_
 try unfold Later
 try simp only [(id F38), seval, cRat]
 repeat' first|apply awS|apply awB
 refine awp_loopw (fun n st => ∃ i0 R w nx, i0 ≤ L.pools.length ∧ n = L.pools.length - i0 ∧ wSPools g kk (L.pools.drop i0) R = wSPools g kk L.pools ⟨wTake L.pools kk, 0⟩ ∧ R.cl.length = L.count ∧ R.B (G + w * (Z2 + 1)) ∧ w + pSum (L.pools.drop i0) = pSum L.pools ∧ st = ⟨mkT [(5, .val (.one (.ptr 5 2 0))), (6, .val (.one (.sh 3 L.count (flat cQ g)))), (7, .val (.one (.sh 3 L.count (flat cQ kk)))), (8, .val (.one (.ptr 50 s 0))), (21, .val (.one (.sh 2 L.pools.length (flat cPool L.pools)))), (22, one (.int .i64 L.pools.length)), (23, one (.int .i64 i0))], mkH [(50, ⟨s, 200, 4, 1, .own 48 sc L.count 3 :: cRat (enc R.rv)⟩), (48, ⟨sc, 32, 3, L.count, flat cQ R.cl⟩), (5, ⟨2, 32, 3, 1, [.lit (.bool false), .lit (.string bEmpty), .lit (.string bEmpty)]⟩)], nx, 0⟩) (L.pools.length) ⟨0, ⟨wTake L.pools kk, 0⟩, 0, _, by omega, by omega, by rfl, (by first | omega | assumption | rfl | simp | (simp; omega)), (by first | omega | assumption | rfl | simp | (simp; omega)), (by first | omega | assumption | rfl | simp | (simp; omega)), rfl⟩ ?_
 rintro n0 st ⟨i0, R, w, nx0, hk0, rfl, hL0, hV0_1, hV0_2, hV0_3, rfl⟩
 by_cases hlt0 : i0 < L.pools.length
 ·
  have hI0 : (i0 : Int) < (L.pools.length : Int) := by omega
  have hat0 := flat_at cPool_len L.pools i0 hlt0
  try rw [Nat.mul_one] at hat0
  rw [List.drop_eq_getElem_cons hlt0] at hL0
  have hpp := hB.pl _ (List.getElem_mem hlt0)
  have hpz := hB.pz _ (List.getElem_mem hlt0)
  have hw0 := hV0_3
  rw [List.drop_eq_getElem_cons hlt0, pSum_cons] at hw0
  have hmw : (w + wN (L.pools[i0]).2) * (Z2 + 1) = w * (Z2 + 1) + wN (L.pools[i0]).2 * (Z2 + 1) := Nat.add_mul _ _ _
  have hm1 : (w + wN (L.pools[i0]).2) * (Z2 + 1) ≤ pSum L.pools * (Z2 + 1) := Nat.mul_le_mul_right _ (by omega)
  have hnl := wSlope_len (L.pools[i0]).2 (wTot g (L.pools[i0]).1) (wTot kk (L.pools[i0]).1) R
  have hnx := (wSlope_B hpp.1 (wTot g (L.pools[i0]).1) (wTot_B hkB (by omega) (L.pools[i0]).1) hV0_2).mono (n := G + (w + wN (L.pools[i0]).2) * (Z2 + 1)) (by have h7 : wN (L.pools[i0]).2 * (K2 + (1 + (L.pools[i0]).1.length * (G + 1) + S2) + 1) ≤ wN (L.pools[i0]).2 * (Z2 + 1) := Nat.mul_le_mul_left _ (by omega); omega)
  generalize L.pools[i0] = p at *
  simp only [wSPools] at hL0
  refine awN ?_
  simp only [(id F38), seval, cRat, hI0, hat0]
  repeat refine ob ?_
  refine awT ?_
  refine awK ?_
  simp only [(id F38), seval]
  refine awN ?_
  simp only [(id F38), seval, cRat, hI0, hat0, cPool]
  repeat refine ob ?_
  have hT := total_A p g L.count hgl G (fun i hi => by have := hpp.2.2.2 i hi; omega) hgB (by omega) (by have := hpp.2.2.1; omega) (by omega) (by have h8 := Nat.mul_le_mul hpp.2.2.1 (show G + 1 ≤ 40000001 by omega); omega)
  simp only [cPool, cRat] at hT
  have hU := total_A p kk L.count hkl G (fun i hi => by have := hpp.2.2.2 i hi; omega) hkB (by omega) (by have := hpp.2.2.1; omega) (by omega) (by have h8 := Nat.mul_le_mul hpp.2.2.1 (show G + 1 ≤ 40000001 by omega); omega)
  simp only [cPool, cRat] at hU
  have hTB := wTot_B hgB (by omega) p.1
  have hUB := wTot_B hkB (by omega) p.1
  have hRn := hV0_1
  have hRB := hV0_2
  repeat' first|apply awS|apply awB
  refine awp_drawsI [36] (by kernel_rfl) (.cons 0 true (.cons 1 true (.cons 2 true (.cons 3 true (.cons 5 true (.cons 6 true (.cons 8 true (.cons 4 false (.cons 7 false (.cons 9 false .nil)))))))))) (by kernel_rfl) (gs := [none, none, none, none, none, none, none, none, none, none]) (by kernel_rfl) (by simp only [(id zS), seval]; rfl) (by decide) ?_
  simp only [(id F38), seval, cRat, hI0, hat0, cPool, flat_pure cQ_pure, flat_pure cWT_pure, flat_pure cI_pure, (id SD), (id SD)]
  repeat refine ob ?_
  refine ⟨_, hT, (by first | rfl | simp [allA, pure1, pureCs, pureC, A1.cells, flat_pure cQ_pure, flat_pure cI_pure, flat_pure cWT_pure]), ?_⟩
  try unfold Later
  try simp only [(id F38), seval, cRat, hI0, hat0, cPool, flat_pure cQ_pure, flat_pure cWT_pure, flat_pure cI_pure, (id SD)]
  repeat refine ob ?_
  refine ⟨_, hU, (by first | rfl | simp [allA, pure1, pureCs, pureC, A1.cells, flat_pure cQ_pure, flat_pure cI_pure, flat_pure cWT_pure]), ?_⟩
  try unfold Later
  try simp only [(id F38), seval, cRat, hI0, hat0, cPool, flat_pure cQ_pure, flat_pure cWT_pure, flat_pure cI_pure, (id SD)]
  repeat refine ob ?_
  refine ⟨_, slope_I _ _ s sc L.count R p.2 (wTot g p.1) (wTot kk p.1) K2 S2 (1 + p.1.length * (G + 1)) (1 + p.1.length * (G + 1)) (G + w * (Z2 + 1)) Z2 (by rfl) (by rfl) hRn (fun y B h => ?_) (by have := hB.n; omega) hpp.1 hpp.2.1 hTB (by have := hB.zb; omega) hUB hRB (by omega) (by omega) hB.zb, ?_⟩
  ·
   by_cases hy : y < 7000
   ·
    exact hy
   exfalso
   simp only [up_apply] at h
   repeat rw [if_neg (by omega)] at h
   cases h
  rintro res H' nx' ⟨rfl, hW⟩
  simp only [(id F38), seval, (id SD)]
  repeat refine ob ?_
  refine awp_weak hW ?_
  simp only [(id F38), seval]
  refine awN ?_
  simp only [(id F38), seval, cRat, hI0, hat0]
  repeat refine ob ?_
  repeat refine ob ?_
  refine ⟨_, wk_keep [5, 6, 7, 8, 21, 22, 23] [50, 48, 5], L.pools.length - (i0 + 1), by omega, i0 + 1, (wSlope p.2 (wTot g p.1) (wTot kk p.1) R), (w + wN p.2), ?a8_nx, by omega, rfl, ?i8_0, ?i8_1, ?i8_2, ?i8_3, ?st8⟩
  case st8 => (simp only [(id F38), seval, cRat, hI0, hat0]; first | rfl | (simp [hI0, hat0, Nat.add_mul]; done))
  case i8_0 => (first | exact hL0 | (rw [← hL0]; simp only [reduceIte, hI0, hat0]; done) | (rw [← hL0]; simp [hI0, hat0]; done) | (simp [hI0, hat0] at hL0; simpa using hL0) | (rw [← hL0]; simp [*]; done))
  case i8_1 => (first | omega | assumption | (simp; omega) | (simp_all; done))
  case i8_2 => (first | omega | assumption | (simp; omega) | (simp_all; done))
  case i8_3 => (first | omega | assumption | (simp; omega) | (simp_all; done))
 obtain rfl : i0 = L.pools.length := by omega
 have hI0 : ¬ (L.pools.length : Int) < (L.pools.length : Int) := by omega
 rw [List.drop_length] at hL0
 simp only [wSPools] at hL0
 refine awN ?_
 simp only [(id F38), seval, cRat, hI0]
 repeat refine ob ?_
 refine awF ?_
 refine awQ ?_
 simp only [(id F38), seval]
 refine awp_pubc 48 50 0 (by rfl) (by rfl) (by rfl) (by decide) (by show (3 : Nat) ≠ 0; decide) (by show (4 : Nat) ≠ 0; decide) rfl ?_
 simp only [(id F38), seval]
 refine awD (scT 0 9 (scq [18] .nil)) [none, none, none, none, none, none, none, none, none, none] ?_
 simp only [(id F38), seval, cRat, hI0, flat_pure cQ_pure]
 repeat refine ob ?_
 refine awX ?_
 simp only [(id F38), seval, flat_pure cQ_pure]
 have hd : wSlo L m = R := by unfold wSlo; rw [hg, hk, hL0]
 simp [delR, hd, cRat]
def F39 := And.intro zS (And.intro tf82 (And.intro tf70 (And.intro tf71 (And.intro tf72 (And.intro tf65 (And.intro tf74 (And.intro tf18 (And.intro tf76 (And.intro tf66 (And.intro tf67 (And.intro tf38 (And.intro tf39 (tf69)))))))))))))
set_option maxRecDepth 100000 in
set_option maxHeartbeats 4000000 in
theorem step_A (L : WL) (m : Rat) (K Sm M Z G K2 S2 Z2 : Nat) (hB : delB L K Sm M Z G K2 S2 Z2) (hM0 : 0 < M) (hM : qB M m) (hZ4 : Z2 ≤ 10000000000) : ACall Tryz.prog 139 [.agg (cLay L), .agg (cRat (enc m))] (stR L m) := by
 have hGg := hB.g
 have hGz := hB.gz
 have hGb := hB.gb
 have hBb : G + pSum L.pools * (Z2 + 1) ≤ 50000000000 := hB.b
 have hG0 : 0 < G := by omega
 have hLn := hB.n
 have hLp := hB.pn
 refine acall_of Tryz.func139 rfl (by decide) (N := 69) rfl (by simp) (R := [.cell 4 32, .tmp 5]) rfl fun en k0 => ?_
 refine awN ?_
 simp only [(id F39), seval, cRat, cLay]
 repeat refine ob ?_
 have hA := gap_A L.ranks m K Sm M hB.rk hM (by have := hB.z; have := hB.zb; omega) (by have := hB.z; have := hB.zb; omega)
 simp only [gpR, cRat] at hA
 refine awN ?_
 simp only [(id F39), seval, cRat, cLay, flat_pure cWT_pure]
 repeat refine ob ?_
 refine ⟨_, hA, (by first | rfl | simp [allA, pure1, pureCs, pureC, A1.cells, flat_pure cQ_pure, flat_pure cI_pure, flat_pure cWT_pure, flat_pure cPool_pure]), ?_⟩
 try unfold Later
 try simp only [(id F39), seval, cRat, cLay, flat_pure cWT_pure]
 repeat refine ob ?_
 by_cases ho : wOpen L.ranks m
 ·
  refine awN ?_
  simp only [(id F39), seval, cRat, ho, decide_true, decide_false]
  repeat refine ob ?_
  refine awF ?_
  refine awK ?_
  simp only [(id F39), seval]
  have hG := lGross_A L m K Sm M Z (by have := hB.n; omega) hB.rk hB.rin hM hB.z (by omega) (by have := hB.zb; omega)
  have hR := rates_A L m K Sm M Z (by have := hB.n; omega) hB.rk hB.rin hM (by have := hB.z; have := hB.zb; omega) (by have := hB.z; omega) (by omega) (by have := hB.zb; omega)
  simp only [cRat] at hG hR
  refine awD (scq [1, 3, 7, 9, 4, 10, 13, 15] .nil) [none, none, none, none, none, none, none, none] ?_
  simp only [(id F39), seval, cRat, ho, cLay, flat_pure cWT_pure, flat_pure cPool_pure, flat_pure cQ_pure]
  repeat refine ob ?_
  refine ⟨_, hG, (by first | rfl | simp [allA, pure1, pureCs, pureC, A1.cells, flat_pure cQ_pure, flat_pure cI_pure, flat_pure cWT_pure, flat_pure cPool_pure]), ?_⟩
  try unfold Later
  try simp only [(id F39), seval, cRat, ho, cLay, flat_pure cWT_pure, flat_pure cPool_pure, flat_pure cQ_pure]
  repeat refine ob ?_
  refine ⟨_, hR, (by first | rfl | simp [allA, pure1, pureCs, pureC, A1.cells, flat_pure cQ_pure, flat_pure cI_pure, flat_pure cWT_pure, flat_pure cPool_pure]), ?_⟩
  try unfold Later
  try simp only [(id F39), seval, cRat, ho, cLay, flat_pure cWT_pure, flat_pure cPool_pure, flat_pure cQ_pure]
  repeat refine ob ?_
  have hgl := wGross_len L m
  have hgB := wGross_B hB hM
  have hkl := wRates_len L m
  have hkB := wRates_B hB hM0 m
  obtain ⟨g, hg⟩ : ∃ g, wGross L m = g := ⟨_, rfl⟩
  obtain ⟨kk, hk⟩ : ∃ g, wRates L m = g := ⟨_, rfl⟩
  rw [hg] at hgl hgB
  rw [hk] at hkl hkB
  rw [hg, hk]
  refine awN ?_
  simp only [(id F39), seval, cRat, ho, cLay]
  repeat refine ob ?_
  have hgap0 : qB 50000000000 (wGap L.ranks m) := (wGap_B hB.rk hM ho).mono (by have := hB.z; have := hB.zb; omega)
  refine awp_keep [4, 6, 8, 9, 34, 35, 36] [4, 6] ?_
  try unfold Later
  try simp only [(id F39), seval, cRat, ho]
  repeat' first|apply awS|apply awB
  refine awp_loopw (fun n st => ∃ i0 out nx, i0 ≤ L.pools.length ∧ n = L.pools.length - i0 ∧ wStepP g kk (L.pools.drop i0) out = wStepP g kk L.pools (wGap L.ranks m) ∧ qB 50000000000 out ∧ st = ⟨mkT [(4, .val (.one (.ptr 4 2 0))), (6, .val (.one (.ptr 6 3 0))), (8, .val (.one (.sh 3 L.count (flat cQ g)))), (9, .val (.one (.sh 3 L.count (flat cQ kk)))), (34, .val (.one (.sh 2 L.pools.length (flat cPool L.pools)))), (35, one (.int .i64 L.pools.length)), (36, one (.int .i64 i0))], mkH [(4, ⟨2, 32, 3, 1, [.lit (.bool false), .lit (.string bEmpty), .lit (.string bEmpty)]⟩), (6, ⟨3, 32, 3, 1, cRat (enc out)⟩)], nx, 0⟩) (L.pools.length) ⟨0, (wGap L.ranks m), _, by omega, by omega, by rfl, (by first | omega | assumption | rfl | simp | (simp; omega)), rfl⟩ ?_
  rintro n0 st ⟨i0, out, nx0, hk0, rfl, hL0, hV0_1, rfl⟩
  by_cases hlt0 : i0 < L.pools.length
  ·
   have hI0 : (i0 : Int) < (L.pools.length : Int) := by omega
   have hat0 := flat_at cPool_len L.pools i0 hlt0
   try rw [Nat.mul_one] at hat0
   rw [List.drop_eq_getElem_cons hlt0] at hL0
   have hpp := hB.pl _ (List.getElem_mem hlt0)
   have hpz := hB.pz _ (List.getElem_mem hlt0)
   have hVo := hV0_1
   have hTB := wTot_B hgB (by omega) (L.pools[i0]).1
   have hUB := wTot_B hkB (by omega) (L.pools[i0]).1
   generalize L.pools[i0] = p at *
   simp only [wStepP] at hL0
   refine awN ?_
   simp only [(id F39), seval, cRat, ho, hI0, hat0]
   repeat refine ob ?_
   refine awT ?_
   refine awK ?_
   simp only [(id F39), seval]
   refine awN ?_
   simp only [(id F39), seval, cRat, ho, hI0, hat0, cPool]
   repeat refine ob ?_
   have hU := total_A p kk L.count hkl G (fun i hi => by have := hpp.2.2.2 i hi; omega) hkB (by omega) (by have := hpp.2.2.1; omega) (by omega) (by have h8 := Nat.mul_le_mul hpp.2.2.1 (show G + 1 ≤ 40000001 by omega); omega)
   simp only [cPool, cRat] at hU
   refine awN ?_
   simp only [(id F39), seval, cRat, ho, hI0, hat0, cPool, flat_pure cQ_pure, flat_pure cWT_pure, flat_pure cI_pure]
   repeat refine ob ?_
   refine ⟨_, hU, (by first | rfl | simp [allA, pure1, pureCs, pureC, A1.cells, flat_pure cQ_pure, flat_pure cI_pure, flat_pure cWT_pure, flat_pure cPool_pure]), ?_⟩
   try unfold Later
   try simp only [(id F39), seval, cRat, ho, hI0, hat0, cPool, flat_pure cQ_pure, flat_pure cWT_pure, flat_pure cI_pure]
   repeat refine ob ?_
   have hT := total_A p g L.count hgl G (fun i hi => by have := hpp.2.2.2 i hi; omega) hgB (by omega) (by have := hpp.2.2.1; omega) (by omega) (by have h8 := Nat.mul_le_mul hpp.2.2.1 (show G + 1 ≤ 40000001 by omega); omega)
   simp only [cPool, cRat] at hT
   have hGp := gap_A p.2 (wTot g p.1) K2 S2 (1 + p.1.length * (G + 1)) hpp.1 hTB (by have := hB.zb; omega) (by have := hB.zb; omega)
   simp only [gpR, cRat] at hGp
   refine awD (scT 0 4 (.two 4 9 (.two 5 9 (scq [13, 15, 17, 18, 20, 23] .nil) (scq [10, 13, 15, 17, 20, 23] .nil)) (scq [8, 10, 13, 15, 17, 20, 23] .nil))) [none, none, none, none, none, none, none, none, none, none, none, none] ?_
   simp only [(id F39), seval, cRat, ho, hI0, hat0, cPool, flat_pure cQ_pure, flat_pure cWT_pure, flat_pure cI_pure]
   repeat refine ob ?_
   refine ⟨?_, ?_⟩
   ·
    repeat refine ob ?_
    refine ⟨_, hT, (by first | rfl | simp [allA, pure1, pureCs, pureC, A1.cells, flat_pure cQ_pure, flat_pure cI_pure, flat_pure cWT_pure, flat_pure cPool_pure]), ?_⟩
    try unfold Later
    try simp only [(id F39), seval, cRat, ho, hI0, hat0, cPool, flat_pure cQ_pure, flat_pure cWT_pure, flat_pure cI_pure]
    repeat refine ob ?_
    refine ⟨?_, ?_⟩
    ·
     repeat refine ob ?_
     refine ⟨_, hGp, (by first | rfl | simp [allA, pure1, pureCs, pureC, A1.cells, flat_pure cQ_pure, flat_pure cI_pure, flat_pure cWT_pure, flat_pure cPool_pure]), ?_⟩
     try unfold Later
     try simp only [(id F39), seval, cRat, ho, hI0, hat0, cPool, flat_pure cQ_pure, flat_pure cWT_pure, flat_pure cI_pure]
     repeat refine ob ?_
     by_cases hop : wOpen p.2 (wTot g p.1)
     ·
      by_cases hps : 0 < qSgn (wTot kk p.1)
      ·
       have hpq : 0 < wTot kk p.1 := (qSgn_gt _).1 hps
       have hSg := aSgnQ (wTot kk p.1) (hUB.mono (by have := hB.zb; omega))
       simp only [cRat] at hSg
       refine awR [] [none, none, some (53, true), some (53, true), some (53, true), none] ?_
       simp only [(id F39), seval, cRat, ho, hI0, hat0, hop, hps, hpq, decide_true, decide_false]
       repeat refine ob ?_
       refine ⟨_, hSg, (by first | rfl | simp [allA, pure1, pureCs, pureC, A1.cells, flat_pure cQ_pure, flat_pure cI_pure, flat_pure cWT_pure, flat_pure cPool_pure]), ?_⟩
       try unfold Later
       try simp only [(id F39), seval, cRat, ho, hI0, hat0, hop, hps, hpq, decide_true, decide_false]
       repeat refine ob ?_
       refine awT ?_
       have hDv := aDiv (wGap p.2 (wTot g p.1)) (wTot kk p.1) (S2 + (1 + p.1.length * (G + 1) + p.2.length * (S2 + 1)) + 1) (1 + p.1.length * (G + 1)) (wGap_B hpp.1 hTB hop) hUB (by have := hB.zb; omega) (by have := hB.zb; omega)
       simp only [cRat] at hDv
       refine awN ?_
       simp only [(id F39), seval, cRat, ho, hI0, hat0, hop, hps, hpq]
       repeat refine ob ?_
       refine ⟨_, hDv, (by first | rfl | simp [allA, pure1, pureCs, pureC, A1.cells, flat_pure cQ_pure, flat_pure cI_pure, flat_pure cWT_pure, flat_pure cPool_pure]), ?_⟩
       try unfold Later
       try simp only [(id F39), seval, cRat, ho, hI0, hat0, hop, hps, hpq]
       repeat refine ob ?_
       have hMn := aMinQ out (wGap p.2 (wTot g p.1) / wTot kk p.1) hVo (((wGap_B hpp.1 hTB hop).div hUB).mono (by have := hB.zb; omega))
       simp only [cRat] at hMn
       have hnx : qB 50000000000 (qmin out (wGap p.2 (wTot g p.1) / wTot kk p.1)) := by unfold qmin; split <;> first | exact hVo | exact ((wGap_B hpp.1 hTB hop).div hUB).mono (by have := hB.zb; omega)
       refine awN ?_
       simp only [(id F39), seval, cRat, ho, hI0, hat0, hop, hps, hpq]
       repeat refine ob ?_
       refine ⟨_, hMn, (by first | rfl | simp [allA, pure1, pureCs, pureC, A1.cells, flat_pure cQ_pure, flat_pure cI_pure, flat_pure cWT_pure, flat_pure cPool_pure]), ?_⟩
       try unfold Later
       try simp only [(id F39), seval, cRat, ho, hI0, hat0, hop, hps, hpq]
       repeat refine ob ?_
       refine awN ?_
       simp only [(id F39), seval, cRat, ho, hI0, hat0, hop, hps, hpq]
       repeat refine ob ?_
       repeat refine ob ?_
       refine ⟨_, wk_keep [4, 6, 8, 9, 34, 35, 36] [4, 6], L.pools.length - (i0 + 1), by omega, i0 + 1, (qmin out (wGap p.2 (wTot g p.1) / wTot kk p.1)), ?a13_nx, by omega, rfl, ?i13_0, ?i13_1, ?st13⟩
       case st13 => (simp only [(id F39), seval, cRat, ho, hI0, hat0, hop, hps, hpq]; first | rfl | (simp [ho, hI0, hat0, hop, hps, hpq, Nat.add_mul]; done))
       case i13_0 => (first | exact hL0 | (rw [← hL0]; simp only [reduceIte, ho, hI0, hat0, hop, hps, hpq]; done) | (rw [← hL0]; simp [ho, hI0, hat0, hop, hps, hpq]; done) | (simp [ho, hI0, hat0, hop, hps, hpq] at hL0; simpa using hL0) | (rw [← hL0]; simp [*]; done))
       case i13_1 => (first | omega | assumption | (simp; omega) | (simp_all; done))
      have hpq : ¬ 0 < wTot kk p.1 := fun h => hps ((qSgn_gt _).2 h)
      have hSg := aSgnQ (wTot kk p.1) (hUB.mono (by have := hB.zb; omega))
      simp only [cRat] at hSg
      refine awR [] [none, none, some (53, true), some (53, true), some (53, true), none] ?_
      simp only [(id F39), seval, cRat, ho, hI0, hat0, hop, hps, hpq, decide_true, decide_false]
      repeat refine ob ?_
      refine ⟨_, hSg, (by first | rfl | simp [allA, pure1, pureCs, pureC, A1.cells, flat_pure cQ_pure, flat_pure cI_pure, flat_pure cWT_pure, flat_pure cPool_pure]), ?_⟩
      try unfold Later
      try simp only [(id F39), seval, cRat, ho, hI0, hat0, hop, hps, hpq, decide_true, decide_false]
      repeat refine ob ?_
      refine awF ?_
      refine awK ?_
      simp only [(id F39), seval]
      refine awN ?_
      simp only [(id F39), seval, cRat, ho, hI0, hat0, hop, hps, hpq]
      repeat refine ob ?_
      repeat refine ob ?_
      refine ⟨_, wk_keep [4, 6, 8, 9, 34, 35, 36] [4, 6], L.pools.length - (i0 + 1), by omega, i0 + 1, (out), ?a16_nx, by omega, rfl, ?i16_0, ?i16_1, ?st16⟩
      case st16 => (simp only [(id F39), seval, cRat, ho, hI0, hat0, hop, hps, hpq]; first | rfl | (simp [ho, hI0, hat0, hop, hps, hpq, Nat.add_mul]; done))
      case i16_0 => (first | exact hL0 | (rw [← hL0]; simp only [reduceIte, ho, hI0, hat0, hop, hps, hpq]; done) | (rw [← hL0]; simp [ho, hI0, hat0, hop, hps, hpq]; done) | (simp [ho, hI0, hat0, hop, hps, hpq] at hL0; simpa using hL0) | (rw [← hL0]; simp [*]; done))
      case i16_1 => (first | omega | assumption | (simp; omega) | (simp_all; done))
     have hSg := aSgnQ (wTot kk p.1) (hUB.mono (by have := hB.zb; omega))
     simp only [cRat] at hSg
     refine awR [] [none, none, some (53, true), some (53, true), some (53, true), none] ?_
     simp only [(id F39), seval, cRat, ho, hI0, hat0, hop, decide_true, decide_false]
     repeat refine ob ?_
     refine awF ?_
     refine awK ?_
     simp only [(id F39), seval]
     refine awN ?_
     simp only [(id F39), seval, cRat, ho, hI0, hat0, hop]
     repeat refine ob ?_
     repeat refine ob ?_
     refine ⟨_, wk_keep [4, 6, 8, 9, 34, 35, 36] [4, 6], L.pools.length - (i0 + 1), by omega, i0 + 1, (out), ?a19_nx, by omega, rfl, ?i19_0, ?i19_1, ?st19⟩
     case st19 => (simp only [(id F39), seval, cRat, ho, hI0, hat0, hop]; first | rfl | (simp [ho, hI0, hat0, hop, Nat.add_mul]; done))
     case i19_0 => (first | exact hL0 | (rw [← hL0]; simp only [reduceIte, ho, hI0, hat0, hop]; done) | (rw [← hL0]; simp [ho, hI0, hat0, hop]; done) | (simp [ho, hI0, hat0, hop] at hL0; simpa using hL0) | (rw [← hL0]; simp [*]; done))
     case i19_1 => (first | omega | assumption | (simp; omega) | (simp_all; done))
    repeat refine ob ?_
    refine ⟨_, hGp, (by first | rfl | simp [allA, pure1, pureCs, pureC, A1.cells, flat_pure cQ_pure, flat_pure cI_pure, flat_pure cWT_pure, flat_pure cPool_pure]), ?_⟩
    try unfold Later
    try simp only [(id F39), seval, cRat, ho, hI0, hat0, cPool, flat_pure cQ_pure, flat_pure cWT_pure, flat_pure cI_pure]
    repeat refine ob ?_
    by_cases hop : wOpen p.2 (wTot g p.1)
    ·
     by_cases hps : 0 < qSgn (wTot kk p.1)
     ·
      have hpq : 0 < wTot kk p.1 := (qSgn_gt _).1 hps
      have hSg := aSgnQ (wTot kk p.1) (hUB.mono (by have := hB.zb; omega))
      simp only [cRat] at hSg
      refine awR [] [none, none, some (53, true), some (53, true), some (53, true), none] ?_
      simp only [(id F39), seval, cRat, ho, hI0, hat0, hop, hps, hpq, decide_true, decide_false]
      repeat refine ob ?_
      refine ⟨_, hSg, (by first | rfl | simp [allA, pure1, pureCs, pureC, A1.cells, flat_pure cQ_pure, flat_pure cI_pure, flat_pure cWT_pure, flat_pure cPool_pure]), ?_⟩
      try unfold Later
      try simp only [(id F39), seval, cRat, ho, hI0, hat0, hop, hps, hpq, decide_true, decide_false]
      repeat refine ob ?_
      refine awT ?_
      have hDv := aDiv (wGap p.2 (wTot g p.1)) (wTot kk p.1) (S2 + (1 + p.1.length * (G + 1) + p.2.length * (S2 + 1)) + 1) (1 + p.1.length * (G + 1)) (wGap_B hpp.1 hTB hop) hUB (by have := hB.zb; omega) (by have := hB.zb; omega)
      simp only [cRat] at hDv
      refine awN ?_
      simp only [(id F39), seval, cRat, ho, hI0, hat0, hop, hps, hpq]
      repeat refine ob ?_
      refine ⟨_, hDv, (by first | rfl | simp [allA, pure1, pureCs, pureC, A1.cells, flat_pure cQ_pure, flat_pure cI_pure, flat_pure cWT_pure, flat_pure cPool_pure]), ?_⟩
      try unfold Later
      try simp only [(id F39), seval, cRat, ho, hI0, hat0, hop, hps, hpq]
      repeat refine ob ?_
      have hMn := aMinQ out (wGap p.2 (wTot g p.1) / wTot kk p.1) hVo (((wGap_B hpp.1 hTB hop).div hUB).mono (by have := hB.zb; omega))
      simp only [cRat] at hMn
      have hnx : qB 50000000000 (qmin out (wGap p.2 (wTot g p.1) / wTot kk p.1)) := by unfold qmin; split <;> first | exact hVo | exact ((wGap_B hpp.1 hTB hop).div hUB).mono (by have := hB.zb; omega)
      refine awN ?_
      simp only [(id F39), seval, cRat, ho, hI0, hat0, hop, hps, hpq]
      repeat refine ob ?_
      refine ⟨_, hMn, (by first | rfl | simp [allA, pure1, pureCs, pureC, A1.cells, flat_pure cQ_pure, flat_pure cI_pure, flat_pure cWT_pure, flat_pure cPool_pure]), ?_⟩
      try unfold Later
      try simp only [(id F39), seval, cRat, ho, hI0, hat0, hop, hps, hpq]
      repeat refine ob ?_
      refine awN ?_
      simp only [(id F39), seval, cRat, ho, hI0, hat0, hop, hps, hpq]
      repeat refine ob ?_
      repeat refine ob ?_
      refine ⟨_, wk_keep [4, 6, 8, 9, 34, 35, 36] [4, 6], L.pools.length - (i0 + 1), by omega, i0 + 1, (qmin out (wGap p.2 (wTot g p.1) / wTot kk p.1)), ?a24_nx, by omega, rfl, ?i24_0, ?i24_1, ?st24⟩
      case st24 => (simp only [(id F39), seval, cRat, ho, hI0, hat0, hop, hps, hpq]; first | rfl | (simp [ho, hI0, hat0, hop, hps, hpq, Nat.add_mul]; done))
      case i24_0 => (first | exact hL0 | (rw [← hL0]; simp only [reduceIte, ho, hI0, hat0, hop, hps, hpq]; done) | (rw [← hL0]; simp [ho, hI0, hat0, hop, hps, hpq]; done) | (simp [ho, hI0, hat0, hop, hps, hpq] at hL0; simpa using hL0) | (rw [← hL0]; simp [*]; done))
      case i24_1 => (first | omega | assumption | (simp; omega) | (simp_all; done))
     have hpq : ¬ 0 < wTot kk p.1 := fun h => hps ((qSgn_gt _).2 h)
     have hSg := aSgnQ (wTot kk p.1) (hUB.mono (by have := hB.zb; omega))
     simp only [cRat] at hSg
     refine awR [] [none, none, some (53, true), some (53, true), some (53, true), none] ?_
     simp only [(id F39), seval, cRat, ho, hI0, hat0, hop, hps, hpq, decide_true, decide_false]
     repeat refine ob ?_
     refine ⟨_, hSg, (by first | rfl | simp [allA, pure1, pureCs, pureC, A1.cells, flat_pure cQ_pure, flat_pure cI_pure, flat_pure cWT_pure, flat_pure cPool_pure]), ?_⟩
     try unfold Later
     try simp only [(id F39), seval, cRat, ho, hI0, hat0, hop, hps, hpq, decide_true, decide_false]
     repeat refine ob ?_
     refine awF ?_
     refine awK ?_
     simp only [(id F39), seval]
     refine awN ?_
     simp only [(id F39), seval, cRat, ho, hI0, hat0, hop, hps, hpq]
     repeat refine ob ?_
     repeat refine ob ?_
     refine ⟨_, wk_keep [4, 6, 8, 9, 34, 35, 36] [4, 6], L.pools.length - (i0 + 1), by omega, i0 + 1, (out), ?a27_nx, by omega, rfl, ?i27_0, ?i27_1, ?st27⟩
     case st27 => (simp only [(id F39), seval, cRat, ho, hI0, hat0, hop, hps, hpq]; first | rfl | (simp [ho, hI0, hat0, hop, hps, hpq, Nat.add_mul]; done))
     case i27_0 => (first | exact hL0 | (rw [← hL0]; simp only [reduceIte, ho, hI0, hat0, hop, hps, hpq]; done) | (rw [← hL0]; simp [ho, hI0, hat0, hop, hps, hpq]; done) | (simp [ho, hI0, hat0, hop, hps, hpq] at hL0; simpa using hL0) | (rw [← hL0]; simp [*]; done))
     case i27_1 => (first | omega | assumption | (simp; omega) | (simp_all; done))
    have hSg := aSgnQ (wTot kk p.1) (hUB.mono (by have := hB.zb; omega))
    simp only [cRat] at hSg
    refine awR [] [none, none, some (53, true), some (53, true), some (53, true), none] ?_
    simp only [(id F39), seval, cRat, ho, hI0, hat0, hop, decide_true, decide_false]
    repeat refine ob ?_
    refine awF ?_
    refine awK ?_
    simp only [(id F39), seval]
    refine awN ?_
    simp only [(id F39), seval, cRat, ho, hI0, hat0, hop]
    repeat refine ob ?_
    repeat refine ob ?_
    refine ⟨_, wk_keep [4, 6, 8, 9, 34, 35, 36] [4, 6], L.pools.length - (i0 + 1), by omega, i0 + 1, (out), ?a30_nx, by omega, rfl, ?i30_0, ?i30_1, ?st30⟩
    case st30 => (simp only [(id F39), seval, cRat, ho, hI0, hat0, hop]; first | rfl | (simp [ho, hI0, hat0, hop, Nat.add_mul]; done))
    case i30_0 => (first | exact hL0 | (rw [← hL0]; simp only [reduceIte, ho, hI0, hat0, hop]; done) | (rw [← hL0]; simp [ho, hI0, hat0, hop]; done) | (simp [ho, hI0, hat0, hop] at hL0; simpa using hL0) | (rw [← hL0]; simp [*]; done))
    case i30_1 => (first | omega | assumption | (simp; omega) | (simp_all; done))
   repeat refine ob ?_
   refine ⟨_, hT, (by first | rfl | simp [allA, pure1, pureCs, pureC, A1.cells, flat_pure cQ_pure, flat_pure cI_pure, flat_pure cWT_pure, flat_pure cPool_pure]), ?_⟩
   try unfold Later
   try simp only [(id F39), seval, cRat, ho, hI0, hat0, cPool, flat_pure cQ_pure, flat_pure cWT_pure, flat_pure cI_pure]
   repeat refine ob ?_
   refine ⟨_, hGp, (by first | rfl | simp [allA, pure1, pureCs, pureC, A1.cells, flat_pure cQ_pure, flat_pure cI_pure, flat_pure cWT_pure, flat_pure cPool_pure]), ?_⟩
   try unfold Later
   try simp only [(id F39), seval, cRat, ho, hI0, hat0, cPool, flat_pure cQ_pure, flat_pure cWT_pure, flat_pure cI_pure]
   repeat refine ob ?_
   by_cases hop : wOpen p.2 (wTot g p.1)
   ·
    by_cases hps : 0 < qSgn (wTot kk p.1)
    ·
     have hpq : 0 < wTot kk p.1 := (qSgn_gt _).1 hps
     have hSg := aSgnQ (wTot kk p.1) (hUB.mono (by have := hB.zb; omega))
     simp only [cRat] at hSg
     refine awR [] [none, none, some (53, true), some (53, true), some (53, true), none] ?_
     simp only [(id F39), seval, cRat, ho, hI0, hat0, hop, hps, hpq, decide_true, decide_false]
     repeat refine ob ?_
     refine ⟨_, hSg, (by first | rfl | simp [allA, pure1, pureCs, pureC, A1.cells, flat_pure cQ_pure, flat_pure cI_pure, flat_pure cWT_pure, flat_pure cPool_pure]), ?_⟩
     try unfold Later
     try simp only [(id F39), seval, cRat, ho, hI0, hat0, hop, hps, hpq, decide_true, decide_false]
     repeat refine ob ?_
     refine awT ?_
     have hDv := aDiv (wGap p.2 (wTot g p.1)) (wTot kk p.1) (S2 + (1 + p.1.length * (G + 1) + p.2.length * (S2 + 1)) + 1) (1 + p.1.length * (G + 1)) (wGap_B hpp.1 hTB hop) hUB (by have := hB.zb; omega) (by have := hB.zb; omega)
     simp only [cRat] at hDv
     refine awN ?_
     simp only [(id F39), seval, cRat, ho, hI0, hat0, hop, hps, hpq]
     repeat refine ob ?_
     refine ⟨_, hDv, (by first | rfl | simp [allA, pure1, pureCs, pureC, A1.cells, flat_pure cQ_pure, flat_pure cI_pure, flat_pure cWT_pure, flat_pure cPool_pure]), ?_⟩
     try unfold Later
     try simp only [(id F39), seval, cRat, ho, hI0, hat0, hop, hps, hpq]
     repeat refine ob ?_
     have hMn := aMinQ out (wGap p.2 (wTot g p.1) / wTot kk p.1) hVo (((wGap_B hpp.1 hTB hop).div hUB).mono (by have := hB.zb; omega))
     simp only [cRat] at hMn
     have hnx : qB 50000000000 (qmin out (wGap p.2 (wTot g p.1) / wTot kk p.1)) := by unfold qmin; split <;> first | exact hVo | exact ((wGap_B hpp.1 hTB hop).div hUB).mono (by have := hB.zb; omega)
     refine awN ?_
     simp only [(id F39), seval, cRat, ho, hI0, hat0, hop, hps, hpq]
     repeat refine ob ?_
     refine ⟨_, hMn, (by first | rfl | simp [allA, pure1, pureCs, pureC, A1.cells, flat_pure cQ_pure, flat_pure cI_pure, flat_pure cWT_pure, flat_pure cPool_pure]), ?_⟩
     try unfold Later
     try simp only [(id F39), seval, cRat, ho, hI0, hat0, hop, hps, hpq]
     repeat refine ob ?_
     refine awN ?_
     simp only [(id F39), seval, cRat, ho, hI0, hat0, hop, hps, hpq]
     repeat refine ob ?_
     repeat refine ob ?_
     refine ⟨_, wk_keep [4, 6, 8, 9, 34, 35, 36] [4, 6], L.pools.length - (i0 + 1), by omega, i0 + 1, (qmin out (wGap p.2 (wTot g p.1) / wTot kk p.1)), ?a35_nx, by omega, rfl, ?i35_0, ?i35_1, ?st35⟩
     case st35 => (simp only [(id F39), seval, cRat, ho, hI0, hat0, hop, hps, hpq]; first | rfl | (simp [ho, hI0, hat0, hop, hps, hpq, Nat.add_mul]; done))
     case i35_0 => (first | exact hL0 | (rw [← hL0]; simp only [reduceIte, ho, hI0, hat0, hop, hps, hpq]; done) | (rw [← hL0]; simp [ho, hI0, hat0, hop, hps, hpq]; done) | (simp [ho, hI0, hat0, hop, hps, hpq] at hL0; simpa using hL0) | (rw [← hL0]; simp [*]; done))
     case i35_1 => (first | omega | assumption | (simp; omega) | (simp_all; done))
    have hpq : ¬ 0 < wTot kk p.1 := fun h => hps ((qSgn_gt _).2 h)
    have hSg := aSgnQ (wTot kk p.1) (hUB.mono (by have := hB.zb; omega))
    simp only [cRat] at hSg
    refine awR [] [none, none, some (53, true), some (53, true), some (53, true), none] ?_
    simp only [(id F39), seval, cRat, ho, hI0, hat0, hop, hps, hpq, decide_true, decide_false]
    repeat refine ob ?_
    refine ⟨_, hSg, (by first | rfl | simp [allA, pure1, pureCs, pureC, A1.cells, flat_pure cQ_pure, flat_pure cI_pure, flat_pure cWT_pure, flat_pure cPool_pure]), ?_⟩
    try unfold Later
    try simp only [(id F39), seval, cRat, ho, hI0, hat0, hop, hps, hpq, decide_true, decide_false]
    repeat refine ob ?_
    refine awF ?_
    refine awK ?_
    simp only [(id F39), seval]
    refine awN ?_
    simp only [(id F39), seval, cRat, ho, hI0, hat0, hop, hps, hpq]
    repeat refine ob ?_
    repeat refine ob ?_
    refine ⟨_, wk_keep [4, 6, 8, 9, 34, 35, 36] [4, 6], L.pools.length - (i0 + 1), by omega, i0 + 1, (out), ?a38_nx, by omega, rfl, ?i38_0, ?i38_1, ?st38⟩
    case st38 => (simp only [(id F39), seval, cRat, ho, hI0, hat0, hop, hps, hpq]; first | rfl | (simp [ho, hI0, hat0, hop, hps, hpq, Nat.add_mul]; done))
    case i38_0 => (first | exact hL0 | (rw [← hL0]; simp only [reduceIte, ho, hI0, hat0, hop, hps, hpq]; done) | (rw [← hL0]; simp [ho, hI0, hat0, hop, hps, hpq]; done) | (simp [ho, hI0, hat0, hop, hps, hpq] at hL0; simpa using hL0) | (rw [← hL0]; simp [*]; done))
    case i38_1 => (first | omega | assumption | (simp; omega) | (simp_all; done))
   have hSg := aSgnQ (wTot kk p.1) (hUB.mono (by have := hB.zb; omega))
   simp only [cRat] at hSg
   refine awR [] [none, none, some (53, true), some (53, true), some (53, true), none] ?_
   simp only [(id F39), seval, cRat, ho, hI0, hat0, hop, decide_true, decide_false]
   repeat refine ob ?_
   refine awF ?_
   refine awK ?_
   simp only [(id F39), seval]
   refine awN ?_
   simp only [(id F39), seval, cRat, ho, hI0, hat0, hop]
   repeat refine ob ?_
   repeat refine ob ?_
   refine ⟨_, wk_keep [4, 6, 8, 9, 34, 35, 36] [4, 6], L.pools.length - (i0 + 1), by omega, i0 + 1, (out), ?a41_nx, by omega, rfl, ?i41_0, ?i41_1, ?st41⟩
   case st41 => (simp only [(id F39), seval, cRat, ho, hI0, hat0, hop]; first | rfl | (simp [ho, hI0, hat0, hop, Nat.add_mul]; done))
   case i41_0 => (first | exact hL0 | (rw [← hL0]; simp only [reduceIte, ho, hI0, hat0, hop]; done) | (rw [← hL0]; simp [ho, hI0, hat0, hop]; done) | (simp [ho, hI0, hat0, hop] at hL0; simpa using hL0) | (rw [← hL0]; simp [*]; done))
   case i41_1 => (first | omega | assumption | (simp; omega) | (simp_all; done))
  obtain rfl : i0 = L.pools.length := by omega
  have hI0 : ¬ (L.pools.length : Int) < (L.pools.length : Int) := by omega
  rw [List.drop_length] at hL0
  simp only [wStepP] at hL0
  refine awN ?_
  simp only [(id F39), seval, cRat, ho, hI0]
  repeat refine ob ?_
  refine awF ?_
  refine awQ ?_
  simp only [(id F39), seval]
  refine awN ?_
  simp only [(id F39), seval, cRat, ho, hI0]
  repeat refine ob ?_
  refine awX ?_
  simp only [(id F39), seval]
  have hd : wStep L m = out := by unfold wStep; rw [hg, hk, hL0]
  simp [stR, ho, hd, cRat]
 refine awN ?_
 simp only [(id F39), seval, cRat, ho, decide_true, decide_false]
 repeat refine ob ?_
 refine awT ?_
 refine awN ?_
 simp only [(id F39), seval, cRat, ho]
 repeat refine ob ?_
 refine awX ?_
 simp only [(id F39), seval, ho]
 simp [stR, ho, enc0_cells]
end Go.Proofs.YtokmkopihhnggaaGreatDoor
