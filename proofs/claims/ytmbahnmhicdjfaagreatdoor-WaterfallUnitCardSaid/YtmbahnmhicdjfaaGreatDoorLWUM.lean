/- WaterfallUnit: the law's own function; walked by the abstract machine. -/
import Derived.Test.YtmbahnmhicdjfaaGreatDoorWs3M
set_option linter.unusedVariables false
set_option linter.unusedSimpArgs false
set_option linter.defProp false
set_option linter.unnecessarySimpa false
/- WaterfallUnit: the law's own function; walked by the abstract machine. -/
namespace Go.Proofs.YtmbahnmhicdjfaaGreatDoor
open Go Go.RowKit
theorem wTotU_B {cs : List GClaim} (hc : ∀ c ∈ cs, sB 1 c.amount ∧ enc (qOf c.amount) = c.amount) (hn : cs.length ≤ 6) : qB 50000000000 (wTotal cs) := by
  have h : ∀ cs : List GClaim, (∀ c ∈ cs, sB 1 c.amount ∧ enc (qOf c.amount) = c.amount) → qB (1 + cs.length * 2) (wTotal cs) := by
    intro cs
    induction cs with
    | nil => intro _; simpa [wTotal] using qB_zero
    | cons c cs ih =>
      intro h
      have h1 := ih fun x hx => h x (by simp [hx])
      refine (((h c (by simp)).1.qB (by decide)).add h1).mono ?_
      simp only [List.length_cons]; omega
  exact (h cs hc).mono (by omega)
def F_lWU := And.intro zS (And.intro tf98 (And.intro tf99 (And.intro tf53 (And.intro tf18 (And.intro tf84 (tf87))))))
set_option maxRecDepth 100000 in
set_option maxHeartbeats 4000000 in
theorem lWU_A (list : List N4) (pools : List N3) (money : Nat) (hls : okSl okN4 list) (hps : okSl okN3 pools) (hm : money < 65536) : ACall Tryz.prog 12 [.one (.sh 4 list.length (flat cN4 list)), .one (.sh 3 pools.length (flat cN3 pools)), .one (.lit (.int .u16 money))] (one (.bool true)) := by
 have hl1 : list.length ≤ 9223372036854775807 := Nat.le_trans hls.1 (by decide)
 have hp1 : pools.length ≤ 9223372036854775807 := Nat.le_trans hps.1 (by decide)
 refine acall_of Tryz.func12 rfl (by decide) (N := 70) rfl (by simp) (R := [.tmp 6]) rfl fun en k0 => ?_
 refine awR [] [none] ?_
 simp only [(id F_lWU), seval, cEst, cRat]
 repeat refine ob ?_
 have hE := est_A 0 list pools (by decide) hls.2 hps.2 hl1 hp1
 have hI := estN_in 0 list pools (M := 1) (by decide) (by decide)
 have h0 := estN_wc 0 list pools
 have heo := estN_eok 0 list pools
 have hcn := (estN_ok 0 list pools).2.2.1
 have hen := (estN_ok 0 list pools).1.1
 generalize estN 0 list pools = e at *
 simp only [cEst] at hE
 refine awR [] [none, none, none, none, none] ?_
 simp only [(id F_lWU), seval, cEst, cRat, flat_pure cClaim_pure, flat_pure cAgr_pure, flat_pure cN4_pure, flat_pure cN3_pure, flat_pure cQ_pure]
 repeat refine ob ?_
 refine ⟨_, hE, (by first | rfl | simp [allA, pure1, pureCs, pureC, A1.cells, flat_pure cQ_pure, flat_pure cClaim_pure, flat_pure cAgr_pure]), ?_⟩
 try unfold Later
 try simp only [(id F_lWU), seval, cEst, cRat, flat_pure cClaim_pure, flat_pure cAgr_pure, flat_pure cN4_pure, flat_pure cN3_pure, flat_pure cQ_pure]
 repeat refine ob ?_
 have hAm := aAmount money hm
 have hmB := amt_qB money
 have hm0 := amt_nonneg money
 generalize qAmt money = m at *
 simp only [cRat] at hAm
 refine awR [] [none, none, none, none] ?_
 simp only [(id F_lWU), seval, cEst, cRat]
 repeat refine ob ?_
 refine ⟨_, hAm, (by first | rfl | simp [allA, pure1, pureCs, pureC, A1.cells, flat_pure cQ_pure, flat_pure cClaim_pure, flat_pure cAgr_pure]), ?_⟩
 try unfold Later
 try simp only [(id F_lWU), seval, cEst, cRat]
 repeat refine ob ?_
 have hS := wSlopes_A e (enc m) 1 1 6 2 hI (sB_enc hmB)
 rw [mPos_enc hm0] at hS
 have hT := wTotal_A e 1 1 6 2 hI
 simp only [slR, ttR, h0, if_true, cEst, cRat] at hS hT
 have hkl := slo_len e m
 have hkB := sloN_B hI h0 m
 have hkn := slo_nn heo hm0
 have hks := slo_sum heo hm0
 have htB := wTotU_B hcn hen
 generalize wTotal e.claims = t at *
 obtain ⟨k, r, hkr⟩ : ∃ l rv, wSlo (wLay e) m = ⟨l, rv⟩ := ⟨_, _, rfl⟩
 rw [hkr] at hS hkl hkB hkn hks
 simp only at hS hkl hkB hkn hks
 refine awR [] [none, none, none, none, none, none, none, none, none, none, none] ?_
 simp only [(id F_lWU), seval, cEst, cRat, flat_pure cClaim_pure, flat_pure cAgr_pure, flat_pure cN4_pure, flat_pure cN3_pure, flat_pure cQ_pure]
 repeat refine ob ?_
 refine ⟨_, hS, (by first | rfl | simp [allA, pure1, pureCs, pureC, A1.cells, flat_pure cQ_pure, flat_pure cClaim_pure, flat_pure cAgr_pure]), ?_⟩
 try unfold Later
 try simp only [(id F_lWU), seval, cEst, cRat, flat_pure cClaim_pure, flat_pure cAgr_pure, flat_pure cN4_pure, flat_pure cN3_pure, flat_pure cQ_pure]
 repeat refine ob ?_
 refine awR [] [none, none, none, none, none, none, none, none] ?_
 simp only [(id F_lWU), seval, cEst, cRat, flat_pure cClaim_pure, flat_pure cAgr_pure, flat_pure cN4_pure, flat_pure cN3_pure, flat_pure cQ_pure]
 repeat refine ob ?_
 refine ⟨_, hT, (by first | rfl | simp [allA, pure1, pureCs, pureC, A1.cells, flat_pure cQ_pure, flat_pure cClaim_pure, flat_pure cAgr_pure]), ?_⟩
 try unfold Later
 try simp only [(id F_lWU), seval, cEst, cRat, flat_pure cClaim_pure, flat_pure cAgr_pure, flat_pure cN4_pure, flat_pure cN3_pure, flat_pure cQ_pure]
 repeat refine ob ?_
 have hSg := aSgnB r _ hkB.2 (by decide)
 have hrn : ¬ qSgn r < 0 := sgn_neg hkn.2
 simp only [cRat] at hSg
 refine awR [] [none, none, none, some (36, false), some (36, false), none, none, some (40, false), some (40, false), some (40, false), none] ?_
 simp only [(id F_lWU), seval, cEst, cRat, flat_pure cClaim_pure, flat_pure cAgr_pure, flat_pure cN4_pure, flat_pure cN3_pure, flat_pure cQ_pure, hrn]
 repeat refine ob ?_
 refine ⟨_, hSg, (by first | rfl | simp [allA, pure1, pureCs, pureC, A1.cells, flat_pure cQ_pure, flat_pure cClaim_pure, flat_pure cAgr_pure]), ?_⟩
 try unfold Later
 try simp only [(id F_lWU), seval, cEst, cRat, flat_pure cClaim_pure, flat_pure cAgr_pure, flat_pure cN4_pure, flat_pure cN3_pure, flat_pure cQ_pure, hrn]
 repeat refine ob ?_
 refine awF ?_
 refine awK ?_
 simp only [(id F_lWU), seval]
 refine awR [] [none, none, none] ?_
 simp only [(id F_lWU), seval, cEst, cRat]
 repeat refine ob ?_
 refine awp_keep [8, 9, 10, 12, 45, 46, 47] [8, 10, 12] ?_
 try unfold Later
 try simp only [(id F_lWU), seval, cEst, cRat]
 repeat' first|apply awS|apply awB
 refine awp_loopw (fun n st => ∃ i0 nx, i0 ≤ e.claims.length ∧ n = e.claims.length - i0 ∧ st = ⟨mkT [(8, .val (.one (.ptr 8 1 0))), (9, .val (.one (.sh 3 e.claims.length (flat cQ k)))), (10, .val (.one (.ptr 10 2 0))), (12, .val (.one (.ptr 12 3 0))), (45, .val (.one (.sh 3 e.claims.length (flat cQ k)))), (46, one (.int .i64 e.claims.length)), (47, one (.int .i64 i0))], mkH [(8, ⟨1, 32, 3, 1, cRat (enc m)⟩), (10, ⟨2, 32, 3, 1, cRat (enc r)⟩), (12, ⟨3, 32, 3, 1, cRat (enc t)⟩)], nx, 0⟩) (e.claims.length) ⟨0, _, by omega, by omega, rfl⟩ ?_
 rintro n0 st ⟨i0, nx0, hk0, rfl, rfl⟩
 by_cases hlt0 : i0 < e.claims.length
 ·
  have hI0 : (i0 : Int) < (e.claims.length : Int) := by omega
  have hik : i0 < k.length := by omega
  have hatk := flat_at cQ_len k i0 hik
  simp only [cQ, cRat] at hatk
  refine awR [] [none] ?_
  simp only [(id F_lWU), seval, cEst, cRat, hI0]
  repeat refine ob ?_
  refine awT ?_
  refine awK ?_
  simp only [(id F_lWU), seval]
  refine awR [] [none, none, none, none] ?_
  simp only [(id F_lWU), seval, cEst, cRat, hI0, hatk]
  repeat refine ob ?_
  have hSg := aSgnB k[i0] _ (hkB.1 _ (List.getElem_mem hik)) (by decide)
  have hin : ¬ qSgn k[i0] < 0 := sgn_neg (hkn.1 _ (List.getElem_mem hik))
  simp only [cRat] at hSg
  refine awR [] [none, none, none] ?_
  simp only [(id F_lWU), seval, cEst, cRat, hI0, hin]
  repeat refine ob ?_
  refine ⟨_, hSg, (by first | rfl | simp [allA, pure1, pureCs, pureC, A1.cells, flat_pure cQ_pure, flat_pure cClaim_pure, flat_pure cAgr_pure]), ?_⟩
  try unfold Later
  try simp only [(id F_lWU), seval, cEst, cRat, hI0, hin]
  repeat refine ob ?_
  refine awF ?_
  refine awK ?_
  simp only [(id F_lWU), seval]
  refine awR [] [none, none] ?_
  simp only [(id F_lWU), seval, cEst, cRat, hI0]
  repeat refine ob ?_
  repeat refine ob ?_
  refine ⟨_, wk_keep [8, 9, 10, 12, 45, 46, 47] [8, 10, 12], e.claims.length - (i0 + 1), by omega, i0 + 1, ?a11_nx, by omega, rfl, ?st11⟩
  case st11 => (simp only [(id F_lWU), seval, cEst, cRat, hI0]; first | rfl | (simp [hI0, Nat.add_mul]; done))
 obtain rfl : i0 = e.claims.length := by omega
 have hI0 : ¬ (e.claims.length : Int) < (e.claims.length : Int) := by omega
 refine awR [] [none] ?_
 simp only [(id F_lWU), seval, cEst, cRat, hI0]
 repeat refine ob ?_
 refine awF ?_
 refine awQ ?_
 simp only [(id F_lWU), seval]
 have hZ := aInt 0 (by decide) (by decide)
 simp only [cRat] at hZ
 refine awR [] [none, none, none] ?_
 simp only [(id F_lWU), seval, cEst, cRat, hI0]
 repeat refine ob ?_
 refine ⟨_, hZ, (by first | rfl | simp [allA, pure1, pureCs, pureC, A1.cells, flat_pure cQ_pure, flat_pure cClaim_pure, flat_pure cAgr_pure]), ?_⟩
 try unfold Later
 try simp only [(id F_lWU), seval, cEst, cRat, hI0]
 repeat refine ob ?_
 by_cases hlt : qCmp m t < 0
 ·
  have hCm := aCmpQ m t (hmB.mono (by decide)) htB
  simp only [cRat] at hCm
  refine awR [] [none, none, none, none] ?_
  simp only [(id F_lWU), seval, cEst, cRat, hI0, hlt]
  repeat refine ob ?_
  refine ⟨_, hCm, (by first | rfl | simp [allA, pure1, pureCs, pureC, A1.cells, flat_pure cQ_pure, flat_pure cClaim_pure, flat_pure cAgr_pure]), ?_⟩
  try unfold Later
  try simp only [(id F_lWU), seval, cEst, cRat, hI0, hlt]
  repeat refine ob ?_
  refine awT ?_
  have hO := aInt 1 (by decide) (by decide)
  simp only [cRat] at hO
  refine awR [] [none, none] ?_
  simp only [(id F_lWU), seval, cEst, cRat, hI0, hlt]
  repeat refine ob ?_
  refine ⟨_, hO, (by first | rfl | simp [allA, pure1, pureCs, pureC, A1.cells, flat_pure cQ_pure, flat_pure cClaim_pure, flat_pure cAgr_pure]), ?_⟩
  try unfold Later
  try simp only [(id F_lWU), seval, cEst, cRat, hI0, hlt]
  repeat refine ob ?_
  have hSm := aSumQ k e.claims.length hkl (kD 1) hkB.1 (by decide) (by omega) (by have h9 : kD 1 = 872021696 := rfl; rw [h9]; omega)
  have hA := aAddQ (rSum k) r _ _ (rSum_B hkB.1 (show k.length ≤ 6 by omega)) hkB.2 (by decide) (by decide)
  have hval : rSum k + r = ((1 : Int) : Rat) := by rw [hks, if_pos ((qCmp_neg_iff _ _).1 hlt)]; rfl
  have q1 := EqOK_ratW (enc ((1 : Int) : Rat))
  have q2 := eqVs_ratW (enc ((1 : Int) : Rat))
  rw [hval] at hA
  simp only [cRat] at hSm hA
  refine awD (scq [0, 3, 5, 9, 13, 6, 10, 15, 17, 19] .nil) [none, none, some (62, true), some (62, true), some (62, true), some (62, true), some (62, true), some (62, true), none, none] ?_
  simp only [(id F_lWU), seval, cEst, cRat, hI0, hlt, flat_pure cClaim_pure, flat_pure cAgr_pure, flat_pure cN4_pure, flat_pure cN3_pure, flat_pure cQ_pure, q1, q2]
  repeat refine ob ?_
  refine ⟨_, awake17_A, (by first | rfl | simp [allA, pure1, pureCs, pureC, A1.cells, flat_pure cQ_pure, flat_pure cClaim_pure, flat_pure cAgr_pure]), ?_⟩
  try unfold Later
  try simp only [(id F_lWU), seval, cEst, cRat, hI0, hlt, flat_pure cClaim_pure, flat_pure cAgr_pure, flat_pure cN4_pure, flat_pure cN3_pure, flat_pure cQ_pure, q1, q2]
  repeat refine ob ?_
  refine ⟨_, hSm, (by first | rfl | simp [allA, pure1, pureCs, pureC, A1.cells, flat_pure cQ_pure, flat_pure cClaim_pure, flat_pure cAgr_pure]), ?_⟩
  try unfold Later
  try simp only [(id F_lWU), seval, cEst, cRat, hI0, hlt, flat_pure cClaim_pure, flat_pure cAgr_pure, flat_pure cN4_pure, flat_pure cN3_pure, flat_pure cQ_pure, q1, q2]
  repeat refine ob ?_
  refine ⟨_, hA, (by first | rfl | simp [allA, pure1, pureCs, pureC, A1.cells, flat_pure cQ_pure, flat_pure cClaim_pure, flat_pure cAgr_pure]), ?_⟩
  try unfold Later
  try simp only [(id F_lWU), seval, cEst, cRat, hI0, hlt, flat_pure cClaim_pure, flat_pure cAgr_pure, flat_pure cN4_pure, flat_pure cN3_pure, flat_pure cQ_pure, q1, q2]
  repeat refine ob ?_
  refine awX ?_
  (first | (simp only [(id F_lWU), seval, cEst, cRat, hI0, hlt]; done) | (simp only [(id F_lWU), seval, cEst, cRat]; first | (simp [hI0, hlt]; done)))
 have hCm := aCmpQ m t (hmB.mono (by decide)) htB
 simp only [cRat] at hCm
 refine awR [] [none, none, none, none] ?_
 simp only [(id F_lWU), seval, cEst, cRat, hI0, hlt]
 repeat refine ob ?_
 refine ⟨_, hCm, (by first | rfl | simp [allA, pure1, pureCs, pureC, A1.cells, flat_pure cQ_pure, flat_pure cClaim_pure, flat_pure cAgr_pure]), ?_⟩
 try unfold Later
 try simp only [(id F_lWU), seval, cEst, cRat, hI0, hlt]
 repeat refine ob ?_
 refine awF ?_
 refine awK ?_
 simp only [(id F_lWU), seval]
 have hSm := aSumQ k e.claims.length hkl (kD 1) hkB.1 (by decide) (by omega) (by have h9 : kD 1 = 872021696 := rfl; rw [h9]; omega)
 have hA := aAddQ (rSum k) r _ _ (rSum_B hkB.1 (show k.length ≤ 6 by omega)) hkB.2 (by decide) (by decide)
 have hval : rSum k + r = ((0 : Int) : Rat) := by rw [hks, if_neg (fun h => hlt ((qCmp_neg_iff _ _).2 h))]; rfl
 have q1 := EqOK_ratW (enc ((0 : Int) : Rat))
 have q2 := eqVs_ratW (enc ((0 : Int) : Rat))
 rw [hval] at hA
 simp only [cRat] at hSm hA
 refine awD (scq [0, 3, 5, 9, 13, 6, 10, 15, 17, 19] .nil) [none, none, some (62, true), some (62, true), some (62, true), some (62, true), some (62, true), some (62, true), none, none] ?_
 simp only [(id F_lWU), seval, cEst, cRat, hI0, hlt, flat_pure cClaim_pure, flat_pure cAgr_pure, flat_pure cN4_pure, flat_pure cN3_pure, flat_pure cQ_pure, q1, q2]
 repeat refine ob ?_
 refine ⟨_, awake17_A, (by first | rfl | simp [allA, pure1, pureCs, pureC, A1.cells, flat_pure cQ_pure, flat_pure cClaim_pure, flat_pure cAgr_pure]), ?_⟩
 try unfold Later
 try simp only [(id F_lWU), seval, cEst, cRat, hI0, hlt, flat_pure cClaim_pure, flat_pure cAgr_pure, flat_pure cN4_pure, flat_pure cN3_pure, flat_pure cQ_pure, q1, q2]
 repeat refine ob ?_
 refine ⟨_, hSm, (by first | rfl | simp [allA, pure1, pureCs, pureC, A1.cells, flat_pure cQ_pure, flat_pure cClaim_pure, flat_pure cAgr_pure]), ?_⟩
 try unfold Later
 try simp only [(id F_lWU), seval, cEst, cRat, hI0, hlt, flat_pure cClaim_pure, flat_pure cAgr_pure, flat_pure cN4_pure, flat_pure cN3_pure, flat_pure cQ_pure, q1, q2]
 repeat refine ob ?_
 refine ⟨_, hA, (by first | rfl | simp [allA, pure1, pureCs, pureC, A1.cells, flat_pure cQ_pure, flat_pure cClaim_pure, flat_pure cAgr_pure]), ?_⟩
 try unfold Later
 try simp only [(id F_lWU), seval, cEst, cRat, hI0, hlt, flat_pure cClaim_pure, flat_pure cAgr_pure, flat_pure cN4_pure, flat_pure cN3_pure, flat_pure cQ_pure, q1, q2]
 repeat refine ob ?_
 refine awX ?_
 (first | (simp only [(id F_lWU), seval, cEst, cRat, hI0, hlt]; done) | (simp only [(id F_lWU), seval, cEst, cRat]; first | (simp [hI0, hlt]; done)))
theorem lWU_walk (v0 v1 v2 : Value) (list : List N4) (pools : List N3) (money : Nat) (W : World) (o0 : rC (cSl 4 cN4) (okSl okN4) W (LT W.heap.size) [v0] list) (o1 : rC (cSl 3 cN3) (okSl okN3) W (LT W.heap.size) [v1] pools) (o2 : rC cU16 (· < 65536) W (LT W.heap.size) [v2] money) :
    Calls Tryz.prog 12 #[v0, v1, v2] W fun e w' => e = .returned (.bool true) ∧ Below W.heap.size W w' := by
  obtain ⟨h0, k0⟩ := den_oneC o0 rfl
  obtain ⟨h1, k1⟩ := den_oneC o1 rfl
  obtain ⟨h2, k2⟩ := den_oneC o2 rfl
  exact acall_law (vs := [v0, v1, v2]) (lWU_A list pools money k0 k1 k2) ⟨h0, h1, h2, trivial⟩
end Go.Proofs.YtmbahnmhicdjfaaGreatDoor
