/- The waterfall: the next kink; Slopes and Next for an estate; walked by the abstract machine. -/
import Derived.Test.YtmbahnmhicdjfaaGreatDoorWs2M
import Derived.Test.YtmbahnmhicdjfaaGreatDoorWlaM
import Derived.Test.YtmbahnmhicdjfaaGreatDoorWl8M
import Derived.Test.YtmbahnmhicdjfaaGreatDoorWe1M
set_option linter.unusedVariables false
set_option linter.unusedSimpArgs false
set_option linter.defProp false
set_option linter.unnecessarySimpa false
section
/- The waterfall: the next kink; Slopes and Next for an estate; walked by the abstract machine. -/
namespace Go.Proofs.YtmbahnmhicdjfaaGreatDoor
open Go Go.RowKit
noncomputable def slR (e : GEst) (m : Rat) : AV := .tup [.one (if wcSpec e = 0 then .sh 3 e.claims.length (flat cQ (wSlo (wLay e) m).cl) else .lit (.slice none 0 0)), .agg (cRat (enc (if wcSpec e = 0 then (wSlo (wLay e) m).rv else 0))), .one (.lit (.int .i64 (wcSpec e)))]
def F_wSo := And.intro zS (And.intro tf53 (And.intro tf18 (And.intro tf86 (tf87))))
set_option maxRecDepth 100000 in
set_option maxHeartbeats 4000000 in
theorem wSlopes_A (e : GEst) (m : GRat) (K M nc na : Nat) (hI : eIn e K M nc na) (hm : sB M m) : ACall Tryz.prog 48 [.agg (cEst e), .agg (cRat m)] (slR e (mPos m)) := by
 refine acall_of Tryz.func48 rfl (by decide) (N := 26) rfl (by simp) (R := [.tmp 4, .cell 5 32, .tmp 6]) rfl fun en k0 => ?_
 refine awR [] [none, none, none, none, none] ?_
 simp only [(id F_wSo), seval, cEst, cRat]
 repeat refine ob ?_
 have hC := wCheck_A e hI.ok
 refine awR [] [none, none, none] ?_
 simp only [(id F_wSo), seval, cEst, flat_pure cClaim_pure, flat_pure cAgr_pure]
 repeat refine ob ?_
 refine ⟨_, hC, (by first | rfl | simp [allA, pure1, pureCs, pureC, A1.cells, cLay, cRat, flat_pure cQ_pure, flat_pure cWT_pure, flat_pure cPool_pure]), ?_⟩
 try unfold Later
 try simp only [(id F_wSo), seval, cEst, flat_pure cClaim_pure, flat_pure cAgr_pure]
 repeat refine ob ?_
 by_cases h0 : wcSpec e = 0
 ·
  refine awR [] [none, none] ?_
  simp only [(id F_wSo), seval, cEst, h0]
  repeat refine ob ?_
  refine awF ?_
  refine awK ?_
  simp only [(id F_wSo), seval]
  have hW := wc_ok h0
  have hLay := Lay_A e K (K + 576 * (K + 1)) (by have := hW.n; omega) (by have := hW.an; omega) hW.cl.rk hI.s.2.1 hI.k0 (by have := hI.kb; omega) (wc_layB hW hI.s hI.k0 hI.kb)
  have hB := wc_delB hW hI.s hI.k0 hI.hnc hI.nc2 hI.hna hI.b
  have hP := positive_A m M hm hI.m0 (by have := hI.mb; omega)
  have hG := lSlo_A (wLay e) (mPos m) K (kS nc K) M (kZ nc K M) _ _ _ _ hB hI.m0 (mPos_B hm hI.m0)
  simp only [cRat, delR] at hG hP
  refine awD (scq [1, 5] (.two 1 8 (.two 3 8 (.two 4 8 (scq [11, 13, 15, 16, 19, 20] .nil) (scq [8, 11, 13, 15, 19, 20] .nil)) (scq [6, 8, 11, 13, 15, 19, 20] .nil)) (scq [2, 6, 8, 11, 13, 15, 19, 20] .nil))) [none, none, none, none, none, none, none, none, none, none, none] ?_
  simp only [(id F_wSo), seval, cEst, h0, flat_pure cClaim_pure, flat_pure cAgr_pure, flat_pure cWT_pure, flat_pure cPool_pure, cLay, cRat, flat_pure cQ_pure]
  repeat refine ob ?_
  refine ⟨?_, ?_⟩
  ·
   repeat refine ob ?_
   refine ⟨_, hLay, (by first | rfl | simp [allA, pure1, pureCs, pureC, A1.cells, cLay, cRat, flat_pure cQ_pure, flat_pure cWT_pure, flat_pure cPool_pure]), ?_⟩
   try unfold Later
   try simp only [(id F_wSo), seval, cEst, h0, flat_pure cClaim_pure, flat_pure cAgr_pure, flat_pure cWT_pure, flat_pure cPool_pure, cLay, cRat, flat_pure cQ_pure]
   repeat refine ob ?_
   refine ⟨?_, ?_⟩
   ·
    repeat refine ob ?_
    refine ⟨_, hP, (by first | rfl | simp [allA, pure1, pureCs, pureC, A1.cells, cLay, cRat, flat_pure cQ_pure, flat_pure cWT_pure, flat_pure cPool_pure]), ?_⟩
    try unfold Later
    try simp only [(id F_wSo), seval, cEst, h0, flat_pure cClaim_pure, flat_pure cAgr_pure, flat_pure cWT_pure, flat_pure cPool_pure, cLay, cRat, flat_pure cQ_pure]
    repeat refine ob ?_
    refine ⟨?_, ?_⟩
    ·
     repeat refine ob ?_
     refine ⟨_, hG, (by first | rfl | simp [allA, pure1, pureCs, pureC, A1.cells, cLay, cRat, flat_pure cQ_pure, flat_pure cWT_pure, flat_pure cPool_pure]), ?_⟩
     try unfold Later
     try simp only [(id F_wSo), seval, cEst, h0, flat_pure cClaim_pure, flat_pure cAgr_pure, flat_pure cWT_pure, flat_pure cPool_pure, cLay, cRat, flat_pure cQ_pure]
     repeat refine ob ?_
     refine awD (scq [1, 3, 5, 6, 9] .nil) [none, none, none, none, none] ?_
     simp only [(id F_wSo), seval, cEst, h0, flat_pure cQ_pure]
     repeat refine ob ?_
     refine awX ?_
     simp only [(id F_wSo), seval, flat_pure cQ_pure]
     simp [slR, h0, wLay, cRat]
    repeat refine ob ?_
    refine ⟨_, hG, (by first | rfl | simp [allA, pure1, pureCs, pureC, A1.cells, cLay, cRat, flat_pure cQ_pure, flat_pure cWT_pure, flat_pure cPool_pure]), ?_⟩
    try unfold Later
    try simp only [(id F_wSo), seval, cEst, h0, flat_pure cClaim_pure, flat_pure cAgr_pure, flat_pure cWT_pure, flat_pure cPool_pure, cLay, cRat, flat_pure cQ_pure]
    repeat refine ob ?_
    refine awD (scq [1, 3, 5, 6, 9] .nil) [none, none, none, none, none] ?_
    simp only [(id F_wSo), seval, cEst, h0, flat_pure cQ_pure]
    repeat refine ob ?_
    refine awX ?_
    simp only [(id F_wSo), seval, flat_pure cQ_pure]
    simp [slR, h0, wLay, cRat]
   repeat refine ob ?_
   refine ⟨_, hP, (by first | rfl | simp [allA, pure1, pureCs, pureC, A1.cells, cLay, cRat, flat_pure cQ_pure, flat_pure cWT_pure, flat_pure cPool_pure]), ?_⟩
   try unfold Later
   try simp only [(id F_wSo), seval, cEst, h0, flat_pure cClaim_pure, flat_pure cAgr_pure, flat_pure cWT_pure, flat_pure cPool_pure, cLay, cRat, flat_pure cQ_pure]
   repeat refine ob ?_
   refine ⟨_, hG, (by first | rfl | simp [allA, pure1, pureCs, pureC, A1.cells, cLay, cRat, flat_pure cQ_pure, flat_pure cWT_pure, flat_pure cPool_pure]), ?_⟩
   try unfold Later
   try simp only [(id F_wSo), seval, cEst, h0, flat_pure cClaim_pure, flat_pure cAgr_pure, flat_pure cWT_pure, flat_pure cPool_pure, cLay, cRat, flat_pure cQ_pure]
   repeat refine ob ?_
   refine awD (scq [1, 3, 5, 6, 9] .nil) [none, none, none, none, none] ?_
   simp only [(id F_wSo), seval, cEst, h0, flat_pure cQ_pure]
   repeat refine ob ?_
   refine awX ?_
   simp only [(id F_wSo), seval, flat_pure cQ_pure]
   simp [slR, h0, wLay, cRat]
  repeat refine ob ?_
  refine ⟨_, hLay, (by first | rfl | simp [allA, pure1, pureCs, pureC, A1.cells, cLay, cRat, flat_pure cQ_pure, flat_pure cWT_pure, flat_pure cPool_pure]), ?_⟩
  try unfold Later
  try simp only [(id F_wSo), seval, cEst, h0, flat_pure cClaim_pure, flat_pure cAgr_pure, flat_pure cWT_pure, flat_pure cPool_pure, cLay, cRat, flat_pure cQ_pure]
  repeat refine ob ?_
  refine ⟨_, hP, (by first | rfl | simp [allA, pure1, pureCs, pureC, A1.cells, cLay, cRat, flat_pure cQ_pure, flat_pure cWT_pure, flat_pure cPool_pure]), ?_⟩
  try unfold Later
  try simp only [(id F_wSo), seval, cEst, h0, flat_pure cClaim_pure, flat_pure cAgr_pure, flat_pure cWT_pure, flat_pure cPool_pure, cLay, cRat, flat_pure cQ_pure]
  repeat refine ob ?_
  refine ⟨_, hG, (by first | rfl | simp [allA, pure1, pureCs, pureC, A1.cells, cLay, cRat, flat_pure cQ_pure, flat_pure cWT_pure, flat_pure cPool_pure]), ?_⟩
  try unfold Later
  try simp only [(id F_wSo), seval, cEst, h0, flat_pure cClaim_pure, flat_pure cAgr_pure, flat_pure cWT_pure, flat_pure cPool_pure, cLay, cRat, flat_pure cQ_pure]
  repeat refine ob ?_
  refine awD (scq [1, 3, 5, 6, 9] .nil) [none, none, none, none, none] ?_
  simp only [(id F_wSo), seval, cEst, h0, flat_pure cQ_pure]
  repeat refine ob ?_
  refine awX ?_
  simp only [(id F_wSo), seval, flat_pure cQ_pure]
  simp [slR, h0, wLay, cRat]
 refine awR [] [none, none] ?_
 simp only [(id F_wSo), seval, cEst, h0]
 repeat refine ob ?_
 refine awT ?_
 refine awR [] [none, none, none, none, none] ?_
 simp only [(id F_wSo), seval, cEst, h0]
 repeat refine ob ?_
 refine awX ?_
 simp only [(id F_wSo), seval]
 simp [slR, h0, enc0_cells]
end Go.Proofs.YtmbahnmhicdjfaaGreatDoor
end
section
/- Plain: sizes of slopes and kinks of a built estate. No walk. -/
namespace Go.Proofs.YtmbahnmhicdjfaaGreatDoor
open Go Go.RowKit
theorem wSPools_B {L : WL} {K Sm M Z G K2 S2 Z2 : Nat} (hB : delB L K Sm M Z G K2 S2 Z2) (g : List Rat) {k : List Rat} (hk : ∀ x ∈ k, qB G x) (h0 : 0 < G) : ∀ (ps : List WPool) (R : WR) (w : Nat), (∀ p ∈ ps, p ∈ L.pools) → R.B (G + w * (Z2 + 1)) → (wSPools g k ps R).B (G + (w + pSum ps) * (Z2 + 1))
  | [], R, w, _, h => by simpa [wSPools, pSum] using h
  | p :: ps, R, w, hp, h => by
    have hpp := hB.pl p (hp p (by simp))
    have hpz := hB.pz p (hp p (by simp))
    have h1 := (wSlope_B hpp.1 (wTot g p.1) (wTot_B hk h0 p.1) h).mono (n := G + (w + wN p.2) * (Z2 + 1)) (by
      have h7 : wN p.2 * (K2 + (1 + p.1.length * (G + 1) + S2) + 1) ≤ wN p.2 * (Z2 + 1) := Nat.mul_le_mul_left _ (by omega)
      rw [Nat.add_mul]
      omega)
    have h2 := wSPools_B hB g hk h0 ps _ _ (fun q hq => hp q (by simp [hq])) h1
    rw [wSPools, pSum_cons, ← Nat.add_assoc]
    exact h2
theorem sloN_B {e : GEst} {M : Nat} (hI : eIn e 1 M 6 2) (h0 : wcSpec e = 0) (m : Rat) : (wSlo (wLay e) m).B (kD M) := by
  have hW := wc_ok h0
  have hB := wc_delB hW hI.s hI.k0 hI.hnc hI.nc2 hI.hna hI.b
  have hG : 0 < kG 6 1 M := by unfold kG; omega
  have hk := wRates_B hB hI.m0 m
  have h4 : (⟨wTake (wLay e).pools (wRates (wLay e) m), 0⟩ : WR).B (kG 6 1 M + 0 * (kY 6 1 M + 1)) := ⟨fun x hx => (wTake_B hG (wLay e).pools _ hk x hx).mono (by omega), qB_zero.mono (by omega)⟩
  have h5 := wSPools_B hB (wGross (wLay e) m) hk hG (wLay e).pools _ 0 (fun _ h => h) h4
  rw [Nat.zero_add] at h5
  refine h5.mono ?_
  have h1 := pSum_le hW e.agrs fun _ h => h
  have h2 : pSum (wLay e).pools ≤ 1200 := by
    have := hI.hna
    show pSum (e.agrs.map (wPool e.claims)) ≤ 1200
    omega
  have h3 : pSum (wLay e).pools * (kY 6 1 M + 1) ≤ 1200 * (kY 6 1 M + 1) := Nat.mul_le_mul_right _ h2
  unfold kD
  omega
theorem slo_len (e : GEst) (m : Rat) : (wSlo (wLay e) m).cl.length = e.claims.length := wSlo_len _ _
end Go.Proofs.YtmbahnmhicdjfaaGreatDoor
end
