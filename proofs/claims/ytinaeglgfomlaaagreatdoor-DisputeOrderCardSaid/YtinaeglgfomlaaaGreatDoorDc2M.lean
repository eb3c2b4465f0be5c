/- Disputes: Check on both sides; walked by the abstract machine. -/
import Derived.Test.YtinaeglgfomlaaaGreatDoorDc1M
set_option linter.unusedVariables false
set_option linter.unusedSimpArgs false
set_option linter.defProp false
set_option linter.unnecessarySimpa false
/- Disputes: Check on both sides; walked by the abstract machine. -/
namespace Go.Proofs.YtinaeglgfomlaaaGreatDoor
open Go Go.RowKit
theorem EqOK_leg (a b : Leg) : EqOK Tryz.prog 44 [.int .i64 a.1, .int .i64 a.2] [.int .i64 b.1, .int .i64 b.2] := fun w => ⟨by
  have h1 := leg_equal a b w
  have h2 := eqW_leg a b
  rw [← h2] at h1
  exact h1, by kernel_rfl⟩
theorem eqVs_leg (a b : Leg) : eqVs [.int .i64 a.1, .int .i64 a.2] [.int .i64 b.1, .int .i64 b.2] = decide (a = b) := eqW_leg a b
def F_dCk := And.intro zS (And.intro tf69 (And.intro tf70 (And.intro tf73 (And.intro tf71 (And.intro tf30 (And.intro tf31 (And.intro tf33 (tf72))))))))
set_option maxRecDepth 100000 in
set_option maxHeartbeats 4000000 in
theorem dCheck_A (g : GGrp) (l : List GDisp) (hg : grpOK g) (hl : dispsOK l) : ACall Tryz.prog 55 [.agg (cGrp g), .one (.sh 3 l.length (flat cDisp l))] (one (.int .i64 (dcS (gcSpec g) g l))) := by
 have hl1 := hl.1
 refine acall_of Tryz.func55 rfl (by decide) (N := 46) rfl (by simp) (R := [.tmp 4]) rfl fun en k0 => ?_
 refine awR [] [none, none] ?_
 simp only [(id F_dCk), seval, cGrp]
 repeat refine ob ?_
 have hG := gCheck_A g hg
 refine awR [] [none, none, none] ?_
 simp only [(id F_dCk), seval, cGrp, flat_pure cEst_pure, flat_pure cDebt_pure]
 repeat refine ob ?_
 refine ⟨_, hG, (by first | rfl | simp [allA, pure1, pureCs, pureC, A1.cells, flat_pure cEst_pure]), ?_⟩
 try unfold Later
 try simp only [(id F_dCk), seval, cGrp, flat_pure cEst_pure, flat_pure cDebt_pure]
 repeat refine ob ?_
 by_cases hg0 : gcSpec g = 0
 ·
  refine awR [] [none, none] ?_
  simp only [(id F_dCk), seval, cGrp, hg0]
  repeat refine ob ?_
  refine awF ?_
  refine awK ?_
  simp only [(id F_dCk), seval]
  by_cases h8 : (8 : Int) < (l.length : Int)
  ·
   refine awR [] [none, none, none] ?_
   simp only [(id F_dCk), seval, cGrp, hg0, h8]
   repeat refine ob ?_
   refine awT ?_
   refine awR [] [none] ?_
   simp only [(id F_dCk), seval, cGrp, hg0, h8]
   repeat refine ob ?_
   refine awX ?_
   (first | (simp only [(id F_dCk), seval, cGrp, dcS, dChk, hg0, h8]; done) | (simp only [(id F_dCk), seval, cGrp]; first | (simp [dcS, dChk, hg0, h8]; done)))
  refine awR [] [none, none, none] ?_
  simp only [(id F_dCk), seval, cGrp, hg0, h8]
  repeat refine ob ?_
  refine awF ?_
  refine awK ?_
  simp only [(id F_dCk), seval]
  refine awR [] [none, none] ?_
  simp only [(id F_dCk), seval, cGrp, hg0, h8]
  repeat refine ob ?_
  refine awR [] [none, none, none] ?_
  simp only [(id F_dCk), seval, cGrp, hg0, h8]
  repeat refine ob ?_
  refine awp_keep [1, 2, 4, 6, 19, 20, 21] [2, 18] ?_
  try unfold Later
  try simp only [(id F_dCk), seval, cGrp, hg0, h8, mapB, setC, dLeg]
  repeat' first|apply awS|apply awB
  refine awp_loopw (fun n st => ∃ i0 T nx, i0 ≤ l.length ∧ n = l.length - i0 ∧ dkL g T (l.drop i0) = dkL g [] l ∧ st = ⟨mkT [(1, .val (.one (.sh 3 l.length (flat cDisp l)))), (2, .val (.one (.ptr 2 0 0))), (4, one (.int .i64 0)), (6, .val (.one (.own 18 1 0 0))), (19, .val (.one (.sh 3 l.length (flat cDisp l)))), (20, one (.int .i64 l.length)), (21, one (.int .i64 i0))], mkH [(2, ⟨0, 28, 2, 1, cGrp g⟩), (18, mapB 1 T)], nx, 0⟩) (l.length) ⟨0, [], _, by omega, by omega, by rfl, rfl⟩ ?_
  rintro n0 st ⟨i0, T, nx0, hk0, rfl, hL0, rfl⟩
  by_cases hlt0 : i0 < l.length
  ·
   have hI0 : (i0 : Int) < (l.length : Int) := by omega
   have hat0 := flat_at cDisp_len l i0 hlt0
   try rw [Nat.mul_one] at hat0
   rw [List.drop_eq_getElem_cons hlt0] at hL0
   have hd := hl.2 _ (List.getElem_mem hlt0)
   generalize l[i0] = d at *
   simp only [dkL] at hL0
   refine awR [] [none] ?_
   simp only [(id F_dCk), seval, cGrp, hg0, h8, hI0, hat0]
   repeat refine ob ?_
   refine awT ?_
   refine awK ?_
   simp only [(id F_dCk), seval]
   refine awR [] [none, none, none, none] ?_
   simp only [(id F_dCk), seval, cGrp, hg0, h8, hI0, hat0, cDisp]
   repeat refine ob ?_
   by_cases hx : exB g d.est d.cl = true
   ·
    have hX : ACall Tryz.prog 98 [.agg (cGrp g), .agg [.lit (.int .i64 d.est), .lit (.int .i64 d.cl)]] (one (.bool (exB g d.est d.cl))) := dExists_A g (dLeg d)
    refine awR [] [none, none, none, none, none] ?_
    simp only [(id F_dCk), seval, cGrp, hg0, h8, hI0, hat0, hx, cDisp, flat_pure cEst_pure, flat_pure cDebt_pure]
    repeat refine ob ?_
    refine ⟨_, hX, (by first | rfl | simp [allA, pure1, pureCs, pureC, A1.cells, flat_pure cEst_pure]), ?_⟩
    try unfold Later
    try simp only [(id F_dCk), seval, cGrp, hg0, h8, hI0, hat0, hx, cDisp, flat_pure cEst_pure, flat_pure cDebt_pure]
    repeat refine ob ?_
    refine awF ?_
    refine awK ?_
    simp only [(id F_dCk), seval]
    by_cases hm : dLeg d ∈ T
    ·
     have hmg := mget_in (dLeg d) T hm
     simp only [dLeg] at hmg
     refine awR [] [none, none, none, none] ?_
     simp only [(id F_dCk), seval, cGrp, hg0, h8, hI0, hat0, hx, hm, cDisp, hmg, mapB, Option.getD_some, Option.getD_none]
     repeat refine ob ?_
     refine ⟨MK_leg (dLeg d) T, ?_⟩
     repeat refine ob ?_
     refine awT ?_
     refine awR [] [none] ?_
     simp only [(id F_dCk), seval, cGrp, hg0, h8, hI0, hat0, hx, hm]
     repeat refine ob ?_
     refine awX ?_
     (first | (simp only [(id F_dCk), seval, cGrp, dcS, dChk, hg0, h8, hI0, hat0, hx, hm, ← hL0]; done) | (simp only [(id F_dCk), seval, cGrp]; first | (simp [dcS, dChk, hg0, h8, hI0, hat0, hx, hm, ← hL0]; done) | (simp [dcS, dChk, hg0, h8, hI0, hat0, hx, hm]; done) | (rw [← hL0]; simp [dcS, dChk, hg0, h8, hI0, hat0, hx, hm]; done)))
    have hmg := mget_out (dLeg d) T hm
    simp only [dLeg] at hmg
    refine awR [] [none, none, none, none] ?_
    simp only [(id F_dCk), seval, cGrp, hg0, h8, hI0, hat0, hx, hm, cDisp, hmg, mapB, Option.getD_some, Option.getD_none]
    repeat refine ob ?_
    refine ⟨MK_leg (dLeg d) T, ?_⟩
    repeat refine ob ?_
    refine awF ?_
    refine awK ?_
    simp only [(id F_dCk), seval]
    have hmp := mput_new (dLeg d) T hm
    simp only [dLeg] at hmp
    refine awR [] [none, none, none, none] ?_
    simp only [(id F_dCk), seval, cGrp, hg0, h8, hI0, hat0, hx, hm, cDisp, hmp, mapB]
    repeat refine ob ?_
    refine ⟨MK_leg (dLeg d) T, ?_⟩
    repeat refine ob ?_
    refine awR [] [none, none, none] ?_
    simp only [(id F_dCk), seval, cGrp, hg0, h8, hI0, hat0, hx, hm, cDisp, flat_pure cOpt_pure]
    repeat refine ob ?_
    refine ⟨_, (dOpts_A d hd), (by first | rfl | simp [allA, pure1, pureCs, pureC, A1.cells, flat_pure cEst_pure]), ?_⟩
    try unfold Later
    try simp only [(id F_dCk), seval, cGrp, hg0, h8, hI0, hat0, hx, hm, cDisp, flat_pure cOpt_pure]
    repeat refine ob ?_
    by_cases ho : opE d.opts = 0
    ·
     refine awR [] [none, none] ?_
     simp only [(id F_dCk), seval, cGrp, hg0, h8, hI0, hat0, hx, hm, ho]
     repeat refine ob ?_
     refine awF ?_
     refine awK ?_
     simp only [(id F_dCk), seval]
     refine awR [] [none, none] ?_
     simp only [(id F_dCk), seval, cGrp, hg0, h8, hI0, hat0, hx, hm, ho]
     repeat refine ob ?_
     repeat refine ob ?_
     refine ⟨_, wk_keep [1, 2, 4, 6, 19, 20, 21] [2, 18], l.length - (i0 + 1), by omega, i0 + 1, (T ++ [dLeg d]), ?a20_nx, by omega, rfl, ?i20_0, ?st20⟩
     case st20 => (simp only [(id F_dCk), seval, mapB, setC, dLeg, cGrp, hg0, h8, hI0, hat0, hx, hm, ho]; first | rfl | (simp [mapB, setC, dLeg, hg0, h8, hI0, hat0, hx, hm, ho, Nat.add_mul]; done))
     case i20_0 => (rw [← hL0]; simp [dChk, hx, hm, ho])
    refine awR [] [none, none] ?_
    simp only [(id F_dCk), seval, cGrp, hg0, h8, hI0, hat0, hx, hm, ho]
    repeat refine ob ?_
    refine awT ?_
    refine awR [] [none, none] ?_
    simp only [(id F_dCk), seval, cGrp, hg0, h8, hI0, hat0, hx, hm, ho]
    repeat refine ob ?_
    refine awX ?_
    (first | (simp only [(id F_dCk), seval, cGrp, dcS, dChk, hg0, h8, hI0, hat0, hx, hm, ho, ← hL0]; done) | (simp only [(id F_dCk), seval, cGrp]; first | (simp [dcS, dChk, hg0, h8, hI0, hat0, hx, hm, ho, ← hL0]; done) | (simp [dcS, dChk, hg0, h8, hI0, hat0, hx, hm, ho]; done) | (rw [← hL0]; simp [dcS, dChk, hg0, h8, hI0, hat0, hx, hm, ho]; done)))
   have hX : ACall Tryz.prog 98 [.agg (cGrp g), .agg [.lit (.int .i64 d.est), .lit (.int .i64 d.cl)]] (one (.bool (exB g d.est d.cl))) := dExists_A g (dLeg d)
   refine awR [] [none, none, none, none, none] ?_
   simp only [(id F_dCk), seval, cGrp, hg0, h8, hI0, hat0, hx, cDisp, flat_pure cEst_pure, flat_pure cDebt_pure]
   repeat refine ob ?_
   refine ⟨_, hX, (by first | rfl | simp [allA, pure1, pureCs, pureC, A1.cells, flat_pure cEst_pure]), ?_⟩
   try unfold Later
   try simp only [(id F_dCk), seval, cGrp, hg0, h8, hI0, hat0, hx, cDisp, flat_pure cEst_pure, flat_pure cDebt_pure]
   repeat refine ob ?_
   refine awT ?_
   refine awR [] [none] ?_
   simp only [(id F_dCk), seval, cGrp, hg0, h8, hI0, hat0, hx]
   repeat refine ob ?_
   refine awX ?_
   (first | (simp only [(id F_dCk), seval, cGrp, dcS, dChk, hg0, h8, hI0, hat0, hx, ← hL0]; done) | (simp only [(id F_dCk), seval, cGrp]; first | (simp [dcS, dChk, hg0, h8, hI0, hat0, hx, ← hL0]; done) | (simp [dcS, dChk, hg0, h8, hI0, hat0, hx]; done) | (rw [← hL0]; simp [dcS, dChk, hg0, h8, hI0, hat0, hx]; done)))
  obtain rfl : i0 = l.length := by omega
  have hI0 : ¬ (l.length : Int) < (l.length : Int) := by omega
  rw [List.drop_length] at hL0
  simp only [dkL] at hL0
  refine awR [] [none] ?_
  simp only [(id F_dCk), seval, cGrp, hg0, h8, hI0]
  repeat refine ob ?_
  refine awF ?_
  refine awQ ?_
  simp only [(id F_dCk), seval]
  by_cases hc : (4096 : Int) < cnL l 1
  ·
   refine awR [] [none, none, none] ?_
   simp only [(id F_dCk), seval, cGrp, hg0, h8, hI0, hc, flat_pure cDisp_pure]
   repeat refine ob ?_
   refine ⟨_, (dCount_A l hl), (by first | rfl | simp [allA, pure1, pureCs, pureC, A1.cells, flat_pure cEst_pure]), ?_⟩
   try unfold Later
   try simp only [(id F_dCk), seval, cGrp, hg0, h8, hI0, hc, flat_pure cDisp_pure]
   repeat refine ob ?_
   refine awT ?_
   refine awR [] [none] ?_
   simp only [(id F_dCk), seval, cGrp, hg0, h8, hI0, hc]
   repeat refine ob ?_
   refine awX ?_
   (first | (simp only [(id F_dCk), seval, cGrp, dcS, dChk, hg0, h8, hI0, hc, ← hL0]; done) | (simp only [(id F_dCk), seval, cGrp]; first | (simp [dcS, dChk, hg0, h8, hI0, hc, ← hL0]; done) | (simp [dcS, dChk, hg0, h8, hI0, hc]; done) | (rw [← hL0]; simp [dcS, dChk, hg0, h8, hI0, hc]; done)))
  refine awR [] [none, none, none] ?_
  simp only [(id F_dCk), seval, cGrp, hg0, h8, hI0, hc, flat_pure cDisp_pure]
  repeat refine ob ?_
  refine ⟨_, (dCount_A l hl), (by first | rfl | simp [allA, pure1, pureCs, pureC, A1.cells, flat_pure cEst_pure]), ?_⟩
  try unfold Later
  try simp only [(id F_dCk), seval, cGrp, hg0, h8, hI0, hc, flat_pure cDisp_pure]
  repeat refine ob ?_
  refine awF ?_
  refine awK ?_
  simp only [(id F_dCk), seval]
  refine awR [] [none] ?_
  simp only [(id F_dCk), seval, cGrp, hg0, h8, hI0, hc]
  repeat refine ob ?_
  refine awX ?_
  (first | (simp only [(id F_dCk), seval, cGrp, dcS, dChk, hg0, h8, hI0, hc, ← hL0]; done) | (simp only [(id F_dCk), seval, cGrp]; first | (simp [dcS, dChk, hg0, h8, hI0, hc, ← hL0]; done) | (simp [dcS, dChk, hg0, h8, hI0, hc]; done) | (rw [← hL0]; simp [dcS, dChk, hg0, h8, hI0, hc]; done)))
 refine awR [] [none, none] ?_
 simp only [(id F_dCk), seval, cGrp, hg0]
 repeat refine ob ?_
 refine awT ?_
 refine awR [] [none, none] ?_
 simp only [(id F_dCk), seval, cGrp, hg0]
 repeat refine ob ?_
 refine awX ?_
 (first | (simp only [(id F_dCk), seval, cGrp, dcS, dChk, hg0]; done) | (simp only [(id F_dCk), seval, cGrp]; first | (simp [dcS, dChk, hg0]; done)))
end Go.Proofs.YtinaeglgfomlaaaGreatDoor
