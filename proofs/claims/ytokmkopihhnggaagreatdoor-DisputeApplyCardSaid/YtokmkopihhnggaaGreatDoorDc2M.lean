/- Disputes: Check on both sides; walked by the abstract machine. -/
import Derived.Test.YtokmkopihhnggaaGreatDoorDc1M
set_option linter.unusedVariables false
set_option linter.unusedSimpArgs false
set_option linter.defProp false
namespace Go.Proofs.YtokmkopihhnggaaGreatDoor
open Go Go.RowKit
theorem EqOK_leg (a b : Leg) : EqOK Tryz.prog 44 [.int .i64 a.1, .int .i64 a.2] [.int .i64 b.1, .int .i64 b.2] := fun w => ⟨by
 have h1 := leg_equal a b w
 have h2 := eqW_leg a b
 rw [← h2] at h1
 exact h1, by kernel_rfl⟩
theorem eqVs_leg (a b : Leg) : eqVs [.int .i64 a.1, .int .i64 a.2] [.int .i64 b.1, .int .i64 b.2] = decide (a = b) := eqW_leg a b
def F63 := And.intro zS (And.intro tf141 (And.intro tf142 (And.intro tf145 (And.intro tf143 (And.intro tf113 (And.intro tf101 (And.intro tf132 (tf144))))))))
set_option maxRecDepth 100000 in
set_option maxHeartbeats 4000000 in
theorem dCheck_A (g : GGrp) (l : List GDisp) (hg : grpOK g) (hl : dispsOK l) : ACall Tryz.prog 60 [.agg (cGrp g), .one (.sh 3 l.length (flat cDisp l))] (one (.int .i64 (dcS (gcSpec g) g l))) := by
 have hl1 := hl.1
 refine acall_of Tryz.func60 rfl (by decide) (N := 46) rfl (by simp) (R := [.tmp 4]) rfl fun en k0 => ?_
 refine awN ?_
 simp only [(id F63), seval, cGrp]
 repeat refine ob ?_
 have hG := gCheck_A g hg
 refine awN ?_
 simp only [(id F63), seval, cGrp, flat_pure cEst_pure, flat_pure cDebt_pure]
 repeat refine ob ?_
 refine ⟨_, hG, (by first | rfl | simp [allA, pure1, pureCs, pureC, A1.cells, flat_pure cEst_pure]), ?_⟩
 try unfold Later
 try simp only [(id F63), seval, cGrp, flat_pure cEst_pure, flat_pure cDebt_pure]
 repeat refine ob ?_
 by_cases hg0 : gcSpec g = 0
 ·skip
  refine awN ?_
  simp only [(id F63), seval, cGrp, hg0]
  repeat refine ob ?_
  refine awF ?_
  refine awK ?_
  simp only [(id F63), seval]
  by_cases h8 : (8 : Int) < (l.length : Int)
  ·skip
   refine awN ?_
   simp only [(id F63), seval, cGrp, hg0, h8]
   repeat refine ob ?_
   refine awT ?_
   refine awN ?_
   simp only [(id F63), seval, cGrp, hg0, h8]
   repeat refine ob ?_
   refine awX ?_
   (first | (simp only [(id F63), seval, cGrp, dcS, dChk, hg0, h8]; done) | (simp only [(id F63), seval, cGrp]; first | (simp [dcS, dChk, hg0, h8]; done)))
  skip
  refine awN ?_
  simp only [(id F63), seval, cGrp, hg0, h8]
  repeat refine ob ?_
  refine awF ?_
  refine awK ?_
  simp only [(id F63), seval]
  refine awN ?_
  simp only [(id F63), seval, cGrp, hg0, h8]
  repeat refine ob ?_
  refine awN ?_
  simp only [(id F63), seval, cGrp, hg0, h8]
  repeat refine ob ?_
  refine awp_keep [1, 2, 4, 6, 19, 20, 21] [2, 18] ?_
  try unfold Later
  try simp only [(id F63), seval, cGrp, hg0, h8, mapB, setC, dLeg]
  repeat' first|apply awS|apply awB
  refine awp_loopw (fun n st => ∃ i0 T nx, i0 ≤ l.length ∧ n = l.length - i0 ∧ dkL g T (l.drop i0) = dkL g [] l ∧ st = ⟨mkT [(1, .val (.one (.sh 3 l.length (flat cDisp l)))), (2, .val (.one (.ptr 2 0 0))), (4, one (.int .i64 0)), (6, .val (.one (.own 18 1 0 0))), (19, .val (.one (.sh 3 l.length (flat cDisp l)))), (20, one (.int .i64 l.length)), (21, one (.int .i64 i0))], mkH [(2, ⟨0, 28, 2, 1, cGrp g⟩), (18, mapB 1 T)], nx, 0⟩) (l.length) ⟨0, [], _, by omega, by omega, by rfl, rfl⟩ ?_
  rintro n0 st ⟨i0, T, nx0, hk0, rfl, hL0, rfl⟩
  by_cases hlt0 : i0 < l.length
  ·skip
   have hI0 : (i0 : Int) < (l.length : Int) := by omega
   have hat0 := flat_at cDisp_len l i0 hlt0
   try rw [Nat.mul_one] at hat0
   rw [List.drop_eq_getElem_cons hlt0] at hL0
   have hd := hl.2 _ (List.getElem_mem hlt0)
   generalize l[i0] = d at *
   simp only [dkL] at hL0
   refine awN ?_
   simp only [(id F63), seval, cGrp, hg0, h8, hI0, hat0]
   repeat refine ob ?_
   refine awT ?_
   refine awK ?_
   simp only [(id F63), seval]
   refine awN ?_
   simp only [(id F63), seval, cGrp, hg0, h8, hI0, hat0, cDisp]
   repeat refine ob ?_
   by_cases hx : exB g d.est d.cl = true
   ·skip
    have hX : ACall Tryz.prog 110 [.agg (cGrp g), .agg [.lit (.int .i64 d.est), .lit (.int .i64 d.cl)]] (one (.bool (exB g d.est d.cl))) := dExists_A g (dLeg d)
    refine awN ?_
    simp only [(id F63), seval, cGrp, hg0, h8, hI0, hat0, hx, cDisp, flat_pure cEst_pure, flat_pure cDebt_pure]
    repeat refine ob ?_
    refine ⟨_, hX, (by first | rfl | simp [allA, pure1, pureCs, pureC, A1.cells, flat_pure cEst_pure]), ?_⟩
    try unfold Later
    try simp only [(id F63), seval, cGrp, hg0, h8, hI0, hat0, hx, cDisp, flat_pure cEst_pure, flat_pure cDebt_pure]
    repeat refine ob ?_
    refine awF ?_
    refine awK ?_
    simp only [(id F63), seval]
    by_cases hm : dLeg d ∈ T
    ·skip
     have hmg := mget_in (dLeg d) T hm
     simp only [dLeg] at hmg
     refine awN ?_
     simp only [(id F63), seval, cGrp, hg0, h8, hI0, hat0, hx, hm, cDisp, hmg, mapB, Option.getD_some, Option.getD_none]
     repeat refine ob ?_
     refine ⟨MK_leg (dLeg d) T, ?_⟩
     repeat refine ob ?_
     refine awT ?_
     refine awN ?_
     simp only [(id F63), seval, cGrp, hg0, h8, hI0, hat0, hx, hm]
     repeat refine ob ?_
     refine awX ?_
     (first | (simp only [(id F63), seval, cGrp, dcS, dChk, hg0, h8, hI0, hat0, hx, hm, ← hL0]; done) | (simp only [(id F63), seval, cGrp]; first | (simp [dcS, dChk, hg0, h8, hI0, hat0, hx, hm, ← hL0]; done) | (simp [dcS, dChk, hg0, h8, hI0, hat0, hx, hm]; done) | (rw [← hL0]; simp [dcS, dChk, hg0, h8, hI0, hat0, hx, hm]; done)))
    skip
    have hmg := mget_out (dLeg d) T hm
    simp only [dLeg] at hmg
    refine awN ?_
    simp only [(id F63), seval, cGrp, hg0, h8, hI0, hat0, hx, hm, cDisp, hmg, mapB, Option.getD_some, Option.getD_none]
    repeat refine ob ?_
    refine ⟨MK_leg (dLeg d) T, ?_⟩
    repeat refine ob ?_
    refine awF ?_
    refine awK ?_
    simp only [(id F63), seval]
    have hmp := mput_new (dLeg d) T hm
    simp only [dLeg] at hmp
    refine awN ?_
    simp only [(id F63), seval, cGrp, hg0, h8, hI0, hat0, hx, hm, cDisp, hmp, mapB]
    repeat refine ob ?_
    refine ⟨MK_leg (dLeg d) T, ?_⟩
    repeat refine ob ?_
    refine awN ?_
    simp only [(id F63), seval, cGrp, hg0, h8, hI0, hat0, hx, hm, cDisp, flat_pure cOpt_pure]
    repeat refine ob ?_
    refine ⟨_, (dOpts_A d hd), (by first | rfl | simp [allA, pure1, pureCs, pureC, A1.cells, flat_pure cEst_pure]), ?_⟩
    try unfold Later
    try simp only [(id F63), seval, cGrp, hg0, h8, hI0, hat0, hx, hm, cDisp, flat_pure cOpt_pure]
    repeat refine ob ?_
    by_cases ho : opE d.opts = 0
    ·skip
     refine awN ?_
     simp only [(id F63), seval, cGrp, hg0, h8, hI0, hat0, hx, hm, ho]
     repeat refine ob ?_
     refine awF ?_
     refine awK ?_
     simp only [(id F63), seval]
     refine awN ?_
     simp only [(id F63), seval, cGrp, hg0, h8, hI0, hat0, hx, hm, ho]
     repeat refine ob ?_
     repeat refine ob ?_
     refine ⟨_, wk_keep [1, 2, 4, 6, 19, 20, 21] [2, 18], l.length - (i0 + 1), by omega, i0 + 1, (T ++ [dLeg d]), ?a20_nx, by omega, rfl, ?i20_0, ?st20⟩
     case st20 => (simp only [(id F63), seval, mapB, setC, dLeg, cGrp, hg0, h8, hI0, hat0, hx, hm, ho]; first | rfl | (simp [mapB, setC, dLeg, hg0, h8, hI0, hat0, hx, hm, ho, Nat.add_mul]; done))
     case i20_0 => (rw [← hL0]; simp [dChk, hx, hm, ho])
    skip
    refine awN ?_
    simp only [(id F63), seval, cGrp, hg0, h8, hI0, hat0, hx, hm, ho]
    repeat refine ob ?_
    refine awT ?_
    refine awN ?_
    simp only [(id F63), seval, cGrp, hg0, h8, hI0, hat0, hx, hm, ho]
    repeat refine ob ?_
    refine awX ?_
    (first | (simp only [(id F63), seval, cGrp, dcS, dChk, hg0, h8, hI0, hat0, hx, hm, ho, ← hL0]; done) | (simp only [(id F63), seval, cGrp]; first | (simp [dcS, dChk, hg0, h8, hI0, hat0, hx, hm, ho, ← hL0]; done) | (simp [dcS, dChk, hg0, h8, hI0, hat0, hx, hm, ho]; done) | (rw [← hL0]; simp [dcS, dChk, hg0, h8, hI0, hat0, hx, hm, ho]; done)))
   skip
   have hX : ACall Tryz.prog 110 [.agg (cGrp g), .agg [.lit (.int .i64 d.est), .lit (.int .i64 d.cl)]] (one (.bool (exB g d.est d.cl))) := dExists_A g (dLeg d)
   refine awN ?_
   simp only [(id F63), seval, cGrp, hg0, h8, hI0, hat0, hx, cDisp, flat_pure cEst_pure, flat_pure cDebt_pure]
   repeat refine ob ?_
   refine ⟨_, hX, (by first | rfl | simp [allA, pure1, pureCs, pureC, A1.cells, flat_pure cEst_pure]), ?_⟩
   try unfold Later
   try simp only [(id F63), seval, cGrp, hg0, h8, hI0, hat0, hx, cDisp, flat_pure cEst_pure, flat_pure cDebt_pure]
   repeat refine ob ?_
   refine awT ?_
   refine awN ?_
   simp only [(id F63), seval, cGrp, hg0, h8, hI0, hat0, hx]
   repeat refine ob ?_
   refine awX ?_
   (first | (simp only [(id F63), seval, cGrp, dcS, dChk, hg0, h8, hI0, hat0, hx, ← hL0]; done) | (simp only [(id F63), seval, cGrp]; first | (simp [dcS, dChk, hg0, h8, hI0, hat0, hx, ← hL0]; done) | (simp [dcS, dChk, hg0, h8, hI0, hat0, hx]; done) | (rw [← hL0]; simp [dcS, dChk, hg0, h8, hI0, hat0, hx]; done)))
  skip
  obtain rfl : i0 = l.length := by omega
  have hI0 : ¬ (l.length : Int) < (l.length : Int) := by omega
  rw [List.drop_length] at hL0
  simp only [dkL] at hL0
  refine awN ?_
  simp only [(id F63), seval, cGrp, hg0, h8, hI0]
  repeat refine ob ?_
  refine awF ?_
  refine awQ ?_
  simp only [(id F63), seval]
  by_cases hc : (4096 : Int) < cnL l 1
  ·skip
   refine awN ?_
   simp only [(id F63), seval, cGrp, hg0, h8, hI0, hc, flat_pure cDisp_pure]
   repeat refine ob ?_
   refine ⟨_, (dCount_A l hl), (by first | rfl | simp [allA, pure1, pureCs, pureC, A1.cells, flat_pure cEst_pure]), ?_⟩
   try unfold Later
   try simp only [(id F63), seval, cGrp, hg0, h8, hI0, hc, flat_pure cDisp_pure]
   repeat refine ob ?_
   refine awT ?_
   refine awN ?_
   simp only [(id F63), seval, cGrp, hg0, h8, hI0, hc]
   repeat refine ob ?_
   refine awX ?_
   (first | (simp only [(id F63), seval, cGrp, dcS, dChk, hg0, h8, hI0, hc, ← hL0]; done) | (simp only [(id F63), seval, cGrp]; first | (simp [dcS, dChk, hg0, h8, hI0, hc, ← hL0]; done) | (simp [dcS, dChk, hg0, h8, hI0, hc]; done) | (rw [← hL0]; simp [dcS, dChk, hg0, h8, hI0, hc]; done)))
  skip
  refine awN ?_
  simp only [(id F63), seval, cGrp, hg0, h8, hI0, hc, flat_pure cDisp_pure]
  repeat refine ob ?_
  refine ⟨_, (dCount_A l hl), (by first | rfl | simp [allA, pure1, pureCs, pureC, A1.cells, flat_pure cEst_pure]), ?_⟩
  try unfold Later
  try simp only [(id F63), seval, cGrp, hg0, h8, hI0, hc, flat_pure cDisp_pure]
  repeat refine ob ?_
  refine awF ?_
  refine awK ?_
  simp only [(id F63), seval]
  refine awN ?_
  simp only [(id F63), seval, cGrp, hg0, h8, hI0, hc]
  repeat refine ob ?_
  refine awX ?_
  (first | (simp only [(id F63), seval, cGrp, dcS, dChk, hg0, h8, hI0, hc, ← hL0]; done) | (simp only [(id F63), seval, cGrp]; first | (simp [dcS, dChk, hg0, h8, hI0, hc, ← hL0]; done) | (simp [dcS, dChk, hg0, h8, hI0, hc]; done) | (rw [← hL0]; simp [dcS, dChk, hg0, h8, hI0, hc]; done)))
 skip
 refine awN ?_
 simp only [(id F63), seval, cGrp, hg0]
 repeat refine ob ?_
 refine awT ?_
 refine awN ?_
 simp only [(id F63), seval, cGrp, hg0]
 repeat refine ob ?_
 refine awX ?_
 (first | (simp only [(id F63), seval, cGrp, dcS, dChk, hg0]; done) | (simp only [(id F63), seval, cGrp]; first | (simp [dcS, dChk, hg0]; done)))
def F64 := And.intro zS (And.intro tf141 (And.intro tf133 (And.intro tf142 (And.intro tf134 (And.intro tf145 (And.intro tf135 (And.intro tf136 (And.intro tf137 (And.intro tf138 (And.intro tf143 (And.intro tf113 (And.intro tf101 (And.intro tf18 (And.intro tf12 (tf144)))))))))))))))
set_option maxRecDepth 100000 in
set_option maxHeartbeats 4000000 in
theorem rDisp_A (g : GGrp) (l : List GDisp) (i : Nat) (hi : i < l.length) (hl : dispsOK l) : ACall Tryz.prog 114 [.agg (cGrp g), .one (.sh 3 l.length (flat cDisp l)), .one (.lit (.int .i64 i))] (one (.int .i64 (dChk g ((l.take i).map dLeg) l[i]))) := by
 have hl1 := hl.1
 refine acall_of Tryz.func114 rfl (by decide) (N := 71) rfl (by simp) (R := [.tmp 6]) rfl fun en k0 => ?_
 refine awN ?_
 simp only [(id F64), seval, cGrp]
 repeat refine ob ?_
 have hatd := flat_at cDisp_len l i hi
 have hd0 := hl.2 _ (List.getElem_mem hi)
 generalize hld : l[i] = d at *
 refine awN ?_
 simp only [(id F64), seval, cGrp, hatd, cDisp]
 repeat refine ob ?_
 by_cases hx : exB g d.est d.cl = true
 ·
  have hX : ACall Tryz.prog 155 [.agg (cGrp g), .agg [.lit (.int .i64 d.est), .lit (.int .i64 d.cl)]] (one (.bool (exB g d.est d.cl))) := rExists_A g (dLeg d)
  refine awN ?_
  simp only [(id F64), seval, cGrp, hx, cDisp, flat_pure cEst_pure, flat_pure cDebt_pure]
  repeat refine ob ?_
  refine ⟨_, hX, rfl, ?_⟩
  try unfold Later
  try simp only [(id F64), seval, cGrp, hx, cDisp, flat_pure cEst_pure, flat_pure cDebt_pure]
  repeat refine ob ?_
  refine awF ?_
  refine awK ?_
  simp only [(id F64), seval]
  refine awN ?_
  simp only [(id F64), seval, cGrp, hx]
  repeat refine ob ?_
  refine awp_keep [1, 2, 3, 6, 7, 8] [3, 7] ?_
  try unfold Later
  try simp only [(id F64), seval, cGrp, hx]
  repeat' first|apply awS|apply awB
  refine awp_loopw (fun n st => ∃ k nx, k ≤ i ∧ n = i - k ∧ dLeg d ∉ (l.take k).map dLeg ∧ st = ⟨mkT [(1, .val (.one (.sh 3 l.length (flat cDisp l)))), (2, one (.int .i64 i)), (3, .val (.one (.ptr 3 0 0))), (6, one (.int .i64 0)), (7, .val (.one (.ptr 7 1 0))), (8, one (.int .i64 k))], mkH [(3, ⟨0, 28, 2, 1, cGrp g⟩), (7, ⟨1, 109, 3, 1, cDisp d⟩)], nx, 0⟩) (i) ⟨0, _, by omega, by omega, by simp, rfl⟩ ?_
  rintro n0 st ⟨k, nx0, hk, rfl, hno, rfl⟩
  by_cases hlt : (k : Int) < (i : Int)
  ·
   refine awN ?_
   simp only [(id F64), seval, cGrp, hx, hlt]
   repeat refine ob ?_
   refine awT ?_
   refine awK ?_
   simp only [(id F64), seval]
   by_cases he : dLeg l[k] = dLeg d
   ·
    have hatk := flat_at cDisp_len l k (by omega)
    have hq := EqOK_leg (dLeg l[k]) (dLeg d)
    have hqv := eqVs_leg (dLeg l[k]) (dLeg d)
    simp only [dLeg] at hq hqv he
    refine awD (scT 0 8 .nil) [none, none, none, none, none, none, none, none] ?_
    simp only [(id F64), seval, cGrp, hx, hlt, he, hatk, cDisp, hqv]
    repeat refine ob ?_
    try refine ⟨hq, ?_⟩
    repeat refine ob ?_
    refine awT ?_
    refine awN ?_
    simp only [(id F64), seval, cGrp, hx, hlt, he]
    repeat refine ob ?_
    have hmem : dLeg d ∈ (l.take i).map dLeg := List.mem_map.2 ⟨l[k], by rw [List.mem_take_iff_getElem]; exact ⟨k, by omega, rfl⟩, by simp only [dLeg]; exact he⟩
    generalize (l.take i).map dLeg = TT at *
    refine awX ?_
    simp only [(id F64), seval]
    simp [dChk, hx, hmem]
   have hatk := flat_at cDisp_len l k (by omega)
   have hq := EqOK_leg (dLeg l[k]) (dLeg d)
   have hqv := eqVs_leg (dLeg l[k]) (dLeg d)
   simp only [dLeg] at hq hqv he
   refine awD (scT 0 8 .nil) [none, none, none, none, none, none, none, none] ?_
   simp only [(id F64), seval, cGrp, hx, hlt, he, hatk, cDisp, hqv]
   repeat refine ob ?_
   try refine ⟨hq, ?_⟩
   repeat refine ob ?_
   refine awF ?_
   refine awK ?_
   simp only [(id F64), seval]
   refine awN ?_
   simp only [(id F64), seval, cGrp, hx, hlt, he]
   repeat refine ob ?_
   repeat refine ob ?_
   have hne : ¬ dLeg l[k] = dLeg d := by intro h; simp only [dLeg] at h; exact he h
   refine ⟨_, wk_keep [1, 2, 3, 6, 7, 8] [3, 7], i - (k + 1), by omega, k + 1, ?nq, by omega, rfl, ?hq1, ?sq⟩
   case sq => (simp only [(id F64), seval]; rfl)
   case hq1 =>
    rw [List.take_succ_eq_append_getElem (by omega), List.map_append, List.mem_append]
    rintro (h | h)
    ·
     exact hno h
    simp only [List.map_cons, List.map_nil, List.mem_cons, List.not_mem_nil, or_false] at h
    exact hne h.symm
  refine awN ?_
  simp only [(id F64), seval, cGrp, hx, hlt]
  repeat refine ob ?_
  refine awF ?_
  refine awQ ?_
  simp only [(id F64), seval]
  by_cases h1 : (d.opts.length : Int) = 0
  ·
   have hki : k = i := by omega
   rw [hki] at hno
   generalize (l.take i).map dLeg = TT at *
   have hno9 := hno
   refine awN ?_
   simp only [(id F64), seval, cGrp, hx, hlt, h1, hno9, cDisp]
   repeat refine ob ?_
   refine awT ?_
   refine awN ?_
   simp only [(id F64), seval, cGrp, hx, hlt, h1, hno9]
   repeat refine ob ?_
   refine awX ?_
   (first | (simp only [(id F64), seval, cGrp, dChk, opE, hx, hlt, h1, hno9]; done) | (simp only [(id F64), seval, cGrp]; first | (simp [dChk, opE, hx, hlt, h1, hno9]; done)))
  have hki : k = i := by omega
  rw [hki] at hno
  generalize (l.take i).map dLeg = TT at *
  have hno9 := hno
  refine awN ?_
  simp only [(id F64), seval, cGrp, hx, hlt, h1, hno9, cDisp]
  repeat refine ob ?_
  refine awF ?_
  refine awK ?_
  simp only [(id F64), seval]
  by_cases h2 : (4 : Int) < (d.opts.length : Int)
  ·
   refine awN ?_
   simp only [(id F64), seval, cGrp, hx, hlt, h1, hno9, h2, cDisp]
   repeat refine ob ?_
   refine awT ?_
   refine awN ?_
   simp only [(id F64), seval, cGrp, hx, hlt, h1, hno9, h2]
   repeat refine ob ?_
   refine awX ?_
   (first | (simp only [(id F64), seval, cGrp, dChk, opE, hx, hlt, h1, hno9, h2]; done) | (simp only [(id F64), seval, cGrp]; first | (simp [dChk, opE, hx, hlt, h1, hno9, h2]; done)))
  refine awN ?_
  simp only [(id F64), seval, cGrp, hx, hlt, h1, hno9, h2, cDisp]
  repeat refine ob ?_
  refine awF ?_
  refine awK ?_
  simp only [(id F64), seval]
  refine awN ?_
  simp only [(id F64), seval, cGrp, hx, hlt, h1, hno9, h2]
  repeat refine ob ?_
  refine awp_keep [1, 2, 3, 6, 7, 9] [3, 7] ?_
  try unfold Later
  try simp only [(id F64), seval, cGrp, hx, hlt, h1, hno9, h2]
  repeat' first|apply awS|apply awB
  refine awp_loopw (fun n st => ∃ q nx, q ≤ d.opts.length ∧ n = d.opts.length - q ∧ opL (d.opts.drop q) = opL d.opts ∧ st = ⟨mkT [(1, .val (.one (.sh 3 l.length (flat cDisp l)))), (2, one (.int .i64 i)), (3, .val (.one (.ptr 3 0 0))), (6, one (.int .i64 0)), (7, .val (.one (.ptr 7 1 0))), (9, one (.int .i64 q))], mkH [(3, ⟨0, 28, 2, 1, cGrp g⟩), (7, ⟨1, 109, 3, 1, cDisp d⟩)], nx, 0⟩) (d.opts.length) ⟨0, _, by omega, by omega, by rfl, rfl⟩ ?_
  rintro n1 st ⟨q, nx1, hk1, rfl, hL1, rfl⟩
  by_cases hlt1 : q < d.opts.length
  ·
   have hI1 : (q : Int) < (d.opts.length : Int) := by omega
   have hat1 := flat_at cOpt_len d.opts q hlt1
   try rw [Nat.mul_one] at hat1
   rw [List.drop_eq_getElem_cons hlt1] at hL1
   have hr := hd0.2 _ (List.getElem_mem hlt1)
   generalize d.opts[q] = x at *
   simp only [opL] at hL1
   refine awN ?_
   simp only [(id F64), seval, cGrp, hx, hlt, h1, hno9, h2, hI1, hat1, cDisp]
   repeat refine ob ?_
   refine awT ?_
   refine awK ?_
   simp only [(id F64), seval]
   by_cases h3 : x.rank < 0
   ·
    refine awR [] [none, none, none, none, none, none, none, none, some (54, false), some (54, false), some (54, false), some (54, false), some (54, false), some (54, false), some (54, false), none] ?_
    simp only [(id F64), seval, cGrp, hx, hlt, h1, hno9, h2, hI1, hat1, h3, cDisp, cOpt]
    repeat refine ob ?_
    refine awT ?_
    refine awN ?_
    simp only [(id F64), seval, cGrp, hx, hlt, h1, hno9, h2, hI1, hat1, h3]
    repeat refine ob ?_
    refine awX ?_
    (first | (simp only [(id F64), seval, cGrp, dChk, opE, hx, hlt, h1, hno9, h2, hI1, hat1, h3, ← hL1]; done) | (simp only [(id F64), seval, cGrp]; first | (simp [dChk, opE, hx, hlt, h1, hno9, h2, hI1, hat1, h3, ← hL1]; done) | (simp [dChk, opE, hx, hlt, h1, hno9, h2, hI1, hat1, h3]; done) | (rw [← hL1]; simp [dChk, opE, hx, hlt, h1, hno9, h2, hI1, hat1, h3]; done)))
   by_cases h4 : (7 : Int) < x.rank
   ·
    refine awR [] [none, none, none, none, none, none, none, none, some (54, false), some (54, false), some (54, false), some (54, false), some (54, false), some (54, false), some (54, false), none] ?_
    simp only [(id F64), seval, cGrp, hx, hlt, h1, hno9, h2, hI1, hat1, h3, h4, cDisp, cOpt]
    repeat refine ob ?_
    refine awT ?_
    refine awN ?_
    simp only [(id F64), seval, cGrp, hx, hlt, h1, hno9, h2, hI1, hat1, h3, h4]
    repeat refine ob ?_
    refine awX ?_
    (first | (simp only [(id F64), seval, cGrp, dChk, opE, hx, hlt, h1, hno9, h2, hI1, hat1, h3, h4, ← hL1]; done) | (simp only [(id F64), seval, cGrp]; first | (simp [dChk, opE, hx, hlt, h1, hno9, h2, hI1, hat1, h3, h4, ← hL1]; done) | (simp [dChk, opE, hx, hlt, h1, hno9, h2, hI1, hat1, h3, h4]; done) | (rw [← hL1]; simp [dChk, opE, hx, hlt, h1, hno9, h2, hI1, hat1, h3, h4]; done)))
   refine awR [] [none, none, none, none, none, none, none, none, some (54, false), some (54, false), some (54, false), some (54, false), some (54, false), some (54, false), some (54, false), none] ?_
   simp only [(id F64), seval, cGrp, hx, hlt, h1, hno9, h2, hI1, hat1, h3, h4, cDisp, cOpt]
   repeat refine ob ?_
   refine awF ?_
   refine awK ?_
   simp only [(id F64), seval]
   by_cases h5 : qSgn (qOf x.amount) < 0
   ·
    refine awN ?_
    simp only [(id F64), seval, cGrp, hx, hlt, h1, hno9, h2, hI1, hat1, h3, h4, h5, cDisp, cOpt]
    repeat refine ob ?_
    refine ⟨_, (bSign x.amount hr.1 hr.2), rfl, ?_⟩
    try unfold Later
    try simp only [(id F64), seval, cGrp, hx, hlt, h1, hno9, h2, hI1, hat1, h3, h4, h5, cDisp, cOpt]
    repeat refine ob ?_
    refine awT ?_
    refine awN ?_
    simp only [(id F64), seval, cGrp, hx, hlt, h1, hno9, h2, hI1, hat1, h3, h4, h5]
    repeat refine ob ?_
    refine awX ?_
    (first | (simp only [(id F64), seval, cGrp, dChk, opE, hx, hlt, h1, hno9, h2, hI1, hat1, h3, h4, h5, ← hL1]; done) | (simp only [(id F64), seval, cGrp]; first | (simp [dChk, opE, hx, hlt, h1, hno9, h2, hI1, hat1, h3, h4, h5, ← hL1]; done) | (simp [dChk, opE, hx, hlt, h1, hno9, h2, hI1, hat1, h3, h4, h5]; done) | (rw [← hL1]; simp [dChk, opE, hx, hlt, h1, hno9, h2, hI1, hat1, h3, h4, h5]; done)))
   refine awN ?_
   simp only [(id F64), seval, cGrp, hx, hlt, h1, hno9, h2, hI1, hat1, h3, h4, h5, cDisp, cOpt]
   repeat refine ob ?_
   refine ⟨_, (bSign x.amount hr.1 hr.2), rfl, ?_⟩
   try unfold Later
   try simp only [(id F64), seval, cGrp, hx, hlt, h1, hno9, h2, hI1, hat1, h3, h4, h5, cDisp, cOpt]
   repeat refine ob ?_
   refine awF ?_
   refine awK ?_
   simp only [(id F64), seval]
   refine awN ?_
   simp only [(id F64), seval, cGrp, hx, hlt, h1, hno9, h2, hI1, hat1, h3, h4, h5]
   repeat refine ob ?_
   repeat refine ob ?_
   refine ⟨_, wk_keep [1, 2, 3, 6, 7, 9] [3, 7], d.opts.length - (q + 1), by omega, q + 1, ?a33_nx, by omega, rfl, ?i33_0, ?st33⟩
   case st33 => (simp only [(id F64), seval, cGrp, hx, hlt, h1, hno9, h2, hI1, hat1, h3, h4, h5]; first | rfl | (simp [hx, hlt, h1, hno9, h2, hI1, hat1, h3, h4, h5, Nat.add_mul]; done))
   case i33_0 => (first | exact hL1 | (rw [← hL1]; simp only [reduceIte, hx, hlt, h1, hno9, h2, hI1, hat1, h3, h4, h5]; done) | (rw [← hL1]; simp [hx, hlt, h1, hno9, h2, hI1, hat1, h3, h4, h5]; done) | (simp [hx, hlt, h1, hno9, h2, hI1, hat1, h3, h4, h5] at hL1; simpa using hL1) | (rw [← hL1]; simp [*]; done))
  obtain rfl : q = d.opts.length := by omega
  have hI1 : ¬ (d.opts.length : Int) < (d.opts.length : Int) := by omega
  rw [List.drop_length] at hL1
  simp only [opL] at hL1
  refine awN ?_
  simp only [(id F64), seval, cGrp, hx, hlt, h1, hno9, h2, hI1, cDisp]
  repeat refine ob ?_
  refine awF ?_
  refine awQ ?_
  simp only [(id F64), seval]
  refine awN ?_
  simp only [(id F64), seval, cGrp, hx, hlt, h1, hno9, h2, hI1]
  repeat refine ob ?_
  refine awX ?_
  (first | (simp only [(id F64), seval, cGrp, dChk, opE, hx, hlt, h1, hno9, h2, hI1, ← hL1]; done) | (simp only [(id F64), seval, cGrp]; first | (simp [dChk, opE, hx, hlt, h1, hno9, h2, hI1, ← hL1]; done) | (simp [dChk, opE, hx, hlt, h1, hno9, h2, hI1]; done) | (rw [← hL1]; simp [dChk, opE, hx, hlt, h1, hno9, h2, hI1]; done)))
 have hX : ACall Tryz.prog 155 [.agg (cGrp g), .agg [.lit (.int .i64 d.est), .lit (.int .i64 d.cl)]] (one (.bool (exB g d.est d.cl))) := rExists_A g (dLeg d)
 refine awN ?_
 simp only [(id F64), seval, cGrp, hx, cDisp, flat_pure cEst_pure, flat_pure cDebt_pure]
 repeat refine ob ?_
 refine ⟨_, hX, rfl, ?_⟩
 try unfold Later
 try simp only [(id F64), seval, cGrp, hx, cDisp, flat_pure cEst_pure, flat_pure cDebt_pure]
 repeat refine ob ?_
 refine awT ?_
 refine awN ?_
 simp only [(id F64), seval, cGrp, hx]
 repeat refine ob ?_
 refine awX ?_
 (first | (simp only [(id F64), seval, cGrp, dChk, opE, hx]; done) | (simp only [(id F64), seval, cGrp]; first | (simp [dChk, opE, hx]; done)))
def nzL : List GDisp → Bool
 | [] => true
 | d :: l => if (d.opts.length : Int) = 0 then false else nzL l
def rcN (l : List GDisp) : Int := if nzL l = true then cnL l 1 else 0
def F65 := And.intro zS (And.intro tf141 (And.intro tf142 (And.intro tf134 (And.intro tf135 (tf138)))))
set_option maxRecDepth 100000 in
set_option maxHeartbeats 4000000 in
theorem rCount_A (l : List GDisp) (hl : dispsOK l) : ACall Tryz.prog 115 [.one (.sh 3 l.length (flat cDisp l))] (one (.int .i64 (rcN l))) := by
 have hl1 := hl.1
 refine acall_of Tryz.func115 rfl (by decide) (N := 36) rfl (by simp) (R := [.tmp 2]) rfl fun en k0 => ?_
 refine awN ?_
 simp only [(id F65), seval]
 repeat refine ob ?_
 refine awp_cut (M := fun st => ∃ nx, nzL l = true ∧ st = ⟨mkT [(0, .val (.one (.sh 3 l.length (flat cDisp l)))), (2, one (.int .i64 0))], mkH [], nx, 0⟩) ?_ ?_
 ·skip
  refine awN ?_
  simp only [(id F65), seval]
  repeat refine ob ?_
  refine awp_keep [0, 2, 3] [] ?_
  try unfold Later
  try simp only [(id F65), seval]
  repeat' first|apply awS|apply awB
  refine awp_loopw (fun n st => ∃ i0 nx, i0 ≤ l.length ∧ n = l.length - i0 ∧ nzL (l.drop i0) = nzL l ∧ st = ⟨mkT [(0, .val (.one (.sh 3 l.length (flat cDisp l)))), (2, one (.int .i64 0)), (3, one (.int .i64 i0))], mkH [], nx, 0⟩) (l.length) ⟨0, _, by omega, by omega, by rfl, rfl⟩ ?_
  rintro n0 st ⟨i0, nx0, hk0, rfl, hL0, rfl⟩
  by_cases hlt0 : i0 < l.length
  ·skip
   have hI0 : (i0 : Int) < (l.length : Int) := by omega
   have hat0 := flat_at cDisp_len l i0 hlt0
   try rw [Nat.mul_one] at hat0
   rw [List.drop_eq_getElem_cons hlt0] at hL0
   generalize l[i0] = d at *
   simp only [nzL] at hL0
   refine awN ?_
   simp only [(id F65), seval, hI0, hat0]
   repeat refine ob ?_
   refine awT ?_
   refine awK ?_
   simp only [(id F65), seval]
   by_cases hz : (d.opts.length : Int) = 0
   ·skip
    refine awN ?_
    simp only [(id F65), seval, hI0, hat0, hz, cDisp]
    repeat refine ob ?_
    refine awT ?_
    refine awN ?_
    simp only [(id F65), seval, hI0, hat0, hz]
    repeat refine ob ?_
    refine awX ?_
    (first | (simp only [(id F65), seval, rcN, hI0, hat0, hz, ← hL0]; done) | (simp only [(id F65), seval]; first | (simp [rcN, hI0, hat0, hz, ← hL0]; done) | (simp [rcN, hI0, hat0, hz]; done) | (rw [← hL0]; simp [rcN, hI0, hat0, hz]; done)))
   skip
   refine awN ?_
   simp only [(id F65), seval, hI0, hat0, hz, cDisp]
   repeat refine ob ?_
   refine awF ?_
   refine awK ?_
   simp only [(id F65), seval]
   refine awN ?_
   simp only [(id F65), seval, hI0, hat0, hz]
   repeat refine ob ?_
   repeat refine ob ?_
   refine ⟨_, wk_keep [0, 2, 3] [], l.length - (i0 + 1), by omega, i0 + 1, ?a8_nx, by omega, rfl, ?i8_0, ?st8⟩
   case st8 => (simp only [(id F65), seval, hI0, hat0, hz]; first | rfl | (simp [hI0, hat0, hz, Nat.add_mul]; done))
   case i8_0 => (first | exact hL0 | (rw [← hL0]; simp only [reduceIte, hI0, hat0, hz]; done) | (rw [← hL0]; simp [hI0, hat0, hz]; done) | (simp [hI0, hat0, hz] at hL0; simpa using hL0) | (rw [← hL0]; simp [*]; done))
  skip
  obtain rfl : i0 = l.length := by omega
  have hI0 : ¬ (l.length : Int) < (l.length : Int) := by omega
  rw [List.drop_length] at hL0
  simp only [nzL] at hL0
  refine awN ?_
  simp only [(id F65), seval, hI0]
  repeat refine ob ?_
  refine awF ?_
  refine awQ ?_
  simp only [(id F65), seval]
  refine ⟨_, wk_keep [0, 2] [], ?c10_0, ?ci10_0, ?cs10⟩
  case cs10 => (simp only [(id F65), seval]; rfl)
  case ci10_0 => (first | assumption | omega | (rw [← hL0]; done) | (rw [hL0]; done) | exact hL0.symm | (simp [← hL0]; done))
 rintro st ⟨nxc0, hC0, rfl⟩
 refine awN ?_
 simp only [(id F65), seval, hC0]
 repeat refine ob ?_
 refine awN ?_
 simp only [(id F65), seval, hC0]
 repeat refine ob ?_
 refine awp_keep [0, 2, 4, 5] [] ?_
 try unfold Later
 try simp only [(id F65), seval, hC0]
 repeat' first|apply awS|apply awB
 refine awp_loopw (fun n st => ∃ i0 a nx, i0 ≤ l.length ∧ n = l.length - i0 ∧ cnL (l.drop i0) a = cnL l 1 ∧ 0 ≤ a ∧ a ≤ 4097 ∧ st = ⟨mkT [(0, .val (.one (.sh 3 l.length (flat cDisp l)))), (2, one (.int .i64 0)), (4, one (.int .i64 a)), (5, one (.int .i64 i0))], mkH [], nx, 0⟩) (l.length) ⟨0, 1, _, by omega, by omega, by rfl, (by first | omega | assumption | rfl | simp | (simp; omega)), (by first | omega | assumption | rfl | simp | (simp; omega)), rfl⟩ ?_
 rintro n1 st ⟨i0, a, nx1, hk1, rfl, hL1, hV1_1, hV1_2, rfl⟩
 by_cases hlt1 : i0 < l.length
 ·skip
  have hI1 : (i0 : Int) < (l.length : Int) := by omega
  have hat1 := flat_at cDisp_len l i0 hlt1
  try rw [Nat.mul_one] at hat1
  rw [List.drop_eq_getElem_cons hlt1] at hL1
  have hd1 := hl.2 _ (List.getElem_mem hlt1)
  have hm0 : 0 ≤ a * min (l[i0].opts.length : Int) 4097 := Int.mul_nonneg hV1_1 (by omega)
  have hm1 : a * min (l[i0].opts.length : Int) 4097 ≤ 4097 * 4097 := Int.mul_le_mul hV1_2 (by omega) (by omega) (by omega)
  generalize l[i0] = d at *
  simp only [cnL] at hL1
  refine awN ?_
  simp only [(id F65), seval, hC0, hI1, hat1]
  repeat refine ob ?_
  refine awT ?_
  refine awK ?_
  simp only [(id F65), seval]
  refine awN ?_
  simp only [(id F65), seval, hC0, hI1, hat1, cDisp]
  repeat refine ob ?_
  refine awN ?_
  simp only [(id F65), seval, hC0, hI1, hat1]
  repeat refine ob ?_
  repeat refine ob ?_
  refine ⟨_, wk_keep [0, 2, 4, 5] [], l.length - (i0 + 1), by omega, i0 + 1, (min (a * min (d.opts.length : Int) 4097) 4097), ?a16_nx, by omega, rfl, ?i16_0, ?i16_1, ?i16_2, ?st16⟩
  case st16 => (simp only [(id F65), seval, hC0, hI1, hat1]; first | rfl | (simp [hC0, hI1, hat1, Nat.add_mul]; done))
  case i16_0 => (first | exact hL1 | (rw [← hL1]; simp only [reduceIte, hC0, hI1, hat1]; done) | (rw [← hL1]; simp [hC0, hI1, hat1]; done) | (simp [hC0, hI1, hat1] at hL1; simpa using hL1) | (rw [← hL1]; simp [*]; done))
  case i16_1 => (first | omega | assumption | (simp; omega) | (simp_all; done))
  case i16_2 => (first | omega | assumption | (simp; omega) | (simp_all; done))
 skip
 obtain rfl : i0 = l.length := by omega
 have hI1 : ¬ (l.length : Int) < (l.length : Int) := by omega
 rw [List.drop_length] at hL1
 simp only [cnL] at hL1
 refine awN ?_
 simp only [(id F65), seval, hC0, hI1]
 repeat refine ob ?_
 refine awF ?_
 refine awQ ?_
 simp only [(id F65), seval]
 refine awN ?_
 simp only [(id F65), seval, hC0, hI1]
 repeat refine ob ?_
 refine awX ?_
 (first | (simp only [(id F65), seval, rcN, hC0, hI1, ← hL1]; done) | (simp only [(id F65), seval]; first | (simp [rcN, hC0, hI1, ← hL1]; done) | (simp [rcN, hC0, hI1]; done) | (rw [← hL1]; simp [rcN, hC0, hI1]; done)))
noncomputable def dkN (g : GGrp) (l : List GDisp) : List GDisp → Nat → Int
 | [], _ => 0
 | d :: t, i => if dChk g ((l.take i).map dLeg) d = 0 then dkN g l t (i + 1) else dChk g ((l.take i).map dLeg) d
noncomputable def rcS (gc : Int) (g : GGrp) (l : List GDisp) : Int := if gc = 0 then (if (8 : Int) < (l.length : Int) then 2 else if dkN g l l 0 = 0 then (if (4096 : Int) < rcN l then 2 else 0) else dkN g l l 0) else gc
def F66 := And.intro zS (And.intro tf142 (tf113))
set_option maxRecDepth 100000 in
set_option maxHeartbeats 4000000 in
theorem rCheck_A (g : GGrp) (l : List GDisp) (hg : grpOK2 g) (hl : dispsOK l) : ACall Tryz.prog 64 [.agg (cGrp g), .one (.sh 3 l.length (flat cDisp l))] (one (.int .i64 (rcS (cgSpec g) g l))) := by
 have hl1 := hl.1
 refine acall_of Tryz.func64 rfl (by decide) (N := 32) rfl (by simp) (R := [.tmp 4]) rfl fun en k0 => ?_
 refine awN ?_
 simp only [(id F66), seval, cGrp]
 repeat refine ob ?_
 have hG := rGroup_A g hg
 refine awN ?_
 simp only [(id F66), seval, cGrp, flat_pure cEst_pure, flat_pure cDebt_pure]
 repeat refine ob ?_
 refine ⟨_, hG, rfl, ?_⟩
 try unfold Later
 try simp only [(id F66), seval, cGrp, flat_pure cEst_pure, flat_pure cDebt_pure]
 repeat refine ob ?_
 by_cases hg0 : cgSpec g = 0
 ·skip
  refine awN ?_
  simp only [(id F66), seval, cGrp, hg0]
  repeat refine ob ?_
  refine awF ?_
  refine awK ?_
  simp only [(id F66), seval]
  by_cases h8 : (8 : Int) < (l.length : Int)
  ·skip
   refine awN ?_
   simp only [(id F66), seval, cGrp, hg0, h8]
   repeat refine ob ?_
   refine awT ?_
   refine awN ?_
   simp only [(id F66), seval, cGrp, hg0, h8]
   repeat refine ob ?_
   refine awX ?_
   (first | (simp only [(id F66), seval, cGrp, rcS, hg0, h8]; done) | (simp only [(id F66), seval, cGrp]; first | (simp [rcS, hg0, h8]; done)))
  skip
  refine awN ?_
  simp only [(id F66), seval, cGrp, hg0, h8]
  repeat refine ob ?_
  refine awF ?_
  refine awK ?_
  simp only [(id F66), seval]
  refine awN ?_
  simp only [(id F66), seval, cGrp, hg0, h8]
  repeat refine ob ?_
  refine awp_keep [1, 2, 4, 6] [2] ?_
  try unfold Later
  try simp only [(id F66), seval, cGrp, hg0, h8]
  repeat' first|apply awS|apply awB
  refine awp_loopw (fun n st => ∃ i0 nx, i0 ≤ l.length ∧ n = l.length - i0 ∧ dkN g l (l.drop i0) i0 = dkN g l l 0 ∧ st = ⟨mkT [(1, .val (.one (.sh 3 l.length (flat cDisp l)))), (2, .val (.one (.ptr 2 0 0))), (4, one (.int .i64 0)), (6, one (.int .i64 i0))], mkH [(2, ⟨0, 28, 2, 1, cGrp g⟩)], nx, 0⟩) (l.length) ⟨0, _, by omega, by omega, by rfl, rfl⟩ ?_
  rintro n0 st ⟨i0, nx0, hk0, rfl, hL0, rfl⟩
  by_cases hlt0 : i0 < l.length
  ·skip
   have hI0 : (i0 : Int) < (l.length : Int) := by omega
   rw [List.drop_eq_getElem_cons hlt0] at hL0
   have hW := rDisp_A g l i0 hlt0 hl
   generalize l[i0] = d at *
   simp only [dkN] at hL0
   refine awN ?_
   simp only [(id F66), seval, cGrp, hg0, h8, hI0]
   repeat refine ob ?_
   refine awT ?_
   refine awK ?_
   simp only [(id F66), seval]
   refine awN ?_
   simp only [(id F66), seval, cGrp, hg0, h8, hI0, flat_pure cEst_pure, flat_pure cDebt_pure, flat_pure cDisp_pure]
   repeat refine ob ?_
   refine ⟨_, hW, rfl, ?_⟩
   try unfold Later
   try simp only [(id F66), seval, cGrp, hg0, h8, hI0, flat_pure cEst_pure, flat_pure cDebt_pure, flat_pure cDisp_pure]
   repeat refine ob ?_
   by_cases ho : dChk g ((l.take i0).map dLeg) d = 0
   ·skip
    refine awN ?_
    simp only [(id F66), seval, cGrp, hg0, h8, hI0, ho]
    repeat refine ob ?_
    refine awF ?_
    refine awK ?_
    simp only [(id F66), seval]
    refine awN ?_
    simp only [(id F66), seval, cGrp, hg0, h8, hI0, ho]
    repeat refine ob ?_
    repeat refine ob ?_
    refine ⟨_, wk_keep [1, 2, 4, 6] [2], l.length - (i0 + 1), by omega, i0 + 1, ?a12_nx, by omega, rfl, ?i12_0, ?st12⟩
    case st12 => (simp only [(id F66), seval, cGrp, hg0, h8, hI0, ho]; first | rfl | (simp [hg0, h8, hI0, ho, Nat.add_mul]; done))
    case i12_0 => (first | exact hL0 | (rw [← hL0]; simp only [reduceIte, hg0, h8, hI0, ho]; done) | (rw [← hL0]; simp [hg0, h8, hI0, ho]; done) | (simp [hg0, h8, hI0, ho] at hL0; simpa using hL0) | (rw [← hL0]; simp [*]; done))
   skip
   refine awN ?_
   simp only [(id F66), seval, cGrp, hg0, h8, hI0, ho]
   repeat refine ob ?_
   refine awT ?_
   refine awN ?_
   simp only [(id F66), seval, cGrp, hg0, h8, hI0, ho]
   repeat refine ob ?_
   refine awX ?_
   (first | (simp only [(id F66), seval, cGrp, rcS, hg0, h8, hI0, ho, ← hL0]; done) | (simp only [(id F66), seval, cGrp]; first | (simp [rcS, hg0, h8, hI0, ho, ← hL0]; done) | (simp [rcS, hg0, h8, hI0, ho]; done) | (rw [← hL0]; simp [rcS, hg0, h8, hI0, ho]; done)))
  skip
  obtain rfl : i0 = l.length := by omega
  have hI0 : ¬ (l.length : Int) < (l.length : Int) := by omega
  rw [List.drop_length] at hL0
  simp only [dkN] at hL0
  refine awN ?_
  simp only [(id F66), seval, cGrp, hg0, h8, hI0]
  repeat refine ob ?_
  refine awF ?_
  refine awQ ?_
  simp only [(id F66), seval]
  by_cases hc : (4096 : Int) < rcN l
  ·skip
   refine awN ?_
   simp only [(id F66), seval, cGrp, hg0, h8, hI0, hc, flat_pure cDisp_pure]
   repeat refine ob ?_
   refine ⟨_, (rCount_A l hl), rfl, ?_⟩
   try unfold Later
   try simp only [(id F66), seval, cGrp, hg0, h8, hI0, hc, flat_pure cDisp_pure]
   repeat refine ob ?_
   refine awT ?_
   refine awN ?_
   simp only [(id F66), seval, cGrp, hg0, h8, hI0, hc]
   repeat refine ob ?_
   refine awX ?_
   (first | (simp only [(id F66), seval, cGrp, rcS, hg0, h8, hI0, hc, ← hL0]; done) | (simp only [(id F66), seval, cGrp]; first | (simp [rcS, hg0, h8, hI0, hc, ← hL0]; done) | (simp [rcS, hg0, h8, hI0, hc]; done) | (rw [← hL0]; simp [rcS, hg0, h8, hI0, hc]; done)))
  skip
  refine awN ?_
  simp only [(id F66), seval, cGrp, hg0, h8, hI0, hc, flat_pure cDisp_pure]
  repeat refine ob ?_
  refine ⟨_, (rCount_A l hl), rfl, ?_⟩
  try unfold Later
  try simp only [(id F66), seval, cGrp, hg0, h8, hI0, hc, flat_pure cDisp_pure]
  repeat refine ob ?_
  refine awF ?_
  refine awK ?_
  simp only [(id F66), seval]
  refine awN ?_
  simp only [(id F66), seval, cGrp, hg0, h8, hI0, hc]
  repeat refine ob ?_
  refine awX ?_
  (first | (simp only [(id F66), seval, cGrp, rcS, hg0, h8, hI0, hc, ← hL0]; done) | (simp only [(id F66), seval, cGrp]; first | (simp [rcS, hg0, h8, hI0, hc, ← hL0]; done) | (simp [rcS, hg0, h8, hI0, hc]; done) | (rw [← hL0]; simp [rcS, hg0, h8, hI0, hc]; done)))
 skip
 refine awN ?_
 simp only [(id F66), seval, cGrp, hg0]
 repeat refine ob ?_
 refine awT ?_
 refine awN ?_
 simp only [(id F66), seval, cGrp, hg0]
 repeat refine ob ?_
 refine awX ?_
 (first | (simp only [(id F66), seval, cGrp, rcS, hg0]; done) | (simp only [(id F66), seval, cGrp]; first | (simp [rcS, hg0]; done)))
theorem dkN_dkL (g : GGrp) (l : List GDisp) : ∀ (t : List GDisp) (i : Nat), l.drop i = t → dkN g l t i = dkL g ((l.take i).map dLeg) t
 | [], _, _ => rfl
 | d :: t, i, h => by
  have hi : i < l.length := by
   rcases Nat.lt_or_ge i l.length with h1 | h1
   ·exact h1
   rw [List.drop_eq_nil_of_le h1] at h; cases h
  rw [List.drop_eq_getElem_cons hi] at h
  obtain ⟨h1, h2⟩ := List.cons.inj h
  have h3 := dkN_dkL g l t (i + 1) h2
  rw [List.take_succ_eq_append_getElem hi, List.map_append, h1] at h3
  simp only [dkN, dkL, h3, List.map_cons, List.map_nil]
theorem opE_nz {l : List GOpt} (h : opE l = 0) : ¬ (l.length : Int) = 0 := by
 intro h0
 unfold opE at h
 rw [if_pos h0] at h
 cases h
theorem dkL_nz (g : GGrp) : ∀ (l : List GDisp) (T : List Leg), dkL g T l = 0 → nzL l = true
 | [], _, _ => rfl
 | d :: l, T, h => by
  simp only [dkL] at h
  split at h
  ·rename_i h1
   have h2 := dkL_nz g l _ h
   have h3 : ¬ (d.opts.length : Int) = 0 := by
    unfold dChk at h1
    split at h1
    ·split at h1
     ·cases h1
     exact opE_nz h1
    cases h1
   simp only [nzL, h3, if_false, h2]
  rename_i h1; exact absurd h h1
theorem dc_rc (gc : Int) (g : GGrp) (l : List GDisp) : dcS gc g l = rcS gc g l := by
 have h1 := dkN_dkL g l l 0 rfl
 simp only [List.take_zero, List.map_nil] at h1
 unfold dcS rcS
 rw [h1]
 split
 ·split
  ·rfl
  split
  ·rename_i h2
   unfold rcN
   rw [if_pos (dkL_nz g l [] h2)]
  rfl
 rfl
end Go.Proofs.YtokmkopihhnggaaGreatDoor
