/- Classes: Sum on both sides; numbers compared; walked by the abstract machine. -/
import Derived.Test.YtogeijhepjcbgaaGreatDoorCs2M
import Derived.Test.YtogeijhepjcbgaaGreatDoorPl3M
set_option linter.unusedVariables false
set_option linter.unusedSimpArgs false
set_option linter.defProp false
set_option linter.unnecessarySimpa false
/- Classes: Sum on both sides; numbers compared; walked by the abstract machine. -/
namespace Go.Proofs.YtogeijhepjcbgaaGreatDoor
open Go Go.RowKit
noncomputable def smR (x : Int × Rat) : AV := .tup [.agg (cRat (enc x.2)), .one (.lit (.int .i64 x.1))]
def F_cSm := And.intro zS (And.intro tf48 (And.intro tf49 (And.intro tf84 (And.intro tf32 (And.intro tf50 (And.intro tf78 (And.intro tf86 (And.intro tf99 (And.intro tf89 (And.intro tf33 (And.intro tf52 (And.intro tf36 (And.intro tf53 (And.intro tf90 (And.intro tf55 (And.intro tf38 (And.intro tf14 (And.intro tf102 (tf88)))))))))))))))))))
set_option maxRecDepth 100000 in
set_option maxHeartbeats 4000000 in
theorem cSum_A (g : GGrp) (c : GCls) (hg : grpOK g) (hng : g.ests.length ≤ 1000000) (hc : c.claims.length ≤ 1000) (hsB : ∀ e ∈ g.ests, e.claims.length ≤ 1000000 ∧ ∀ c ∈ e.claims, sB 1 c.amount) : ACall Tryz.prog 36 [.agg (cGrp g), .agg (cCls c)] (smR (smS (gcSpec g) g c)) := by
 refine acall_of Tryz.func36 rfl (by decide) (N := 61) rfl (by simp) (R := [.cell 4 44, .tmp 5]) rfl fun en k0 => ?_
 refine awR [] [none, none, none, none] ?_
 simp only [(id F_cSm), seval, cGrp, cCls]
 repeat refine ob ?_
 have hG := gCheck_A g hg
 refine awR [] [none, none, none] ?_
 simp only [(id F_cSm), seval, cGrp, flat_pure cEst_pure, flat_pure cDebt_pure]
 repeat refine ob ?_
 refine ⟨_, hG, (by first | rfl | simp [allA, pure1, pureCs, pureC, A1.cells, flat_pure cI_pure]), ?_⟩
 try unfold Later
 try simp only [(id F_cSm), seval, cGrp, flat_pure cEst_pure, flat_pure cDebt_pure]
 repeat refine ob ?_
 by_cases hg0 : gcSpec g = 0
 ·
  refine awR [] [none, none] ?_
  simp only [(id F_cSm), seval, cGrp, hg0]
  repeat refine ob ?_
  refine awF ?_
  refine awK ?_
  simp only [(id F_cSm), seval]
  by_cases h1 : c.est < 0
  ·
   refine awR [] [none, none, none, none, some (20, false), some (20, false), some (20, false), some (20, false), some (20, false), some (20, false), none] ?_
   simp only [(id F_cSm), seval, cGrp, hg0, h1, cCls]
   repeat refine ob ?_
   refine awT ?_
   refine awR [] [none, none, none] ?_
   simp only [(id F_cSm), seval, cGrp, hg0, h1]
   repeat refine ob ?_
   refine awX ?_
   simp only [(id F_cSm), seval]
   have hz : smS (gcSpec g) g c = (1, 0) := by unfold smS; rw [if_pos hg0]; simp [h1]
   rw [hg0] at hz
   rw [hz, smR, ← gZ_enc]
   try rfl
  by_cases h2 : (g.ests.length : Int) ≤ c.est
  ·
   refine awR [] [none, none, none, none, some (20, false), some (20, false), some (20, false), some (20, false), some (20, false), some (20, false), none] ?_
   simp only [(id F_cSm), seval, cGrp, hg0, h1, h2, cCls]
   repeat refine ob ?_
   refine awT ?_
   refine awR [] [none, none, none] ?_
   simp only [(id F_cSm), seval, cGrp, hg0, h1, h2]
   repeat refine ob ?_
   refine awX ?_
   simp only [(id F_cSm), seval]
   have hz : smS (gcSpec g) g c = (1, 0) := by unfold smS; rw [if_pos hg0]; simp [h1, h2]
   rw [hg0] at hz
   rw [hz, smR, ← gZ_enc]
   try rfl
  refine awR [] [none, none, none, none, some (20, false), some (20, false), some (20, false), some (20, false), some (20, false), some (20, false), none] ?_
  simp only [(id F_cSm), seval, cGrp, hg0, h1, h2, cCls]
  repeat refine ob ?_
  refine awF ?_
  refine awK ?_
  simp only [(id F_cSm), seval]
  have hat := flat_get cEst_len g.ests c.est ztEst (by omega) (by omega)
  obtain ⟨e, hge⟩ : ∃ e, g.ests.getD c.est.toNat ztEst = e := ⟨_, rfl⟩
  rw [hge] at hat
  have hem : e ∈ g.ests := by rw [← hge, List.getD_eq_getElem?_getD, List.getElem?_eq_getElem (show c.est.toNat < g.ests.length by omega)]; exact List.getElem_mem _
  have hes := hsB e hem
  have hsm : smS (gcSpec g) g c = smL e.claims c.claims 0 := by unfold smS; rw [if_pos hg0, if_neg h1, if_neg h2, hge]
  rw [hg0] at hsm
  refine awR [] [none, none, none, none, none, none, none, none] ?_
  simp only [(id F_cSm), seval, cGrp, hg0, h1, h2, cCls, hat, cEst]
  repeat refine ob ?_
  refine awR [] [none] ?_
  simp only [(id F_cSm), seval, cGrp, hg0, h1, h2]
  repeat refine ob ?_
  refine awR [] [none, none, none, none] ?_
  simp only [(id F_cSm), seval, cGrp, hg0, h1, h2, cCls]
  repeat refine ob ?_
  refine awp_wk (wk_cells 8 (cRat (enc 0)) (by rfl) (by show (3 : Nat) ≠ 0; decide) (by rfl) (fun κ vs h => by rw [← gZ_enc]; exact h)) ?_
  have hq0 : qB (2 * 0 + 1) (0 : Rat) := ⟨by decide, by decide⟩
  refine awp_keep [3, 4, 7, 8, 37, 38, 39] [3, 4, 8] ?_
  try unfold Later
  try simp only [(id F_cSm), seval, cGrp, hg0, h1, h2]
  repeat' first|apply awS|apply awB
  refine awp_loopw (fun n st => ∃ i0 q nx, i0 ≤ c.claims.length ∧ n = c.claims.length - i0 ∧ smL e.claims (c.claims.drop i0) q = smL e.claims c.claims 0 ∧ qB (2 * i0 + 1) q ∧ st = ⟨mkT [(3, .val (.one (.ptr 3 1 0))), (4, .val (.one (.ptr 4 2 0))), (7, .val (.one (.sh 5 e.claims.length (flat cClaim e.claims)))), (8, .val (.one (.ptr 8 3 0))), (37, .val (.one (.sh 1 c.claims.length (flat cI c.claims)))), (38, one (.int .i64 c.claims.length)), (39, one (.int .i64 i0))], mkH [(3, ⟨1, 74, 4, 1, cCls c⟩), (4, ⟨2, 44, 3, 1, [.lit (.bool false), .lit (.string bEmpty), .lit (.string bEmpty)]⟩), (8, ⟨3, 44, 3, 1, cRat (enc q)⟩)], nx, 0⟩) (c.claims.length) ⟨0, 0, _, by omega, by omega, by rfl, (by first | omega | assumption | rfl | simp | (simp; omega)), rfl⟩ ?_
  rintro n0 st ⟨i0, q, nx0, hk0, rfl, hL0, hV0_1, rfl⟩
  by_cases hlt0 : i0 < c.claims.length
  ·
   have hI0 : (i0 : Int) < (c.claims.length : Int) := by omega
   have hat0 := flat_at cI_len c.claims i0 hlt0
   try rw [Nat.mul_one] at hat0
   rw [List.drop_eq_getElem_cons hlt0] at hL0
   generalize c.claims[i0] = kk at *
   simp only [smL] at hL0
   refine awR [] [none] ?_
   simp only [(id F_cSm), seval, cGrp, hg0, h1, h2, hI0, hat0, cCls]
   repeat refine ob ?_
   refine awT ?_
   refine awK ?_
   simp only [(id F_cSm), seval]
   refine awR [] [none, none, none] ?_
   simp only [(id F_cSm), seval, cGrp, hg0, h1, h2, hI0, hat0, cCls, cI]
   repeat refine ob ?_
   by_cases h3 : kk < 0
   ·
    refine awR [] [none, none, none, some (45, false), some (45, false), some (45, false), some (45, false), none] ?_
    simp only [(id F_cSm), seval, cGrp, hg0, h1, h2, hI0, hat0, h3]
    repeat refine ob ?_
    refine awT ?_
    refine awR [] [none, none, none] ?_
    simp only [(id F_cSm), seval, cGrp, hg0, h1, h2, hI0, hat0, h3]
    repeat refine ob ?_
    refine awX ?_
    simp only [(id F_cSm), seval]
    have hz : smS 0 g c = (1, 0) := by rw [hsm, ← hL0]; simp [h3]
    rw [hz, smR, ← gZ_enc]
    try rfl
   by_cases h4 : (e.claims.length : Int) ≤ kk
   ·
    refine awR [] [none, none, none, some (45, false), some (45, false), some (45, false), some (45, false), none] ?_
    simp only [(id F_cSm), seval, cGrp, hg0, h1, h2, hI0, hat0, h3, h4]
    repeat refine ob ?_
    refine awT ?_
    refine awR [] [none, none, none] ?_
    simp only [(id F_cSm), seval, cGrp, hg0, h1, h2, hI0, hat0, h3, h4]
    repeat refine ob ?_
    refine awX ?_
    simp only [(id F_cSm), seval]
    have hz : smS 0 g c = (1, 0) := by rw [hsm, ← hL0]; simp [h3, h4]
    rw [hz, smR, ← gZ_enc]
    try rfl
   refine awR [] [none, none, none, some (45, false), some (45, false), some (45, false), some (45, false), none] ?_
   simp only [(id F_cSm), seval, cGrp, hg0, h1, h2, hI0, hat0, h3, h4]
   repeat refine ob ?_
   refine awF ?_
   refine awK ?_
   simp only [(id F_cSm), seval]
   have hatc := flat_get cClaim_len e.claims kk default (by omega) (by omega)
   obtain ⟨y, hgy⟩ : ∃ y, e.claims.getD kk.toNat default = y := ⟨_, rfl⟩
   rw [hgy] at hatc hL0
   have hym : y ∈ e.claims := by rw [← hgy, List.getD_eq_getElem?_getD, List.getElem?_eq_getElem (show kk.toNat < e.claims.length by omega)]; exact List.getElem_mem _
   have hA := aAdd (enc q) y.amount (2 * i0 + 1) 1 (sB_enc hV0_1) (hes.2 y hym) (by omega) (by decide) (by omega) (by decide)
   rw [qOf_enc] at hA
   have hqy := (hV0_1.add ((hes.2 y hym).qB (by decide)))
   refine awD (scq [1, 3, 5, 7, 9, 11, 12, 14] .nil) [none, none, none, none, none, none, none, none] ?_
   simp only [(id F_cSm), seval, cGrp, hg0, h1, h2, hI0, hat0, h3, h4, hatc, cClaim, cRat]
   repeat refine ob ?_
   refine ⟨_, hA, (by first | rfl | simp [allA, pure1, pureCs, pureC, A1.cells, flat_pure cI_pure]), ?_⟩
   try unfold Later
   try simp only [(id F_cSm), seval, cGrp, hg0, h1, h2, hI0, hat0, h3, h4, hatc, cClaim, cRat]
   repeat refine ob ?_
   refine awR [] [none, none] ?_
   simp only [(id F_cSm), seval, cGrp, hg0, h1, h2, hI0, hat0, h3, h4, cRat]
   repeat refine ob ?_
   repeat refine ob ?_
   refine ⟨_, wk_keep [3, 4, 7, 8, 37, 38, 39] [3, 4, 8], c.claims.length - (i0 + 1), by omega, i0 + 1, (q + qOf y.amount), ?a24_nx, by omega, rfl, ?i24_0, ?i24_1, ?st24⟩
   case st24 => (simp only [(id F_cSm), seval, cGrp, hg0, h1, h2, hI0, hat0, h3, h4]; first | rfl | (simp [hg0, h1, h2, hI0, hat0, h3, h4, Nat.add_mul]; done))
   case i24_0 => (first | exact hL0 | (rw [← hL0]; simp only [reduceIte, hg0, h1, h2, hI0, hat0, h3, h4]; done) | (rw [← hL0]; simp [hg0, h1, h2, hI0, hat0, h3, h4]; done) | (simp [hg0, h1, h2, hI0, hat0, h3, h4] at hL0; simpa using hL0) | (rw [← hL0]; simp [*]; done))
   case i24_1 => (first | omega | assumption | (simp; omega) | (simp_all; done))
  obtain rfl : i0 = c.claims.length := by omega
  have hI0 : ¬ (c.claims.length : Int) < (c.claims.length : Int) := by omega
  rw [List.drop_length] at hL0
  simp only [smL] at hL0
  refine awR [] [none] ?_
  simp only [(id F_cSm), seval, cGrp, hg0, h1, h2, hI0, cCls]
  repeat refine ob ?_
  refine awF ?_
  refine awQ ?_
  simp only [(id F_cSm), seval]
  refine awR [] [none, none, none] ?_
  simp only [(id F_cSm), seval, cGrp, hg0, h1, h2, hI0, cRat]
  repeat refine ob ?_
  refine awX ?_
  simp only [(id F_cSm), seval]
  rw [hsm, ← hL0]
  simp [smR, cRat]
 refine awR [] [none, none] ?_
 simp only [(id F_cSm), seval, cGrp, hg0]
 repeat refine ob ?_
 refine awT ?_
 refine awR [] [none, none, none, none] ?_
 simp only [(id F_cSm), seval, cGrp, hg0]
 repeat refine ob ?_
 refine awX ?_
 simp only [(id F_cSm), seval]
 have hz : smS (gcSpec g) g c = (gcSpec g, 0) := by unfold smS; rw [if_neg hg0]
 rw [hz, smR, ← gZ_enc]
 try rfl
end Go.Proofs.YtogeijhepjcbgaaGreatDoor
