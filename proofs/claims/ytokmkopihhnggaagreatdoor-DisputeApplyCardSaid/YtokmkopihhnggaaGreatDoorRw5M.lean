/- The reference: debt; walked by the abstract machine. -/
import Derived.Test.YtokmkopihhnggaaGreatDoorRw3M
set_option linter.unusedVariables false
set_option linter.unusedSimpArgs false
set_option linter.defProp false
namespace Go.Proofs.YtokmkopihhnggaaGreatDoor
open Go Go.RowKit
def lgBad (o : Option (Nat × Nat)) (i j : Nat) : Bool := match o with
 | none => false
 | some x => decide (x.1 ≠ i ∨ x.2 ≠ j)
noncomputable def dbL (g : GGrp) (i : Nat) (h0 : Int) : List Leg → Nat → Int
 | [], _ => 0
 | l :: ls, j => if inEsts g.ests l = false then 1 else if lgBad (lgD l g.debts 0) i j = true then 20 else if (claimAt g.ests l).holder ≠ h0 then 19 else dbL g i h0 ls (j + 1)
noncomputable def dbS (g : GGrp) (i : Nat) (d : GDebt) : Int :=
 if 8 < d.legs.length then 2 else if qSgn (qOf d.whole) < 0 then 7 else dbL g i (claimAt g.ests (d.legs.getD 0 (0, 0))).holder d.legs 0
def F57 := And.intro zS (And.intro tf90 (And.intro tf109 (And.intro tf91 (And.intro tf24 (And.intro tf92 (And.intro tf110 (And.intro tf93 (And.intro tf25 (And.intro tf131 (And.intro tf94 (And.intro tf29 (And.intro tf111 (And.intro tf95 (And.intro tf96 (And.intro tf97 (And.intro tf32 (And.intro tf98 (And.intro tf112 (And.intro tf99 (And.intro tf113 (And.intro tf101 (And.intro tf18 (tf12)))))))))))))))))))))))
set_option maxHeartbeats 8000000 in
theorem debt_A (g : GGrp) (i : Nat) (hi : i < g.debts.length) (hn : g.debts.length ≤ 1000000000000) (hll : ∀ d ∈ g.debts, d.legs.length ≤ 1000000000000) (h1 : g.debts[i].whole.num.size ≤ 500000000000) (h2 : g.debts[i].whole.den.size ≤ 500000000000) :
  ACall Tryz.prog 55 [.agg (cGrp g), .one (.lit (.int .i64 i))] (one (.int .i64 (dbS g i g.debts[i]))) := by
 have hat0 := flat_at cDebt_len g.debts i hi
 have hin0' : (i : Int) < (g.debts.length : Int) := by omega
 have hS := bSign g.debts[i].whole h1 h2
 generalize g.debts[i] = d at *
 unfold dbS
 refine acall_of Tryz.func55 rfl (by decide) (N := 118) rfl (by simp) (R := [.tmp 4]) rfl fun en k0 => ?_
 refine awN ?_
 simp only [(id F57), seval, cGrp]
 refine awN ?_
 simp only [(id F57), seval, hat0, cGrp, cDebt]
 repeat refine ob ?_
 by_cases hlen : 8 < d.legs.length
 ·
  have hI : (8 : Int) < (d.legs.length : Int) := by omega
  refine awN ?_
  simp only [(id F57), seval, hI]
  refine awT ?_
  refine awN ?_
  simp only [(id F57), seval]
  refine awX ?_
  simp only [(id F57), seval, hlen]
 have hI8 : ¬ (8 : Int) < (d.legs.length : Int) := by omega
 by_cases hq : qSgn (qOf d.whole) < 0
 ·
  repeat' first|apply awS|apply awB
  refine awN ?_
  simp only [(id F57), seval, hI8]
  refine awF ?_
  refine awK ?_
  simp only [(id F57), seval]
  refine awN ?_
  simp only [(id F57), seval, hat0, cGrp, cDebt]
  repeat refine ob ?_
  refine ⟨_, hS, rfl, ?_⟩
  simp only [Later, (id F57), seval, hq]
  refine awT ?_
  refine awN ?_
  simp only [(id F57), seval]
  refine awX ?_
  simp only [(id F57), seval, hlen, hq]
 refine awN ?_
 simp only [(id F57), seval, hI8]
 refine awF ?_
 refine awK ?_
 simp only [(id F57), seval]
 refine awN ?_
 simp only [(id F57), seval, hat0, cGrp, cDebt]
 repeat refine ob ?_
 refine ⟨_, hS, rfl, ?_⟩
 simp only [Later, (id F57), seval, hq]
 refine awF ?_
 refine awK ?_
 simp only [(id F57), seval]
 refine awN ?_
 simp only [(id F57), seval]
 simp only [hlen, hq, if_false]
 refine awp_keep [1, 2, 5, 6] [2] ?_
 simp only [Later, (id F57), seval]
 generalize hh0 : (claimAt g.ests (d.legs.getD 0 (0, 0))).holder = hd0
 repeat' first|apply awS|apply awB
 refine awp_loopw (fun n st => ∃ k nx, k ≤ d.legs.length ∧ n = d.legs.length - k ∧ dbL g i hd0 (d.legs.drop k) k = dbL g i hd0 d.legs 0 ∧ (0 < k → inEsts g.ests (d.legs.getD 0 (0, 0)) = true) ∧ st = ⟨mkT [(1, one (.int .i64 i)), (2, .val (.one (.ptr 2 0 0))), (5, .val (.one (.sh 2 d.legs.length (flat cLeg d.legs)))), (6, one (.int .i64 k))], mkH [(2, ⟨0, 28, 2, 1, cGrp g⟩)], nx, 0⟩) d.legs.length ⟨0, _, by omega, by omega, rfl, by omega, rfl⟩ ?_
 rintro n st ⟨k, nx, hk, rfl, hL, h0, rfl⟩
 by_cases hlt : k < d.legs.length
 ·
  have hI : (k : Int) < (d.legs.length : Int) := by omega
  have hI0 : (0 : Int) < (d.legs.length : Int) := by omega
  have hat := flat_at cLeg_len d.legs k hlt
  rw [List.drop_eq_getElem_cons hlt] at hL
  have ht0 : List.take 2 (flat cLeg d.legs) = cLeg (d.legs.getD 0 (0, 0)) := by
   have h5 : 0 < d.legs.length := by omega
   have := flat_at cLeg_len d.legs 0 h5
   simp only [Nat.zero_mul, List.drop_zero] at this
   rw [this, List.take_left' (cLeg_len _)]
   simp [List.getD, h5]
  have hlen0 : 2 ≤ (flat cLeg d.legs).length := by rw [flat_length cLeg_len]; omega
  have hk0 : k = 0 → d.legs[k] = d.legs.getD 0 (0, 0) := fun h => by subst h; simp [List.getD, hlt]
  generalize d.legs[k] = l at *
  simp only [dbL] at hL
  by_cases hin : inEsts g.ests l = true
  ·
   have hin' := hin
   simp only [inEsts, Bool.and_eq_true, decide_eq_true_eq] at hin'
   obtain ⟨⟨⟨e1, e2⟩, e3⟩, e4⟩ := hin'
   have a1 := flat_get cEst_len g.ests l.1 ztEst e1 e2
   have hH1 := claim_A g l hin
   have hin0 : inEsts g.ests (d.legs.getD 0 (0, 0)) = true := by
    rcases Nat.eq_zero_or_pos k with h | h
    ·
     rw [← hk0 h]; exact hin
    exact h0 h
   have hH2 := claim_A g (d.legs.getD 0 (0, 0)) hin0
   rw [← hh0] at *
   generalize claimAt g.ests (d.legs.getD 0 (0, 0)) = cl0 at *
   generalize hcl1 : claimAt g.ests l = cl1 at *
   generalize d.legs.getD 0 (0, 0) = l0 at *
   have n1 : ¬ l.1 < 0 := by omega
   have n2 : ¬ (g.ests.length : Int) ≤ l.1 := by omega
   have n3 : ¬ l.2 < 0 := by omega
   have n4 : ¬ ((g.ests.getD l.1.toNat ztEst).claims.length : Int) ≤ l.2 := by omega
   have hLg := leg_A g l hn hll
   cases hlg : lgD l g.debts 0
   ·
    rw [hlg] at hLg
    simp only [lgR] at hLg
    by_cases hne : cl1.holder = cl0.holder
    ·
     repeat' first|apply awS|apply awB
     refine awN ?_
     simp only [(id F57), seval, hI]
     refine awT ?_
     refine awK ?_
     simp only [(id F57), seval]
     refine awD (scT 0 44 .nil) [none, none, none, none, none, none, none, some (39, false), some (39, false), some (39, false), some (39, false), some (39, false), some (39, false), some (39, false), some (39, false), some (39, false), none, none, some (50, false), some (50, false), some (50, false), some (50, false), some (50, false), some (50, false), none, none, some (58, false), some (58, false), some (58, false), some (58, false), some (58, false), some (58, false), some (58, false), some (58, false), some (58, false), some (58, false), some (58, false), some (58, false), some (58, false), some (58, false), some (58, false), some (58, false), some (58, false), none] ?_
     simp only [(id F57), seval, hat, cLeg, n1, n2, n3, n4, a1, cEst, cGrp]
     repeat refine ob ?_
     refine awF ?_
     refine awK ?_
     simp only [(id F57), seval]
     refine awD (scT 0 11 (scq [22] (scT 12 7 .nil))) [none, none, none, none, none, none, none, none, none, none, none, none, none, none, none, none, none, none, none] ?_
     simp only [(id F57), seval, hat, cLeg, cGrp, flat_pure cEst_pure, flat_pure cDebt_pure]
     repeat refine ob ?_
     refine ⟨_, hLg, rfl, ?_⟩
     simp only [Later, (id F57), seval]
     refine awR [] [none, none, some (94, true), some (94, true), some (94, true), some (94, true), some (98, false), some (98, false), some (98, false), some (94, true), none] ?_
     simp only [(id F57), seval]
     refine awF ?_
     refine awK ?_
     simp only [(id F57), seval]
     refine awD (scT 0 5 (scT 7 4 (scq [10, 13, 22, 25, 27] .nil))) [none, none, none, none, none, none, none, none, none, none, none, none, none, none] ?_
     simp only [(id F57), seval, hat, ht0, cLeg, cGrp, flat_pure cEst_pure, flat_pure cDebt_pure]
     repeat refine ob ?_
     refine ⟨_, hH1, rfl, ?_⟩
     simp only [Later, (id F57), seval, cLeg, flat_pure cEst_pure, flat_pure cDebt_pure, cClaim]
     repeat refine ob ?_
     refine ⟨_, hH2, rfl, ?_⟩
     simp only [Later, (id F57), seval, hne, cClaim]
     refine awF ?_
     refine awK ?_
     simp only [(id F57), seval]
     refine awN ?_
     simp only [(id F57), seval]
     repeat refine ob ?_
     refine ⟨_, wk_keep [1, 2, 5, 6] [2], d.legs.length - (k + 1), by omega, k + 1, nx, by omega, rfl, ?_, fun _ => hin0, ?_⟩
     ·
      rw [← hL]; simp [hin, hcl1, hlg, lgBad, hne]
     simp only [(id F57), seval]
     try rfl
    repeat' first|apply awS|apply awB
    refine awN ?_
    simp only [(id F57), seval, hI]
    refine awT ?_
    refine awK ?_
    simp only [(id F57), seval]
    refine awD (scT 0 44 .nil) [none, none, none, none, none, none, none, some (39, false), some (39, false), some (39, false), some (39, false), some (39, false), some (39, false), some (39, false), some (39, false), some (39, false), none, none, some (50, false), some (50, false), some (50, false), some (50, false), some (50, false), some (50, false), none, none, some (58, false), some (58, false), some (58, false), some (58, false), some (58, false), some (58, false), some (58, false), some (58, false), some (58, false), some (58, false), some (58, false), some (58, false), some (58, false), some (58, false), some (58, false), some (58, false), some (58, false), none] ?_
    simp only [(id F57), seval, hat, cLeg, n1, n2, n3, n4, a1, cEst, cGrp]
    repeat refine ob ?_
    refine awF ?_
    refine awK ?_
    simp only [(id F57), seval]
    refine awD (scT 0 11 (scq [22] (scT 12 7 .nil))) [none, none, none, none, none, none, none, none, none, none, none, none, none, none, none, none, none, none, none] ?_
    simp only [(id F57), seval, hat, cLeg, cGrp, flat_pure cEst_pure, flat_pure cDebt_pure]
    repeat refine ob ?_
    refine ⟨_, hLg, rfl, ?_⟩
    simp only [Later, (id F57), seval]
    refine awR [] [none, none, some (94, true), some (94, true), some (94, true), some (94, true), some (98, false), some (98, false), some (98, false), some (94, true), none] ?_
    simp only [(id F57), seval]
    refine awF ?_
    refine awK ?_
    simp only [(id F57), seval]
    refine awD (scT 0 5 (scT 7 4 (scq [10, 13, 22, 25, 27] .nil))) [none, none, none, none, none, none, none, none, none, none, none, none, none, none] ?_
    simp only [(id F57), seval, hat, ht0, cLeg, cGrp, flat_pure cEst_pure, flat_pure cDebt_pure]
    repeat refine ob ?_
    refine ⟨_, hH1, rfl, ?_⟩
    simp only [Later, (id F57), seval, cLeg, flat_pure cEst_pure, flat_pure cDebt_pure, cClaim]
    repeat refine ob ?_
    refine ⟨_, hH2, rfl, ?_⟩
    simp only [Later, (id F57), seval, hne, cClaim]
    refine awT ?_
    refine awN ?_
    simp only [(id F57), seval]
    have hR : dbL g i cl0.holder d.legs 0 = 19 := by rw [← hL]; simp [hin, hcl1, hlg, lgBad, hne]
    refine awX ?_
    simp only [(id F57), seval, hR]
   rename_i x
   obtain ⟨x1, x2⟩ := x
   rw [hlg] at hLg
   simp only [lgR] at hLg
   by_cases q1 : x1 = i
   ·
    have q1' : (x1 : Int) = (i : Int) := by rw [q1]
    by_cases q2 : x2 = k
    ·
     have q2' : (x2 : Int) = (k : Int) := by rw [q2]
     by_cases hne : cl1.holder = cl0.holder
     ·
      repeat' first|apply awS|apply awB
      refine awN ?_
      simp only [(id F57), seval, hI]
      refine awT ?_
      refine awK ?_
      simp only [(id F57), seval]
      refine awD (scT 0 44 .nil) [none, none, none, none, none, none, none, some (39, false), some (39, false), some (39, false), some (39, false), some (39, false), some (39, false), some (39, false), some (39, false), some (39, false), none, none, some (50, false), some (50, false), some (50, false), some (50, false), some (50, false), some (50, false), none, none, some (58, false), some (58, false), some (58, false), some (58, false), some (58, false), some (58, false), some (58, false), some (58, false), some (58, false), some (58, false), some (58, false), some (58, false), some (58, false), some (58, false), some (58, false), some (58, false), some (58, false), none] ?_
      simp only [(id F57), seval, hat, cLeg, n1, n2, n3, n4, a1, cEst, cGrp]
      repeat refine ob ?_
      refine awF ?_
      refine awK ?_
      simp only [(id F57), seval]
      refine awD (scT 0 11 (scq [22] (scT 12 7 .nil))) [none, none, none, none, none, none, none, none, none, none, none, none, none, none, none, none, none, none, none] ?_
      simp only [(id F57), seval, hat, cLeg, cGrp, flat_pure cEst_pure, flat_pure cDebt_pure]
      repeat refine ob ?_
      refine ⟨_, hLg, rfl, ?_⟩
      simp only [Later, (id F57), seval]
      refine awR [] [none, none, some (94, true), some (94, true), some (94, true), some (94, true), some (98, false), some (98, false), some (98, false), some (94, true), none] ?_
      simp only [(id F57), seval, q1', q2']
      refine awF ?_
      refine awK ?_
      simp only [(id F57), seval]
      refine awD (scT 0 5 (scT 7 4 (scq [10, 13, 22, 25, 27] .nil))) [none, none, none, none, none, none, none, none, none, none, none, none, none, none] ?_
      simp only [(id F57), seval, hat, ht0, cLeg, cGrp, flat_pure cEst_pure, flat_pure cDebt_pure]
      repeat refine ob ?_
      refine ⟨_, hH1, rfl, ?_⟩
      simp only [Later, (id F57), seval, cLeg, flat_pure cEst_pure, flat_pure cDebt_pure, cClaim]
      repeat refine ob ?_
      refine ⟨_, hH2, rfl, ?_⟩
      simp only [Later, (id F57), seval, hne, cClaim]
      refine awF ?_
      refine awK ?_
      simp only [(id F57), seval]
      refine awN ?_
      simp only [(id F57), seval]
      repeat refine ob ?_
      refine ⟨_, wk_keep [1, 2, 5, 6] [2], d.legs.length - (k + 1), by omega, k + 1, nx, by omega, rfl, ?_, fun _ => hin0, ?_⟩
      ·
       rw [← hL]; simp [hin, hcl1, hlg, lgBad, q1, q2, hne]
      simp only [(id F57), seval]
      try rfl
     repeat' first|apply awS|apply awB
     refine awN ?_
     simp only [(id F57), seval, hI]
     refine awT ?_
     refine awK ?_
     simp only [(id F57), seval]
     refine awD (scT 0 44 .nil) [none, none, none, none, none, none, none, some (39, false), some (39, false), some (39, false), some (39, false), some (39, false), some (39, false), some (39, false), some (39, false), some (39, false), none, none, some (50, false), some (50, false), some (50, false), some (50, false), some (50, false), some (50, false), none, none, some (58, false), some (58, false), some (58, false), some (58, false), some (58, false), some (58, false), some (58, false), some (58, false), some (58, false), some (58, false), some (58, false), some (58, false), some (58, false), some (58, false), some (58, false), some (58, false), some (58, false), none] ?_
     simp only [(id F57), seval, hat, cLeg, n1, n2, n3, n4, a1, cEst, cGrp]
     repeat refine ob ?_
     refine awF ?_
     refine awK ?_
     simp only [(id F57), seval]
     refine awD (scT 0 11 (scq [22] (scT 12 7 .nil))) [none, none, none, none, none, none, none, none, none, none, none, none, none, none, none, none, none, none, none] ?_
     simp only [(id F57), seval, hat, cLeg, cGrp, flat_pure cEst_pure, flat_pure cDebt_pure]
     repeat refine ob ?_
     refine ⟨_, hLg, rfl, ?_⟩
     simp only [Later, (id F57), seval]
     refine awR [] [none, none, some (94, true), some (94, true), some (94, true), some (94, true), some (98, false), some (98, false), some (98, false), some (94, true), none] ?_
     simp only [(id F57), seval, q1', q2']
     refine awF ?_
     refine awK ?_
     simp only [(id F57), seval]
     refine awD (scT 0 5 (scT 7 4 (scq [10, 13, 22, 25, 27] .nil))) [none, none, none, none, none, none, none, none, none, none, none, none, none, none] ?_
     simp only [(id F57), seval, hat, ht0, cLeg, cGrp, flat_pure cEst_pure, flat_pure cDebt_pure]
     repeat refine ob ?_
     refine ⟨_, hH1, rfl, ?_⟩
     simp only [Later, (id F57), seval, cLeg, flat_pure cEst_pure, flat_pure cDebt_pure, cClaim]
     repeat refine ob ?_
     refine ⟨_, hH2, rfl, ?_⟩
     simp only [Later, (id F57), seval, hne, cClaim]
     refine awT ?_
     refine awN ?_
     simp only [(id F57), seval]
     have hR : dbL g i cl0.holder d.legs 0 = 19 := by rw [← hL]; simp [hin, hcl1, hlg, lgBad, q1, q2, hne]
     refine awX ?_
     simp only [(id F57), seval, hR]
    have q2' : ¬ (x2 : Int) = (k : Int) := by omega
    refine awN ?_
    simp only [(id F57), seval, hI]
    refine awT ?_
    refine awK ?_
    simp only [(id F57), seval]
    refine awD (scT 0 44 .nil) [none, none, none, none, none, none, none, some (39, false), some (39, false), some (39, false), some (39, false), some (39, false), some (39, false), some (39, false), some (39, false), some (39, false), none, none, some (50, false), some (50, false), some (50, false), some (50, false), some (50, false), some (50, false), none, none, some (58, false), some (58, false), some (58, false), some (58, false), some (58, false), some (58, false), some (58, false), some (58, false), some (58, false), some (58, false), some (58, false), some (58, false), some (58, false), some (58, false), some (58, false), some (58, false), some (58, false), none] ?_
    simp only [(id F57), seval, hat, cLeg, n1, n2, n3, n4, a1, cEst, cGrp]
    repeat refine ob ?_
    refine awF ?_
    refine awK ?_
    simp only [(id F57), seval]
    refine awD (scT 0 11 (scq [22] (scT 12 7 .nil))) [none, none, none, none, none, none, none, none, none, none, none, none, none, none, none, none, none, none, none] ?_
    simp only [(id F57), seval, hat, cLeg, cGrp, flat_pure cEst_pure, flat_pure cDebt_pure]
    repeat refine ob ?_
    refine ⟨_, hLg, rfl, ?_⟩
    simp only [Later, (id F57), seval]
    refine awR [] [none, none, some (94, true), some (94, true), some (94, true), some (94, true), some (98, false), some (98, false), some (98, false), some (94, true), none] ?_
    simp only [(id F57), seval, q1', q2']
    refine awT ?_
    refine awN ?_
    simp only [(id F57), seval]
    have hR : dbL g i cl0.holder d.legs 0 = 20 := by rw [← hL]; simp [hin, hcl1, hlg, lgBad, q1, q2]
    refine awX ?_
    simp only [(id F57), seval, hR]
   have q1' : ¬ (x1 : Int) = (i : Int) := by omega
   refine awN ?_
   simp only [(id F57), seval, hI]
   refine awT ?_
   refine awK ?_
   simp only [(id F57), seval]
   refine awD (scT 0 44 .nil) [none, none, none, none, none, none, none, some (39, false), some (39, false), some (39, false), some (39, false), some (39, false), some (39, false), some (39, false), some (39, false), some (39, false), none, none, some (50, false), some (50, false), some (50, false), some (50, false), some (50, false), some (50, false), none, none, some (58, false), some (58, false), some (58, false), some (58, false), some (58, false), some (58, false), some (58, false), some (58, false), some (58, false), some (58, false), some (58, false), some (58, false), some (58, false), some (58, false), some (58, false), some (58, false), some (58, false), none] ?_
   simp only [(id F57), seval, hat, cLeg, n1, n2, n3, n4, a1, cEst, cGrp]
   repeat refine ob ?_
   refine awF ?_
   refine awK ?_
   simp only [(id F57), seval]
   refine awD (scT 0 11 (scq [22] (scT 12 7 .nil))) [none, none, none, none, none, none, none, none, none, none, none, none, none, none, none, none, none, none, none] ?_
   simp only [(id F57), seval, hat, cLeg, cGrp, flat_pure cEst_pure, flat_pure cDebt_pure]
   repeat refine ob ?_
   refine ⟨_, hLg, rfl, ?_⟩
   simp only [Later, (id F57), seval]
   refine awR [] [none, none, some (94, true), some (94, true), some (94, true), some (94, true), some (98, false), some (98, false), some (98, false), some (94, true), none] ?_
   simp only [(id F57), seval, q1']
   refine awT ?_
   refine awN ?_
   simp only [(id F57), seval]
   have hR : dbL g i cl0.holder d.legs 0 = 20 := by rw [← hL]; simp [hin, hcl1, hlg, lgBad, q1]
   refine awX ?_
   simp only [(id F57), seval, hR]
  have hin' : inEsts g.ests l = false := by simpa using hin
  by_cases p1 : l.1 < 0
  ·
   repeat' first|apply awS|apply awB
   refine awN ?_
   simp only [(id F57), seval, hI]
   refine awT ?_
   refine awK ?_
   simp only [(id F57), seval]
   refine awD (scT 0 44 .nil) [none, none, none, none, none, none, none, some (39, false), some (39, false), some (39, false), some (39, false), some (39, false), some (39, false), some (39, false), some (39, false), some (39, false), none, none, some (50, false), some (50, false), some (50, false), some (50, false), some (50, false), some (50, false), none, none, some (58, false), some (58, false), some (58, false), some (58, false), some (58, false), some (58, false), some (58, false), some (58, false), some (58, false), some (58, false), some (58, false), some (58, false), some (58, false), some (58, false), some (58, false), some (58, false), some (58, false), none] ?_
   simp only [(id F57), seval, hat, cLeg, p1, cEst, cGrp]
   repeat refine ob ?_
   refine awT ?_
   refine awN ?_
   simp only [(id F57), seval]
   have hR : dbL g i hd0 d.legs 0 = 1 := by rw [← hL]; simp [hin']
   refine awX ?_
   simp only [(id F57), seval, hR]
  by_cases p2 : (g.ests.length : Int) ≤ l.1
  ·
   repeat' first|apply awS|apply awB
   refine awN ?_
   simp only [(id F57), seval, hI]
   refine awT ?_
   refine awK ?_
   simp only [(id F57), seval]
   refine awD (scT 0 44 .nil) [none, none, none, none, none, none, none, some (39, false), some (39, false), some (39, false), some (39, false), some (39, false), some (39, false), some (39, false), some (39, false), some (39, false), none, none, some (50, false), some (50, false), some (50, false), some (50, false), some (50, false), some (50, false), none, none, some (58, false), some (58, false), some (58, false), some (58, false), some (58, false), some (58, false), some (58, false), some (58, false), some (58, false), some (58, false), some (58, false), some (58, false), some (58, false), some (58, false), some (58, false), some (58, false), some (58, false), none] ?_
   simp only [(id F57), seval, hat, cLeg, p1, p2, cEst, cGrp]
   repeat refine ob ?_
   refine awT ?_
   refine awN ?_
   simp only [(id F57), seval]
   have hR : dbL g i hd0 d.legs 0 = 1 := by rw [← hL]; simp [hin']
   refine awX ?_
   simp only [(id F57), seval, hR]
  by_cases p3 : l.2 < 0
  ·
   repeat' first|apply awS|apply awB
   refine awN ?_
   simp only [(id F57), seval, hI]
   refine awT ?_
   refine awK ?_
   simp only [(id F57), seval]
   refine awD (scT 0 44 .nil) [none, none, none, none, none, none, none, some (39, false), some (39, false), some (39, false), some (39, false), some (39, false), some (39, false), some (39, false), some (39, false), some (39, false), none, none, some (50, false), some (50, false), some (50, false), some (50, false), some (50, false), some (50, false), none, none, some (58, false), some (58, false), some (58, false), some (58, false), some (58, false), some (58, false), some (58, false), some (58, false), some (58, false), some (58, false), some (58, false), some (58, false), some (58, false), some (58, false), some (58, false), some (58, false), some (58, false), none] ?_
   simp only [(id F57), seval, hat, cLeg, p1, p2, p3, cEst, cGrp]
   repeat refine ob ?_
   refine awT ?_
   refine awN ?_
   simp only [(id F57), seval]
   have hR : dbL g i hd0 d.legs 0 = 1 := by rw [← hL]; simp [hin']
   refine awX ?_
   simp only [(id F57), seval, hR]
  have a1 := flat_get cEst_len g.ests l.1 ztEst (by omega) (by omega)
  have p4 : ((g.ests.getD l.1.toNat ztEst).claims.length : Int) ≤ l.2 := by
   simp only [inEsts, Bool.and_eq_false_iff, decide_eq_false_iff_not] at hin'
   omega
  refine awN ?_
  simp only [(id F57), seval, hI]
  refine awT ?_
  refine awK ?_
  simp only [(id F57), seval]
  refine awD (scT 0 44 .nil) [none, none, none, none, none, none, none, some (39, false), some (39, false), some (39, false), some (39, false), some (39, false), some (39, false), some (39, false), some (39, false), some (39, false), none, none, some (50, false), some (50, false), some (50, false), some (50, false), some (50, false), some (50, false), none, none, some (58, false), some (58, false), some (58, false), some (58, false), some (58, false), some (58, false), some (58, false), some (58, false), some (58, false), some (58, false), some (58, false), some (58, false), some (58, false), some (58, false), some (58, false), some (58, false), some (58, false), none] ?_
  simp only [(id F57), seval, hat, cLeg, p1, p2, p3, p4, a1, cEst, cGrp]
  repeat refine ob ?_
  refine awT ?_
  refine awN ?_
  simp only [(id F57), seval]
  have hR : dbL g i hd0 d.legs 0 = 1 := by rw [← hL]; simp [hin']
  refine awX ?_
  simp only [(id F57), seval, hR]
 obtain rfl : k = d.legs.length := by omega
 have hI : ¬ (d.legs.length : Int) < (d.legs.length : Int) := by omega
 rw [List.drop_length] at hL
 simp only [dbL] at hL
 refine awN ?_
 simp only [(id F57), seval, hI]
 refine awF ?_
 refine awQ ?_
 simp only [(id F57), seval]
 refine awN ?_
 simp only [(id F57), seval]
 refine awX ?_
 simp only [(id F57), seval, ← hL]
end Go.Proofs.YtokmkopihhnggaaGreatDoor
