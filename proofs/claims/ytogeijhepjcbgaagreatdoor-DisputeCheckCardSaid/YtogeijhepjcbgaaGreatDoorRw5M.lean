/- The reference: debt; walked by the abstract machine. -/
import Derived.Test.YtogeijhepjcbgaaGreatDoorRw3M
set_option linter.unusedVariables false
set_option linter.unusedSimpArgs false
set_option linter.defProp false
set_option linter.unnecessarySimpa false
/- The reference: debt; walked by the abstract machine. -/
namespace Go.Proofs.YtogeijhepjcbgaaGreatDoor
open Go Go.RowKit
def lgBad (o : Option (Nat × Nat)) (i j : Nat) : Bool := match o with
  | none => false
  | some x => decide (x.1 ≠ i ∨ x.2 ≠ j)
noncomputable def dbL (g : GGrp) (i : Nat) (h0 : Int) : List Leg → Nat → Int
  | [], _ => 0
  | l :: ls, j => if inEsts g.ests l = false then 1 else if lgBad (lgD l g.debts 0) i j = true then 20 else if (claimAt g.ests l).holder ≠ h0 then 19 else dbL g i h0 ls (j + 1)
noncomputable def dbS (g : GGrp) (i : Nat) (d : GDebt) : Int :=
  if 8 < d.legs.length then 2 else if qSgn (qOf d.whole) < 0 then 7 else dbL g i (claimAt g.ests (d.legs.getD 0 (0, 0))).holder d.legs 0
theorem rDbt_ar28 : arT Tryz.prog 28 = none := by kernel_rfl
theorem rDbt_ar27 : arT Tryz.prog 27 = none := by kernel_rfl
theorem rDbt_ar48 : arT Tryz.prog 48 = none := by kernel_rfl
theorem rDbt_el64 : elT Tryz.prog 64 = some (69, 5, 56) := by kernel_rfl
theorem rDbt_el28 : elT Tryz.prog 28 = some (50, 4, 64) := by kernel_rfl
theorem rDbt_el27 : elT Tryz.prog 27 = some (67, 5, 88) := by kernel_rfl
theorem rDbt_el48 : elT Tryz.prog 48 = some (39, 2, 16) := by kernel_rfl
theorem rDbt_fo69_0 : foT Tryz.prog 69 0 = some (0, 3) := by kernel_rfl
theorem rDbt_fo50_0 : foT Tryz.prog 50 0 = some (0, 44) := by kernel_rfl
theorem rDbt_fo50_1 : foT Tryz.prog 50 1 = some (3, 48) := by kernel_rfl
theorem rDbt_fo67_1 : foT Tryz.prog 67 1 = some (3, 64) := by kernel_rfl
theorem rDbt_fo30_0 : foT Tryz.prog 30 0 = some (0, 27) := by kernel_rfl
theorem rDbt_fo30_1 : foT Tryz.prog 30 1 = some (1, 28) := by kernel_rfl
theorem rDbt_fo39_0 : foT Tryz.prog 39 0 = some (0, 3) := by kernel_rfl
theorem rDbt_fo39_1 : foT Tryz.prog 39 1 = some (1, 3) := by kernel_rfl
theorem rDbt_ld64 : ldT Tryz.prog 64 = some (false, 1) := by kernel_rfl
theorem rDbt_ld28 : ldT Tryz.prog 28 = some (false, 1) := by kernel_rfl
theorem rDbt_ld27 : ldT Tryz.prog 27 = some (false, 1) := by kernel_rfl
theorem rDbt_ld48 : ldT Tryz.prog 48 = some (false, 1) := by kernel_rfl
theorem rDbt_ld30 : ldT Tryz.prog 30 = some (true, 2) := by kernel_rfl
theorem rDbt_ld39 : ldT Tryz.prog 39 = some (true, 2) := by kernel_rfl
theorem rDbt_ld44 : ldT Tryz.prog 44 = some (true, 3) := by kernel_rfl
theorem rDbt_ld3 : ldT Tryz.prog 3 = some (false, 1) := by kernel_rfl
def F_rDbt := And.intro rDbt_ar28 (And.intro rDbt_ar27 (And.intro rDbt_ar48 (And.intro rDbt_el64 (And.intro rDbt_el28 (And.intro rDbt_el27 (And.intro rDbt_el48 (And.intro rDbt_fo69_0 (And.intro rDbt_fo50_0 (And.intro rDbt_fo50_1 (And.intro rDbt_fo67_1 (And.intro rDbt_fo30_0 (And.intro rDbt_fo30_1 (And.intro rDbt_fo39_0 (And.intro rDbt_fo39_1 (And.intro rDbt_ld64 (And.intro rDbt_ld28 (And.intro rDbt_ld27 (And.intro rDbt_ld48 (And.intro rDbt_ld30 (And.intro rDbt_ld39 (And.intro rDbt_ld44 (rDbt_ld3))))))))))))))))))))))
set_option maxHeartbeats 8000000 in
theorem debt_A (g : GGrp) (i : Nat) (hi : i < g.debts.length) (hn : g.debts.length ≤ 1000000000000) (hll : ∀ d ∈ g.debts, d.legs.length ≤ 1000000000000) (h1 : g.debts[i].whole.num.size ≤ 500000000000) (h2 : g.debts[i].whole.den.size ≤ 500000000000) :
    ACall Tryz.prog 65 [.agg (cGrp g), .one (.lit (.int .i64 i))] (one (.int .i64 (dbS g i g.debts[i]))) := by
  have hat0 := flat_at cDebt_len g.debts i hi
  have hin0' : (i : Int) < (g.debts.length : Int) := by omega
  have hS := bSign g.debts[i].whole h1 h2
  generalize g.debts[i] = d at *
  unfold dbS
  refine acall_of Tryz.func65 rfl (by decide) (N := 118) rfl (by simp) (R := [.tmp 4]) rfl fun en k0 => ?_
  repeat' first|refine awS ?_|refine awB ?_
  refine awR [] [none, none] ?_
  simp only [(id F_rDbt), (id SS), seval, reduceIte, ne_eq, cGrp]
  repeat' first|refine awS ?_|refine awB ?_
  refine awR [] [none, none, none, none, none, none, none] ?_
  simp only [(id F_rDbt), (id SS), seval, reduceIte, ne_eq, hat0, cGrp, cDebt]
  repeat (refine ⟨by first | omega | (simp only [List.length_cons]; omega), ?_⟩)
  by_cases hlen : 8 < d.legs.length
  · have hI : (8 : Int) < (d.legs.length : Int) := by omega
    repeat' first|refine awS ?_|refine awB ?_
    refine awR [] [none, none, none] ?_
    simp only [(id F_rDbt), (id SS), seval, reduceIte, ne_eq, hI]
    repeat' first|refine awS ?_|refine awB ?_
    refine awT ?_
    repeat' first|refine awS ?_|refine awB ?_
    refine awR [] [none] ?_
    simp only [(id F_rDbt), (id SS), seval, reduceIte, ne_eq]
    repeat' first|refine awS ?_|refine awB ?_
    refine awp_ret ?_
    simp only [(id F_rDbt), (id SS), seval, reduceIte, ne_eq, hlen]
  have hI8 : ¬ (8 : Int) < (d.legs.length : Int) := by omega
  by_cases hq : qSgn (qOf d.whole) < 0
  · repeat' first|refine awS ?_|refine awB ?_
    refine awR [] [none, none, none] ?_
    simp only [(id F_rDbt), (id SS), seval, reduceIte, ne_eq, hI8]
    repeat' first|refine awS ?_|refine awB ?_
    refine awF ?_
    refine awp_skip ?_
    simp only [(id F_rDbt), (id SS), seval, reduceIte, ne_eq]
    repeat' first|refine awS ?_|refine awB ?_
    refine awR [] [none, none, none, none, none, none, none, none] ?_
    simp only [(id F_rDbt), (id SS), seval, reduceIte, ne_eq, hat0, cGrp, cDebt]
    repeat (refine ⟨by first | omega | (simp only [List.length_cons]; omega), ?_⟩)
    refine ⟨_, hS, rfl, ?_⟩
    simp only [Later, (id F_rDbt), (id SS), seval, reduceIte, ne_eq, hq]
    repeat' first|refine awS ?_|refine awB ?_
    refine awT ?_
    repeat' first|refine awS ?_|refine awB ?_
    refine awR [] [none] ?_
    simp only [(id F_rDbt), (id SS), seval, reduceIte, ne_eq]
    repeat' first|refine awS ?_|refine awB ?_
    refine awp_ret ?_
    simp only [(id F_rDbt), (id SS), seval, reduceIte, ne_eq, hlen, hq]
  repeat' first|refine awS ?_|refine awB ?_
  refine awR [] [none, none, none] ?_
  simp only [(id F_rDbt), (id SS), seval, reduceIte, ne_eq, hI8]
  repeat' first|refine awS ?_|refine awB ?_
  refine awF ?_
  refine awp_skip ?_
  simp only [(id F_rDbt), (id SS), seval, reduceIte, ne_eq]
  repeat' first|refine awS ?_|refine awB ?_
  refine awR [] [none, none, none, none, none, none, none, none] ?_
  simp only [(id F_rDbt), (id SS), seval, reduceIte, ne_eq, hat0, cGrp, cDebt]
  repeat (refine ⟨by first | omega | (simp only [List.length_cons]; omega), ?_⟩)
  refine ⟨_, hS, rfl, ?_⟩
  simp only [Later, (id F_rDbt), (id SS), seval, reduceIte, ne_eq, hq]
  repeat' first|refine awS ?_|refine awB ?_
  refine awF ?_
  refine awp_skip ?_
  simp only [(id F_rDbt), (id SS), seval, reduceIte, ne_eq]
  repeat' first|refine awS ?_|refine awB ?_
  refine awR [] [none] ?_
  simp only [(id F_rDbt), (id SS), seval, reduceIte, ne_eq]
  simp only [hlen, hq, if_false]
  refine awp_keep [1, 2, 5, 6] [2] ?_
  simp only [Later, (id F_rDbt), (id SS), seval, reduceIte, ne_eq]
  generalize hh0 : (claimAt g.ests (d.legs.getD 0 (0, 0))).holder = hd0
  repeat' first|refine awS ?_|refine awB ?_
  refine awp_loopw (fun n st => ∃ k nx, k ≤ d.legs.length ∧ n = d.legs.length - k ∧ dbL g i hd0 (d.legs.drop k) k = dbL g i hd0 d.legs 0 ∧ (0 < k → inEsts g.ests (d.legs.getD 0 (0, 0)) = true) ∧ st = ⟨mkT [(1, one (.int .i64 i)), (2, .val (.one (.ptr 2 0 0))), (5, .val (.one (.sh 2 d.legs.length (flat cLeg d.legs)))), (6, one (.int .i64 k))], mkH [(2, ⟨0, 30, 2, 1, cGrp g⟩)], nx, 0⟩) d.legs.length ⟨0, _, by omega, by omega, rfl, by omega, rfl⟩ ?_
  rintro n st ⟨k, nx, hk, rfl, hL, h0, rfl⟩
  by_cases hlt : k < d.legs.length
  · have hI : (k : Int) < (d.legs.length : Int) := by omega
    have hI0 : (0 : Int) < (d.legs.length : Int) := by omega
    have hat := flat_at cLeg_len d.legs k hlt
    rw [List.drop_eq_getElem_cons hlt] at hL
    have ht0 : List.take 2 (flat cLeg d.legs) = cLeg (d.legs.getD 0 (0, 0)) := by
      have h5 : 0 < d.legs.length := by omega
      have := flat_at cLeg_len d.legs 0 h5
      simp only [Nat.zero_mul, List.drop_zero] at this
      rw [this, List.take_left' (cLeg_len _)]
      simp [List.getD, h5]
    have hlen0 : 2 ≤ (flat cLeg d.legs).length := by rw [flat_length cLeg_len]; omega
    have hk0 : k = 0 → d.legs[k] = d.legs.getD 0 (0, 0) := fun h => by subst h; simp [List.getD, hlt]
    generalize d.legs[k] = l at *
    simp only [dbL] at hL
    by_cases hin : inEsts g.ests l = true
    · have hin' := hin
      simp only [inEsts, Bool.and_eq_true, decide_eq_true_eq] at hin'
      obtain ⟨⟨⟨e1, e2⟩, e3⟩, e4⟩ := hin'
      have a1 := flat_get cEst_len g.ests l.1 ztEst e1 e2
      have hH1 := claim_A g l hin
      have hin0 : inEsts g.ests (d.legs.getD 0 (0, 0)) = true := by
        rcases Nat.eq_zero_or_pos k with h | h
        · rw [← hk0 h]; exact hin
        · exact h0 h
      have hH2 := claim_A g (d.legs.getD 0 (0, 0)) hin0
      rw [← hh0] at *
      generalize claimAt g.ests (d.legs.getD 0 (0, 0)) = cl0 at *
      generalize hcl1 : claimAt g.ests l = cl1 at *
      generalize d.legs.getD 0 (0, 0) = l0 at *
      have n1 : ¬ l.1 < 0 := by omega
      have n2 : ¬ (g.ests.length : Int) ≤ l.1 := by omega
      have n3 : ¬ l.2 < 0 := by omega
      have n4 : ¬ ((g.ests.getD l.1.toNat ztEst).claims.length : Int) ≤ l.2 := by omega
      have hLg := leg_A g l hn hll
      cases hlg : lgD l g.debts 0
      · rw [hlg] at hLg
        simp only [lgR] at hLg
        by_cases hne : cl1.holder = cl0.holder
        · repeat' first|refine awS ?_|refine awB ?_
          refine awR [] [none, none, none, none] ?_
          simp only [(id F_rDbt), (id SS), seval, reduceIte, ne_eq, hI]
          repeat' first|refine awS ?_|refine awB ?_
          refine awT ?_
          refine awp_skip ?_
          simp only [(id F_rDbt), (id SS), seval, reduceIte, ne_eq]
          repeat' first|refine awS ?_|refine awB ?_
          refine awp_draws (by kernel_rfl) (.cons 0 true (.cons 1 true (.cons 2 true (.cons 3 true (.cons 4 true (.cons 5 true (.cons 6 true (.cons 7 true (.cons 8 true (.cons 9 true (.cons 10 true (.cons 11 true (.cons 12 true (.cons 13 true (.cons 14 true (.cons 15 true (.cons 16 true (.cons 17 true (.cons 18 true (.cons 19 true (.cons 20 true (.cons 21 true (.cons 22 true (.cons 23 true (.cons 24 true (.cons 25 true (.cons 26 true (.cons 27 true (.cons 28 true (.cons 29 true (.cons 30 true (.cons 31 true (.cons 32 true (.cons 33 true (.cons 34 true (.cons 35 true (.cons 36 true (.cons 37 true (.cons 38 true (.cons 39 true (.cons 40 true (.cons 41 true (.cons 42 true (.cons 43 true .nil)))))))))))))))))))))))))))))))))))))))))))) (by kernel_rfl) (gs := [none, none, none, none, none, none, none, some (39, false), some (39, false), some (39, false), some (39, false), some (39, false), some (39, false), some (39, false), some (39, false), some (39, false), none, none, some (50, false), some (50, false), some (50, false), some (50, false), some (50, false), some (50, false), none, none, some (58, false), some (58, false), some (58, false), some (58, false), some (58, false), some (58, false), some (58, false), some (58, false), some (58, false), some (58, false), some (58, false), some (58, false), some (58, false), some (58, false), some (58, false), some (58, false), some (58, false), none]) (by kernel_rfl) (by simp only [(id SS), seval, reduceIte, ne_eq]; rfl) (by decide) ?_
          simp only [(id F_rDbt), (id SS), seval, reduceIte, ne_eq, hat, cLeg, n1, n2, n3, n4, a1, cEst, cGrp]
          repeat (refine ⟨by first | omega | (simp only [List.length_cons]; omega), ?_⟩)
          repeat' first|refine awS ?_|refine awB ?_
          refine awF ?_
          refine awp_skip ?_
          simp only [(id F_rDbt), (id SS), seval, reduceIte, ne_eq]
          repeat' first|refine awS ?_|refine awB ?_
          refine awp_draws (by kernel_rfl) (.cons 0 true (.cons 1 true (.cons 2 true (.cons 3 true (.cons 4 true (.cons 5 true (.cons 6 true (.cons 7 true (.cons 8 true (.cons 9 true (.cons 10 true (.cons 11 false (.cons 12 true (.cons 13 true (.cons 14 true (.cons 15 true (.cons 16 true (.cons 17 true (.cons 18 true .nil))))))))))))))))))) (by kernel_rfl) (gs := [none, none, none, none, none, none, none, none, none, none, none, none, none, none, none, none, none, none, none]) (by kernel_rfl) (by simp only [(id SS), seval, reduceIte, ne_eq]; rfl) (by decide) ?_
          simp only [(id F_rDbt), (id SS), seval, reduceIte, ne_eq, hat, cLeg, cGrp, flat_pure cEst_pure, flat_pure cDebt_pure]
          repeat (refine ⟨by first | omega | (simp only [List.length_cons]; omega), ?_⟩)
          refine ⟨_, hLg, rfl, ?_⟩
          simp only [Later, (id F_rDbt), (id SS), seval, reduceIte, ne_eq]
          repeat' first|refine awS ?_|refine awB ?_
          refine awR [] [none, none, some (94, true), some (94, true), some (94, true), some (94, true), some (98, false), some (98, false), some (98, false), some (94, true), none] ?_
          simp only [(id F_rDbt), (id SS), seval, reduceIte, ne_eq]
          repeat' first|refine awS ?_|refine awB ?_
          refine awF ?_
          refine awp_skip ?_
          simp only [(id F_rDbt), (id SS), seval, reduceIte, ne_eq]
          repeat' first|refine awS ?_|refine awB ?_
          refine awp_draws (by kernel_rfl) (.cons 0 true (.cons 1 true (.cons 2 true (.cons 3 true (.cons 4 true (.cons 7 true (.cons 8 true (.cons 9 true (.cons 10 true (.cons 5 false (.cons 6 true (.cons 11 false (.cons 12 true (.cons 13 true .nil)))))))))))))) (by kernel_rfl) (gs := [none, none, none, none, none, none, none, none, none, none, none, none, none, none]) (by kernel_rfl) (by simp only [(id SS), seval, reduceIte, ne_eq]; rfl) (by decide) ?_
          simp only [(id F_rDbt), (id SS), seval, reduceIte, ne_eq, hat, ht0, cLeg, cGrp, flat_pure cEst_pure, flat_pure cDebt_pure]
          repeat (refine ⟨by first | omega | (simp only [List.length_cons]; omega), ?_⟩)
          refine ⟨_, hH1, rfl, ?_⟩
          simp only [Later, (id F_rDbt), (id SS), seval, reduceIte, ne_eq, cLeg, flat_pure cEst_pure, flat_pure cDebt_pure, cClaim]
          repeat (refine ⟨by first | omega | (simp only [List.length_cons]; omega), ?_⟩)
          refine ⟨_, hH2, rfl, ?_⟩
          simp only [Later, (id F_rDbt), (id SS), seval, reduceIte, ne_eq, hne, cClaim]
          repeat' first|refine awS ?_|refine awB ?_
          refine awF ?_
          refine awp_skip ?_
          simp only [(id F_rDbt), (id SS), seval, reduceIte, ne_eq]
          repeat' first|refine awS ?_|refine awB ?_
          refine awR [] [none, none, none] ?_
          simp only [(id F_rDbt), (id SS), seval, reduceIte, ne_eq]
          repeat (refine ⟨by first | omega | (simp only [List.length_cons]; omega), ?_⟩)
          refine ⟨_, wk_keep [1, 2, 5, 6] [2], d.legs.length - (k + 1), by omega, k + 1, nx, by omega, rfl, ?_, fun _ => hin0, ?_⟩
          · rw [← hL]; simp [hin, hcl1, hlg, lgBad, hne]
          · simp only [(id F_rDbt), (id SS), seval, reduceIte, ne_eq]
            try rfl
        · repeat' first|refine awS ?_|refine awB ?_
          refine awR [] [none, none, none, none] ?_
          simp only [(id F_rDbt), (id SS), seval, reduceIte, ne_eq, hI]
          repeat' first|refine awS ?_|refine awB ?_
          refine awT ?_
          refine awp_skip ?_
          simp only [(id F_rDbt), (id SS), seval, reduceIte, ne_eq]
          repeat' first|refine awS ?_|refine awB ?_
          refine awp_draws (by kernel_rfl) (.cons 0 true (.cons 1 true (.cons 2 true (.cons 3 true (.cons 4 true (.cons 5 true (.cons 6 true (.cons 7 true (.cons 8 true (.cons 9 true (.cons 10 true (.cons 11 true (.cons 12 true (.cons 13 true (.cons 14 true (.cons 15 true (.cons 16 true (.cons 17 true (.cons 18 true (.cons 19 true (.cons 20 true (.cons 21 true (.cons 22 true (.cons 23 true (.cons 24 true (.cons 25 true (.cons 26 true (.cons 27 true (.cons 28 true (.cons 29 true (.cons 30 true (.cons 31 true (.cons 32 true (.cons 33 true (.cons 34 true (.cons 35 true (.cons 36 true (.cons 37 true (.cons 38 true (.cons 39 true (.cons 40 true (.cons 41 true (.cons 42 true (.cons 43 true .nil)))))))))))))))))))))))))))))))))))))))))))) (by kernel_rfl) (gs := [none, none, none, none, none, none, none, some (39, false), some (39, false), some (39, false), some (39, false), some (39, false), some (39, false), some (39, false), some (39, false), some (39, false), none, none, some (50, false), some (50, false), some (50, false), some (50, false), some (50, false), some (50, false), none, none, some (58, false), some (58, false), some (58, false), some (58, false), some (58, false), some (58, false), some (58, false), some (58, false), some (58, false), some (58, false), some (58, false), some (58, false), some (58, false), some (58, false), some (58, false), some (58, false), some (58, false), none]) (by kernel_rfl) (by simp only [(id SS), seval, reduceIte, ne_eq]; rfl) (by decide) ?_
          simp only [(id F_rDbt), (id SS), seval, reduceIte, ne_eq, hat, cLeg, n1, n2, n3, n4, a1, cEst, cGrp]
          repeat (refine ⟨by first | omega | (simp only [List.length_cons]; omega), ?_⟩)
          repeat' first|refine awS ?_|refine awB ?_
          refine awF ?_
          refine awp_skip ?_
          simp only [(id F_rDbt), (id SS), seval, reduceIte, ne_eq]
          repeat' first|refine awS ?_|refine awB ?_
          refine awp_draws (by kernel_rfl) (.cons 0 true (.cons 1 true (.cons 2 true (.cons 3 true (.cons 4 true (.cons 5 true (.cons 6 true (.cons 7 true (.cons 8 true (.cons 9 true (.cons 10 true (.cons 11 false (.cons 12 true (.cons 13 true (.cons 14 true (.cons 15 true (.cons 16 true (.cons 17 true (.cons 18 true .nil))))))))))))))))))) (by kernel_rfl) (gs := [none, none, none, none, none, none, none, none, none, none, none, none, none, none, none, none, none, none, none]) (by kernel_rfl) (by simp only [(id SS), seval, reduceIte, ne_eq]; rfl) (by decide) ?_
          simp only [(id F_rDbt), (id SS), seval, reduceIte, ne_eq, hat, cLeg, cGrp, flat_pure cEst_pure, flat_pure cDebt_pure]
          repeat (refine ⟨by first | omega | (simp only [List.length_cons]; omega), ?_⟩)
          refine ⟨_, hLg, rfl, ?_⟩
          simp only [Later, (id F_rDbt), (id SS), seval, reduceIte, ne_eq]
          repeat' first|refine awS ?_|refine awB ?_
          refine awR [] [none, none, some (94, true), some (94, true), some (94, true), some (94, true), some (98, false), some (98, false), some (98, false), some (94, true), none] ?_
          simp only [(id F_rDbt), (id SS), seval, reduceIte, ne_eq]
          repeat' first|refine awS ?_|refine awB ?_
          refine awF ?_
          refine awp_skip ?_
          simp only [(id F_rDbt), (id SS), seval, reduceIte, ne_eq]
          repeat' first|refine awS ?_|refine awB ?_
          refine awp_draws (by kernel_rfl) (.cons 0 true (.cons 1 true (.cons 2 true (.cons 3 true (.cons 4 true (.cons 7 true (.cons 8 true (.cons 9 true (.cons 10 true (.cons 5 false (.cons 6 true (.cons 11 false (.cons 12 true (.cons 13 true .nil)))))))))))))) (by kernel_rfl) (gs := [none, none, none, none, none, none, none, none, none, none, none, none, none, none]) (by kernel_rfl) (by simp only [(id SS), seval, reduceIte, ne_eq]; rfl) (by decide) ?_
          simp only [(id F_rDbt), (id SS), seval, reduceIte, ne_eq, hat, ht0, cLeg, cGrp, flat_pure cEst_pure, flat_pure cDebt_pure]
          repeat (refine ⟨by first | omega | (simp only [List.length_cons]; omega), ?_⟩)
          refine ⟨_, hH1, rfl, ?_⟩
          simp only [Later, (id F_rDbt), (id SS), seval, reduceIte, ne_eq, cLeg, flat_pure cEst_pure, flat_pure cDebt_pure, cClaim]
          repeat (refine ⟨by first | omega | (simp only [List.length_cons]; omega), ?_⟩)
          refine ⟨_, hH2, rfl, ?_⟩
          simp only [Later, (id F_rDbt), (id SS), seval, reduceIte, ne_eq, hne, cClaim]
          repeat' first|refine awS ?_|refine awB ?_
          refine awT ?_
          repeat' first|refine awS ?_|refine awB ?_
          refine awR [] [none] ?_
          simp only [(id F_rDbt), (id SS), seval, reduceIte, ne_eq]
          have hR : dbL g i cl0.holder d.legs 0 = 19 := by rw [← hL]; simp [hin, hcl1, hlg, lgBad, hne]
          repeat' first|refine awS ?_|refine awB ?_
          refine awp_ret ?_
          simp only [(id F_rDbt), (id SS), seval, reduceIte, ne_eq, hR]
      · rename_i x
        obtain ⟨x1, x2⟩ := x
        rw [hlg] at hLg
        simp only [lgR] at hLg
        by_cases q1 : x1 = i
        · have q1' : (x1 : Int) = (i : Int) := by rw [q1]
          by_cases q2 : x2 = k
          · have q2' : (x2 : Int) = (k : Int) := by rw [q2]
            by_cases hne : cl1.holder = cl0.holder
            · repeat' first|refine awS ?_|refine awB ?_
              refine awR [] [none, none, none, none] ?_
              simp only [(id F_rDbt), (id SS), seval, reduceIte, ne_eq, hI]
              repeat' first|refine awS ?_|refine awB ?_
              refine awT ?_
              refine awp_skip ?_
              simp only [(id F_rDbt), (id SS), seval, reduceIte, ne_eq]
              repeat' first|refine awS ?_|refine awB ?_
              refine awp_draws (by kernel_rfl) (.cons 0 true (.cons 1 true (.cons 2 true (.cons 3 true (.cons 4 true (.cons 5 true (.cons 6 true (.cons 7 true (.cons 8 true (.cons 9 true (.cons 10 true (.cons 11 true (.cons 12 true (.cons 13 true (.cons 14 true (.cons 15 true (.cons 16 true (.cons 17 true (.cons 18 true (.cons 19 true (.cons 20 true (.cons 21 true (.cons 22 true (.cons 23 true (.cons 24 true (.cons 25 true (.cons 26 true (.cons 27 true (.cons 28 true (.cons 29 true (.cons 30 true (.cons 31 true (.cons 32 true (.cons 33 true (.cons 34 true (.cons 35 true (.cons 36 true (.cons 37 true (.cons 38 true (.cons 39 true (.cons 40 true (.cons 41 true (.cons 42 true (.cons 43 true .nil)))))))))))))))))))))))))))))))))))))))))))) (by kernel_rfl) (gs := [none, none, none, none, none, none, none, some (39, false), some (39, false), some (39, false), some (39, false), some (39, false), some (39, false), some (39, false), some (39, false), some (39, false), none, none, some (50, false), some (50, false), some (50, false), some (50, false), some (50, false), some (50, false), none, none, some (58, false), some (58, false), some (58, false), some (58, false), some (58, false), some (58, false), some (58, false), some (58, false), some (58, false), some (58, false), some (58, false), some (58, false), some (58, false), some (58, false), some (58, false), some (58, false), some (58, false), none]) (by kernel_rfl) (by simp only [(id SS), seval, reduceIte, ne_eq]; rfl) (by decide) ?_
              simp only [(id F_rDbt), (id SS), seval, reduceIte, ne_eq, hat, cLeg, n1, n2, n3, n4, a1, cEst, cGrp]
              repeat (refine ⟨by first | omega | (simp only [List.length_cons]; omega), ?_⟩)
              repeat' first|refine awS ?_|refine awB ?_
              refine awF ?_
              refine awp_skip ?_
              simp only [(id F_rDbt), (id SS), seval, reduceIte, ne_eq]
              repeat' first|refine awS ?_|refine awB ?_
              refine awp_draws (by kernel_rfl) (.cons 0 true (.cons 1 true (.cons 2 true (.cons 3 true (.cons 4 true (.cons 5 true (.cons 6 true (.cons 7 true (.cons 8 true (.cons 9 true (.cons 10 true (.cons 11 false (.cons 12 true (.cons 13 true (.cons 14 true (.cons 15 true (.cons 16 true (.cons 17 true (.cons 18 true .nil))))))))))))))))))) (by kernel_rfl) (gs := [none, none, none, none, none, none, none, none, none, none, none, none, none, none, none, none, none, none, none]) (by kernel_rfl) (by simp only [(id SS), seval, reduceIte, ne_eq]; rfl) (by decide) ?_
              simp only [(id F_rDbt), (id SS), seval, reduceIte, ne_eq, hat, cLeg, cGrp, flat_pure cEst_pure, flat_pure cDebt_pure]
              repeat (refine ⟨by first | omega | (simp only [List.length_cons]; omega), ?_⟩)
              refine ⟨_, hLg, rfl, ?_⟩
              simp only [Later, (id F_rDbt), (id SS), seval, reduceIte, ne_eq]
              repeat' first|refine awS ?_|refine awB ?_
              refine awR [] [none, none, some (94, true), some (94, true), some (94, true), some (94, true), some (98, false), some (98, false), some (98, false), some (94, true), none] ?_
              simp only [(id F_rDbt), (id SS), seval, reduceIte, ne_eq, q1', q2']
              repeat' first|refine awS ?_|refine awB ?_
              refine awF ?_
              refine awp_skip ?_
              simp only [(id F_rDbt), (id SS), seval, reduceIte, ne_eq]
              repeat' first|refine awS ?_|refine awB ?_
              refine awp_draws (by kernel_rfl) (.cons 0 true (.cons 1 true (.cons 2 true (.cons 3 true (.cons 4 true (.cons 7 true (.cons 8 true (.cons 9 true (.cons 10 true (.cons 5 false (.cons 6 true (.cons 11 false (.cons 12 true (.cons 13 true .nil)))))))))))))) (by kernel_rfl) (gs := [none, none, none, none, none, none, none, none, none, none, none, none, none, none]) (by kernel_rfl) (by simp only [(id SS), seval, reduceIte, ne_eq]; rfl) (by decide) ?_
              simp only [(id F_rDbt), (id SS), seval, reduceIte, ne_eq, hat, ht0, cLeg, cGrp, flat_pure cEst_pure, flat_pure cDebt_pure]
              repeat (refine ⟨by first | omega | (simp only [List.length_cons]; omega), ?_⟩)
              refine ⟨_, hH1, rfl, ?_⟩
              simp only [Later, (id F_rDbt), (id SS), seval, reduceIte, ne_eq, cLeg, flat_pure cEst_pure, flat_pure cDebt_pure, cClaim]
              repeat (refine ⟨by first | omega | (simp only [List.length_cons]; omega), ?_⟩)
              refine ⟨_, hH2, rfl, ?_⟩
              simp only [Later, (id F_rDbt), (id SS), seval, reduceIte, ne_eq, hne, cClaim]
              repeat' first|refine awS ?_|refine awB ?_
              refine awF ?_
              refine awp_skip ?_
              simp only [(id F_rDbt), (id SS), seval, reduceIte, ne_eq]
              repeat' first|refine awS ?_|refine awB ?_
              refine awR [] [none, none, none] ?_
              simp only [(id F_rDbt), (id SS), seval, reduceIte, ne_eq]
              repeat (refine ⟨by first | omega | (simp only [List.length_cons]; omega), ?_⟩)
              refine ⟨_, wk_keep [1, 2, 5, 6] [2], d.legs.length - (k + 1), by omega, k + 1, nx, by omega, rfl, ?_, fun _ => hin0, ?_⟩
              · rw [← hL]; simp [hin, hcl1, hlg, lgBad, q1, q2, hne]
              · simp only [(id F_rDbt), (id SS), seval, reduceIte, ne_eq]
                try rfl
            · repeat' first|refine awS ?_|refine awB ?_
              refine awR [] [none, none, none, none] ?_
              simp only [(id F_rDbt), (id SS), seval, reduceIte, ne_eq, hI]
              repeat' first|refine awS ?_|refine awB ?_
              refine awT ?_
              refine awp_skip ?_
              simp only [(id F_rDbt), (id SS), seval, reduceIte, ne_eq]
              repeat' first|refine awS ?_|refine awB ?_
              refine awp_draws (by kernel_rfl) (.cons 0 true (.cons 1 true (.cons 2 true (.cons 3 true (.cons 4 true (.cons 5 true (.cons 6 true (.cons 7 true (.cons 8 true (.cons 9 true (.cons 10 true (.cons 11 true (.cons 12 true (.cons 13 true (.cons 14 true (.cons 15 true (.cons 16 true (.cons 17 true (.cons 18 true (.cons 19 true (.cons 20 true (.cons 21 true (.cons 22 true (.cons 23 true (.cons 24 true (.cons 25 true (.cons 26 true (.cons 27 true (.cons 28 true (.cons 29 true (.cons 30 true (.cons 31 true (.cons 32 true (.cons 33 true (.cons 34 true (.cons 35 true (.cons 36 true (.cons 37 true (.cons 38 true (.cons 39 true (.cons 40 true (.cons 41 true (.cons 42 true (.cons 43 true .nil)))))))))))))))))))))))))))))))))))))))))))) (by kernel_rfl) (gs := [none, none, none, none, none, none, none, some (39, false), some (39, false), some (39, false), some (39, false), some (39, false), some (39, false), some (39, false), some (39, false), some (39, false), none, none, some (50, false), some (50, false), some (50, false), some (50, false), some (50, false), some (50, false), none, none, some (58, false), some (58, false), some (58, false), some (58, false), some (58, false), some (58, false), some (58, false), some (58, false), some (58, false), some (58, false), some (58, false), some (58, false), some (58, false), some (58, false), some (58, false), some (58, false), some (58, false), none]) (by kernel_rfl) (by simp only [(id SS), seval, reduceIte, ne_eq]; rfl) (by decide) ?_
              simp only [(id F_rDbt), (id SS), seval, reduceIte, ne_eq, hat, cLeg, n1, n2, n3, n4, a1, cEst, cGrp]
              repeat (refine ⟨by first | omega | (simp only [List.length_cons]; omega), ?_⟩)
              repeat' first|refine awS ?_|refine awB ?_
              refine awF ?_
              refine awp_skip ?_
              simp only [(id F_rDbt), (id SS), seval, reduceIte, ne_eq]
              repeat' first|refine awS ?_|refine awB ?_
              refine awp_draws (by kernel_rfl) (.cons 0 true (.cons 1 true (.cons 2 true (.cons 3 true (.cons 4 true (.cons 5 true (.cons 6 true (.cons 7 true (.cons 8 true (.cons 9 true (.cons 10 true (.cons 11 false (.cons 12 true (.cons 13 true (.cons 14 true (.cons 15 true (.cons 16 true (.cons 17 true (.cons 18 true .nil))))))))))))))))))) (by kernel_rfl) (gs := [none, none, none, none, none, none, none, none, none, none, none, none, none, none, none, none, none, none, none]) (by kernel_rfl) (by simp only [(id SS), seval, reduceIte, ne_eq]; rfl) (by decide) ?_
              simp only [(id F_rDbt), (id SS), seval, reduceIte, ne_eq, hat, cLeg, cGrp, flat_pure cEst_pure, flat_pure cDebt_pure]
              repeat (refine ⟨by first | omega | (simp only [List.length_cons]; omega), ?_⟩)
              refine ⟨_, hLg, rfl, ?_⟩
              simp only [Later, (id F_rDbt), (id SS), seval, reduceIte, ne_eq]
              repeat' first|refine awS ?_|refine awB ?_
              refine awR [] [none, none, some (94, true), some (94, true), some (94, true), some (94, true), some (98, false), some (98, false), some (98, false), some (94, true), none] ?_
              simp only [(id F_rDbt), (id SS), seval, reduceIte, ne_eq, q1', q2']
              repeat' first|refine awS ?_|refine awB ?_
              refine awF ?_
              refine awp_skip ?_
              simp only [(id F_rDbt), (id SS), seval, reduceIte, ne_eq]
              repeat' first|refine awS ?_|refine awB ?_
              refine awp_draws (by kernel_rfl) (.cons 0 true (.cons 1 true (.cons 2 true (.cons 3 true (.cons 4 true (.cons 7 true (.cons 8 true (.cons 9 true (.cons 10 true (.cons 5 false (.cons 6 true (.cons 11 false (.cons 12 true (.cons 13 true .nil)))))))))))))) (by kernel_rfl) (gs := [none, none, none, none, none, none, none, none, none, none, none, none, none, none]) (by kernel_rfl) (by simp only [(id SS), seval, reduceIte, ne_eq]; rfl) (by decide) ?_
              simp only [(id F_rDbt), (id SS), seval, reduceIte, ne_eq, hat, ht0, cLeg, cGrp, flat_pure cEst_pure, flat_pure cDebt_pure]
              repeat (refine ⟨by first | omega | (simp only [List.length_cons]; omega), ?_⟩)
              refine ⟨_, hH1, rfl, ?_⟩
              simp only [Later, (id F_rDbt), (id SS), seval, reduceIte, ne_eq, cLeg, flat_pure cEst_pure, flat_pure cDebt_pure, cClaim]
              repeat (refine ⟨by first | omega | (simp only [List.length_cons]; omega), ?_⟩)
              refine ⟨_, hH2, rfl, ?_⟩
              simp only [Later, (id F_rDbt), (id SS), seval, reduceIte, ne_eq, hne, cClaim]
              repeat' first|refine awS ?_|refine awB ?_
              refine awT ?_
              repeat' first|refine awS ?_|refine awB ?_
              refine awR [] [none] ?_
              simp only [(id F_rDbt), (id SS), seval, reduceIte, ne_eq]
              have hR : dbL g i cl0.holder d.legs 0 = 19 := by rw [← hL]; simp [hin, hcl1, hlg, lgBad, q1, q2, hne]
              repeat' first|refine awS ?_|refine awB ?_
              refine awp_ret ?_
              simp only [(id F_rDbt), (id SS), seval, reduceIte, ne_eq, hR]
          · have q2' : ¬ (x2 : Int) = (k : Int) := by omega
            repeat' first|refine awS ?_|refine awB ?_
            refine awR [] [none, none, none, none] ?_
            simp only [(id F_rDbt), (id SS), seval, reduceIte, ne_eq, hI]
            repeat' first|refine awS ?_|refine awB ?_
            refine awT ?_
            refine awp_skip ?_
            simp only [(id F_rDbt), (id SS), seval, reduceIte, ne_eq]
            repeat' first|refine awS ?_|refine awB ?_
            refine awp_draws (by kernel_rfl) (.cons 0 true (.cons 1 true (.cons 2 true (.cons 3 true (.cons 4 true (.cons 5 true (.cons 6 true (.cons 7 true (.cons 8 true (.cons 9 true (.cons 10 true (.cons 11 true (.cons 12 true (.cons 13 true (.cons 14 true (.cons 15 true (.cons 16 true (.cons 17 true (.cons 18 true (.cons 19 true (.cons 20 true (.cons 21 true (.cons 22 true (.cons 23 true (.cons 24 true (.cons 25 true (.cons 26 true (.cons 27 true (.cons 28 true (.cons 29 true (.cons 30 true (.cons 31 true (.cons 32 true (.cons 33 true (.cons 34 true (.cons 35 true (.cons 36 true (.cons 37 true (.cons 38 true (.cons 39 true (.cons 40 true (.cons 41 true (.cons 42 true (.cons 43 true .nil)))))))))))))))))))))))))))))))))))))))))))) (by kernel_rfl) (gs := [none, none, none, none, none, none, none, some (39, false), some (39, false), some (39, false), some (39, false), some (39, false), some (39, false), some (39, false), some (39, false), some (39, false), none, none, some (50, false), some (50, false), some (50, false), some (50, false), some (50, false), some (50, false), none, none, some (58, false), some (58, false), some (58, false), some (58, false), some (58, false), some (58, false), some (58, false), some (58, false), some (58, false), some (58, false), some (58, false), some (58, false), some (58, false), some (58, false), some (58, false), some (58, false), some (58, false), none]) (by kernel_rfl) (by simp only [(id SS), seval, reduceIte, ne_eq]; rfl) (by decide) ?_
            simp only [(id F_rDbt), (id SS), seval, reduceIte, ne_eq, hat, cLeg, n1, n2, n3, n4, a1, cEst, cGrp]
            repeat (refine ⟨by first | omega | (simp only [List.length_cons]; omega), ?_⟩)
            repeat' first|refine awS ?_|refine awB ?_
            refine awF ?_
            refine awp_skip ?_
            simp only [(id F_rDbt), (id SS), seval, reduceIte, ne_eq]
            repeat' first|refine awS ?_|refine awB ?_
            refine awp_draws (by kernel_rfl) (.cons 0 true (.cons 1 true (.cons 2 true (.cons 3 true (.cons 4 true (.cons 5 true (.cons 6 true (.cons 7 true (.cons 8 true (.cons 9 true (.cons 10 true (.cons 11 false (.cons 12 true (.cons 13 true (.cons 14 true (.cons 15 true (.cons 16 true (.cons 17 true (.cons 18 true .nil))))))))))))))))))) (by kernel_rfl) (gs := [none, none, none, none, none, none, none, none, none, none, none, none, none, none, none, none, none, none, none]) (by kernel_rfl) (by simp only [(id SS), seval, reduceIte, ne_eq]; rfl) (by decide) ?_
            simp only [(id F_rDbt), (id SS), seval, reduceIte, ne_eq, hat, cLeg, cGrp, flat_pure cEst_pure, flat_pure cDebt_pure]
            repeat (refine ⟨by first | omega | (simp only [List.length_cons]; omega), ?_⟩)
            refine ⟨_, hLg, rfl, ?_⟩
            simp only [Later, (id F_rDbt), (id SS), seval, reduceIte, ne_eq]
            repeat' first|refine awS ?_|refine awB ?_
            refine awR [] [none, none, some (94, true), some (94, true), some (94, true), some (94, true), some (98, false), some (98, false), some (98, false), some (94, true), none] ?_
            simp only [(id F_rDbt), (id SS), seval, reduceIte, ne_eq, q1', q2']
            repeat' first|refine awS ?_|refine awB ?_
            refine awT ?_
            repeat' first|refine awS ?_|refine awB ?_
            refine awR [] [none] ?_
            simp only [(id F_rDbt), (id SS), seval, reduceIte, ne_eq]
            have hR : dbL g i cl0.holder d.legs 0 = 20 := by rw [← hL]; simp [hin, hcl1, hlg, lgBad, q1, q2]
            repeat' first|refine awS ?_|refine awB ?_
            refine awp_ret ?_
            simp only [(id F_rDbt), (id SS), seval, reduceIte, ne_eq, hR]
        · have q1' : ¬ (x1 : Int) = (i : Int) := by omega
          repeat' first|refine awS ?_|refine awB ?_
          refine awR [] [none, none, none, none] ?_
          simp only [(id F_rDbt), (id SS), seval, reduceIte, ne_eq, hI]
          repeat' first|refine awS ?_|refine awB ?_
          refine awT ?_
          refine awp_skip ?_
          simp only [(id F_rDbt), (id SS), seval, reduceIte, ne_eq]
          repeat' first|refine awS ?_|refine awB ?_
          refine awp_draws (by kernel_rfl) (.cons 0 true (.cons 1 true (.cons 2 true (.cons 3 true (.cons 4 true (.cons 5 true (.cons 6 true (.cons 7 true (.cons 8 true (.cons 9 true (.cons 10 true (.cons 11 true (.cons 12 true (.cons 13 true (.cons 14 true (.cons 15 true (.cons 16 true (.cons 17 true (.cons 18 true (.cons 19 true (.cons 20 true (.cons 21 true (.cons 22 true (.cons 23 true (.cons 24 true (.cons 25 true (.cons 26 true (.cons 27 true (.cons 28 true (.cons 29 true (.cons 30 true (.cons 31 true (.cons 32 true (.cons 33 true (.cons 34 true (.cons 35 true (.cons 36 true (.cons 37 true (.cons 38 true (.cons 39 true (.cons 40 true (.cons 41 true (.cons 42 true (.cons 43 true .nil)))))))))))))))))))))))))))))))))))))))))))) (by kernel_rfl) (gs := [none, none, none, none, none, none, none, some (39, false), some (39, false), some (39, false), some (39, false), some (39, false), some (39, false), some (39, false), some (39, false), some (39, false), none, none, some (50, false), some (50, false), some (50, false), some (50, false), some (50, false), some (50, false), none, none, some (58, false), some (58, false), some (58, false), some (58, false), some (58, false), some (58, false), some (58, false), some (58, false), some (58, false), some (58, false), some (58, false), some (58, false), some (58, false), some (58, false), some (58, false), some (58, false), some (58, false), none]) (by kernel_rfl) (by simp only [(id SS), seval, reduceIte, ne_eq]; rfl) (by decide) ?_
          simp only [(id F_rDbt), (id SS), seval, reduceIte, ne_eq, hat, cLeg, n1, n2, n3, n4, a1, cEst, cGrp]
          repeat (refine ⟨by first | omega | (simp only [List.length_cons]; omega), ?_⟩)
          repeat' first|refine awS ?_|refine awB ?_
          refine awF ?_
          refine awp_skip ?_
          simp only [(id F_rDbt), (id SS), seval, reduceIte, ne_eq]
          repeat' first|refine awS ?_|refine awB ?_
          refine awp_draws (by kernel_rfl) (.cons 0 true (.cons 1 true (.cons 2 true (.cons 3 true (.cons 4 true (.cons 5 true (.cons 6 true (.cons 7 true (.cons 8 true (.cons 9 true (.cons 10 true (.cons 11 false (.cons 12 true (.cons 13 true (.cons 14 true (.cons 15 true (.cons 16 true (.cons 17 true (.cons 18 true .nil))))))))))))))))))) (by kernel_rfl) (gs := [none, none, none, none, none, none, none, none, none, none, none, none, none, none, none, none, none, none, none]) (by kernel_rfl) (by simp only [(id SS), seval, reduceIte, ne_eq]; rfl) (by decide) ?_
          simp only [(id F_rDbt), (id SS), seval, reduceIte, ne_eq, hat, cLeg, cGrp, flat_pure cEst_pure, flat_pure cDebt_pure]
          repeat (refine ⟨by first | omega | (simp only [List.length_cons]; omega), ?_⟩)
          refine ⟨_, hLg, rfl, ?_⟩
          simp only [Later, (id F_rDbt), (id SS), seval, reduceIte, ne_eq]
          repeat' first|refine awS ?_|refine awB ?_
          refine awR [] [none, none, some (94, true), some (94, true), some (94, true), some (94, true), some (98, false), some (98, false), some (98, false), some (94, true), none] ?_
          simp only [(id F_rDbt), (id SS), seval, reduceIte, ne_eq, q1']
          repeat' first|refine awS ?_|refine awB ?_
          refine awT ?_
          repeat' first|refine awS ?_|refine awB ?_
          refine awR [] [none] ?_
          simp only [(id F_rDbt), (id SS), seval, reduceIte, ne_eq]
          have hR : dbL g i cl0.holder d.legs 0 = 20 := by rw [← hL]; simp [hin, hcl1, hlg, lgBad, q1]
          repeat' first|refine awS ?_|refine awB ?_
          refine awp_ret ?_
          simp only [(id F_rDbt), (id SS), seval, reduceIte, ne_eq, hR]
    · have hin' : inEsts g.ests l = false := by simpa using hin
      by_cases p1 : l.1 < 0
      · repeat' first|refine awS ?_|refine awB ?_
        refine awR [] [none, none, none, none] ?_
        simp only [(id F_rDbt), (id SS), seval, reduceIte, ne_eq, hI]
        repeat' first|refine awS ?_|refine awB ?_
        refine awT ?_
        refine awp_skip ?_
        simp only [(id F_rDbt), (id SS), seval, reduceIte, ne_eq]
        repeat' first|refine awS ?_|refine awB ?_
        refine awp_draws (by kernel_rfl) (.cons 0 true (.cons 1 true (.cons 2 true (.cons 3 true (.cons 4 true (.cons 5 true (.cons 6 true (.cons 7 true (.cons 8 true (.cons 9 true (.cons 10 true (.cons 11 true (.cons 12 true (.cons 13 true (.cons 14 true (.cons 15 true (.cons 16 true (.cons 17 true (.cons 18 true (.cons 19 true (.cons 20 true (.cons 21 true (.cons 22 true (.cons 23 true (.cons 24 true (.cons 25 true (.cons 26 true (.cons 27 true (.cons 28 true (.cons 29 true (.cons 30 true (.cons 31 true (.cons 32 true (.cons 33 true (.cons 34 true (.cons 35 true (.cons 36 true (.cons 37 true (.cons 38 true (.cons 39 true (.cons 40 true (.cons 41 true (.cons 42 true (.cons 43 true .nil)))))))))))))))))))))))))))))))))))))))))))) (by kernel_rfl) (gs := [none, none, none, none, none, none, none, some (39, false), some (39, false), some (39, false), some (39, false), some (39, false), some (39, false), some (39, false), some (39, false), some (39, false), none, none, some (50, false), some (50, false), some (50, false), some (50, false), some (50, false), some (50, false), none, none, some (58, false), some (58, false), some (58, false), some (58, false), some (58, false), some (58, false), some (58, false), some (58, false), some (58, false), some (58, false), some (58, false), some (58, false), some (58, false), some (58, false), some (58, false), some (58, false), some (58, false), none]) (by kernel_rfl) (by simp only [(id SS), seval, reduceIte, ne_eq]; rfl) (by decide) ?_
        simp only [(id F_rDbt), (id SS), seval, reduceIte, ne_eq, hat, cLeg, p1, cEst, cGrp]
        repeat (refine ⟨by first | omega | (simp only [List.length_cons]; omega), ?_⟩)
        repeat' first|refine awS ?_|refine awB ?_
        refine awT ?_
        repeat' first|refine awS ?_|refine awB ?_
        refine awR [] [none] ?_
        simp only [(id F_rDbt), (id SS), seval, reduceIte, ne_eq]
        have hR : dbL g i hd0 d.legs 0 = 1 := by rw [← hL]; simp [hin']
        repeat' first|refine awS ?_|refine awB ?_
        refine awp_ret ?_
        simp only [(id F_rDbt), (id SS), seval, reduceIte, ne_eq, hR]
      by_cases p2 : (g.ests.length : Int) ≤ l.1
      · repeat' first|refine awS ?_|refine awB ?_
        refine awR [] [none, none, none, none] ?_
        simp only [(id F_rDbt), (id SS), seval, reduceIte, ne_eq, hI]
        repeat' first|refine awS ?_|refine awB ?_
        refine awT ?_
        refine awp_skip ?_
        simp only [(id F_rDbt), (id SS), seval, reduceIte, ne_eq]
        repeat' first|refine awS ?_|refine awB ?_
        refine awp_draws (by kernel_rfl) (.cons 0 true (.cons 1 true (.cons 2 true (.cons 3 true (.cons 4 true (.cons 5 true (.cons 6 true (.cons 7 true (.cons 8 true (.cons 9 true (.cons 10 true (.cons 11 true (.cons 12 true (.cons 13 true (.cons 14 true (.cons 15 true (.cons 16 true (.cons 17 true (.cons 18 true (.cons 19 true (.cons 20 true (.cons 21 true (.cons 22 true (.cons 23 true (.cons 24 true (.cons 25 true (.cons 26 true (.cons 27 true (.cons 28 true (.cons 29 true (.cons 30 true (.cons 31 true (.cons 32 true (.cons 33 true (.cons 34 true (.cons 35 true (.cons 36 true (.cons 37 true (.cons 38 true (.cons 39 true (.cons 40 true (.cons 41 true (.cons 42 true (.cons 43 true .nil)))))))))))))))))))))))))))))))))))))))))))) (by kernel_rfl) (gs := [none, none, none, none, none, none, none, some (39, false), some (39, false), some (39, false), some (39, false), some (39, false), some (39, false), some (39, false), some (39, false), some (39, false), none, none, some (50, false), some (50, false), some (50, false), some (50, false), some (50, false), some (50, false), none, none, some (58, false), some (58, false), some (58, false), some (58, false), some (58, false), some (58, false), some (58, false), some (58, false), some (58, false), some (58, false), some (58, false), some (58, false), some (58, false), some (58, false), some (58, false), some (58, false), some (58, false), none]) (by kernel_rfl) (by simp only [(id SS), seval, reduceIte, ne_eq]; rfl) (by decide) ?_
        simp only [(id F_rDbt), (id SS), seval, reduceIte, ne_eq, hat, cLeg, p1, p2, cEst, cGrp]
        repeat (refine ⟨by first | omega | (simp only [List.length_cons]; omega), ?_⟩)
        repeat' first|refine awS ?_|refine awB ?_
        refine awT ?_
        repeat' first|refine awS ?_|refine awB ?_
        refine awR [] [none] ?_
        simp only [(id F_rDbt), (id SS), seval, reduceIte, ne_eq]
        have hR : dbL g i hd0 d.legs 0 = 1 := by rw [← hL]; simp [hin']
        repeat' first|refine awS ?_|refine awB ?_
        refine awp_ret ?_
        simp only [(id F_rDbt), (id SS), seval, reduceIte, ne_eq, hR]
      by_cases p3 : l.2 < 0
      · repeat' first|refine awS ?_|refine awB ?_
        refine awR [] [none, none, none, none] ?_
        simp only [(id F_rDbt), (id SS), seval, reduceIte, ne_eq, hI]
        repeat' first|refine awS ?_|refine awB ?_
        refine awT ?_
        refine awp_skip ?_
        simp only [(id F_rDbt), (id SS), seval, reduceIte, ne_eq]
        repeat' first|refine awS ?_|refine awB ?_
        refine awp_draws (by kernel_rfl) (.cons 0 true (.cons 1 true (.cons 2 true (.cons 3 true (.cons 4 true (.cons 5 true (.cons 6 true (.cons 7 true (.cons 8 true (.cons 9 true (.cons 10 true (.cons 11 true (.cons 12 true (.cons 13 true (.cons 14 true (.cons 15 true (.cons 16 true (.cons 17 true (.cons 18 true (.cons 19 true (.cons 20 true (.cons 21 true (.cons 22 true (.cons 23 true (.cons 24 true (.cons 25 true (.cons 26 true (.cons 27 true (.cons 28 true (.cons 29 true (.cons 30 true (.cons 31 true (.cons 32 true (.cons 33 true (.cons 34 true (.cons 35 true (.cons 36 true (.cons 37 true (.cons 38 true (.cons 39 true (.cons 40 true (.cons 41 true (.cons 42 true (.cons 43 true .nil)))))))))))))))))))))))))))))))))))))))))))) (by kernel_rfl) (gs := [none, none, none, none, none, none, none, some (39, false), some (39, false), some (39, false), some (39, false), some (39, false), some (39, false), some (39, false), some (39, false), some (39, false), none, none, some (50, false), some (50, false), some (50, false), some (50, false), some (50, false), some (50, false), none, none, some (58, false), some (58, false), some (58, false), some (58, false), some (58, false), some (58, false), some (58, false), some (58, false), some (58, false), some (58, false), some (58, false), some (58, false), some (58, false), some (58, false), some (58, false), some (58, false), some (58, false), none]) (by kernel_rfl) (by simp only [(id SS), seval, reduceIte, ne_eq]; rfl) (by decide) ?_
        simp only [(id F_rDbt), (id SS), seval, reduceIte, ne_eq, hat, cLeg, p1, p2, p3, cEst, cGrp]
        repeat (refine ⟨by first | omega | (simp only [List.length_cons]; omega), ?_⟩)
        repeat' first|refine awS ?_|refine awB ?_
        refine awT ?_
        repeat' first|refine awS ?_|refine awB ?_
        refine awR [] [none] ?_
        simp only [(id F_rDbt), (id SS), seval, reduceIte, ne_eq]
        have hR : dbL g i hd0 d.legs 0 = 1 := by rw [← hL]; simp [hin']
        repeat' first|refine awS ?_|refine awB ?_
        refine awp_ret ?_
        simp only [(id F_rDbt), (id SS), seval, reduceIte, ne_eq, hR]
      have a1 := flat_get cEst_len g.ests l.1 ztEst (by omega) (by omega)
      have p4 : ((g.ests.getD l.1.toNat ztEst).claims.length : Int) ≤ l.2 := by
        simp only [inEsts, Bool.and_eq_false_iff, decide_eq_false_iff_not] at hin'
        omega
      repeat' first|refine awS ?_|refine awB ?_
      refine awR [] [none, none, none, none] ?_
      simp only [(id F_rDbt), (id SS), seval, reduceIte, ne_eq, hI]
      repeat' first|refine awS ?_|refine awB ?_
      refine awT ?_
      refine awp_skip ?_
      simp only [(id F_rDbt), (id SS), seval, reduceIte, ne_eq]
      repeat' first|refine awS ?_|refine awB ?_
      refine awp_draws (by kernel_rfl) (.cons 0 true (.cons 1 true (.cons 2 true (.cons 3 true (.cons 4 true (.cons 5 true (.cons 6 true (.cons 7 true (.cons 8 true (.cons 9 true (.cons 10 true (.cons 11 true (.cons 12 true (.cons 13 true (.cons 14 true (.cons 15 true (.cons 16 true (.cons 17 true (.cons 18 true (.cons 19 true (.cons 20 true (.cons 21 true (.cons 22 true (.cons 23 true (.cons 24 true (.cons 25 true (.cons 26 true (.cons 27 true (.cons 28 true (.cons 29 true (.cons 30 true (.cons 31 true (.cons 32 true (.cons 33 true (.cons 34 true (.cons 35 true (.cons 36 true (.cons 37 true (.cons 38 true (.cons 39 true (.cons 40 true (.cons 41 true (.cons 42 true (.cons 43 true .nil)))))))))))))))))))))))))))))))))))))))))))) (by kernel_rfl) (gs := [none, none, none, none, none, none, none, some (39, false), some (39, false), some (39, false), some (39, false), some (39, false), some (39, false), some (39, false), some (39, false), some (39, false), none, none, some (50, false), some (50, false), some (50, false), some (50, false), some (50, false), some (50, false), none, none, some (58, false), some (58, false), some (58, false), some (58, false), some (58, false), some (58, false), some (58, false), some (58, false), some (58, false), some (58, false), some (58, false), some (58, false), some (58, false), some (58, false), some (58, false), some (58, false), some (58, false), none]) (by kernel_rfl) (by simp only [(id SS), seval, reduceIte, ne_eq]; rfl) (by decide) ?_
      simp only [(id F_rDbt), (id SS), seval, reduceIte, ne_eq, hat, cLeg, p1, p2, p3, p4, a1, cEst, cGrp]
      repeat (refine ⟨by first | omega | (simp only [List.length_cons]; omega), ?_⟩)
      repeat' first|refine awS ?_|refine awB ?_
      refine awT ?_
      repeat' first|refine awS ?_|refine awB ?_
      refine awR [] [none] ?_
      simp only [(id F_rDbt), (id SS), seval, reduceIte, ne_eq]
      have hR : dbL g i hd0 d.legs 0 = 1 := by rw [← hL]; simp [hin']
      repeat' first|refine awS ?_|refine awB ?_
      refine awp_ret ?_
      simp only [(id F_rDbt), (id SS), seval, reduceIte, ne_eq, hR]
  · obtain rfl : k = d.legs.length := by omega
    have hI : ¬ (d.legs.length : Int) < (d.legs.length : Int) := by omega
    rw [List.drop_length] at hL
    simp only [dbL] at hL
    repeat' first|refine awS ?_|refine awB ?_
    refine awR [] [none, none, none, none] ?_
    simp only [(id F_rDbt), (id SS), seval, reduceIte, ne_eq, hI]
    repeat' first|refine awS ?_|refine awB ?_
    refine awF ?_
    refine awp_exit ?_
    simp only [(id F_rDbt), (id SS), seval, reduceIte, ne_eq]
    repeat' first|refine awS ?_|refine awB ?_
    refine awR [] [none] ?_
    simp only [(id F_rDbt), (id SS), seval, reduceIte, ne_eq]
    repeat' first|refine awS ?_|refine awB ?_
    refine awp_ret ?_
    simp only [(id F_rDbt), (id SS), seval, reduceIte, ne_eq, ← hL]
end Go.Proofs.YtogeijhepjcbgaaGreatDoor
