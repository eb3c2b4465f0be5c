/- guarantee.Check; walked by the abstract machine. -/
import Derived.Test.YtokmkopihhnggaaDoorWf5M
set_option linter.unusedVariables false
set_option linter.unusedSimpArgs false
set_option linter.defProp false
set_option linter.unnecessarySimpa false
section
/- guarantee.Check; walked by the abstract machine. -/
namespace Go.Proofs.YtokmkopihhnggaaDoor
open Go Go.RowKit
noncomputable def gcEsts : List GEst → Int
  | [] => 0
  | e :: l => if wcSpec e ≠ 0 then wcSpec e else gcEsts l
def gcHold (n i : Int) : List GClaim → Bool
  | [] => false
  | c :: l => decide (c.holder = i) || decide (n ≤ c.holder) || gcHold n i l
def gcHolds (n : Int) (i : Int) : List GEst → Bool
  | [] => false
  | e :: l => gcHold n i e.claims || gcHolds n (i + 1) l
noncomputable def gcDebts (g : GGrp) : List GDebt → List Leg → Int
  | [], _ => 0
  | d :: l, T => if (cdSpec g d T).1 ≠ 0 then (cdSpec g d T).1 else gcDebts g l (cdSpec g d T).2
noncomputable def gcSpec (g : GGrp) : Int := if 8 < g.ests.length ∨ 16 < g.debts.length then 2 else if gcEsts g.ests ≠ 0 then gcEsts g.ests
  else if gcHolds g.ests.length 0 g.ests = true then 19 else gcDebts g g.debts []
def grpOK (g : GGrp) : Prop := (∀ e ∈ g.ests, estOK e) ∧ ∀ d ∈ g.debts, ratOK d.whole
def F_gChk := And.intro zS (And.intro tf14 (And.intro tf53 (And.intro tf15 (And.intro tf16 (And.intro tf54 (And.intro tf17 (And.intro tf18 (And.intro tf19 (And.intro tf20 (And.intro tf55 (And.intro tf23 (And.intro tf56 (And.intro tf24 (And.intro tf49 (And.intro tf57 (And.intro tf58 (And.intro tf30 (And.intro tf12 (And.intro tf51 (And.intro tf59 (tf60)))))))))))))))))))))
set_option maxHeartbeats 4000000 in
theorem gCheck_A (g : GGrp) (hg : grpOK g) : ACall Tryd.prog 5 [.agg (cGrp g)] (one (.int .i64 (gcSpec g))) := by
 obtain ⟨hge, hgd⟩ := hg
 unfold gcSpec
 refine acall_of Tryd.func5 rfl (by decide) (N := 82) rfl (by simp) (R := [.tmp 2]) rfl fun en k0 => ?_
 refine awR [] [none, none] ?_
 simp only [(id F_gChk), seval, cGrp]
 by_cases h8 : 8 < g.ests.length
 ·
  have hI : (8 : Int) < (g.ests.length : Int) := by omega
  refine awR [] [none, none, none, none, none, some (18, false), some (18, false), some (18, false), some (18, false), none] ?_
  simp only [(id F_gChk), seval, hI, cGrp]
  refine awT ?_
  refine awR [] [none] ?_
  simp only [(id F_gChk), seval]
  refine awX ?_
  simp only [(id F_gChk), seval, h8]
 have hI8 : ¬ (8 : Int) < (g.ests.length : Int) := by omega
 by_cases h16 : 16 < g.debts.length
 ·
  have hI : (16 : Int) < (g.debts.length : Int) := by omega
  refine awR [] [none, none, none, none, none, some (18, false), some (18, false), some (18, false), some (18, false), none] ?_
  simp only [(id F_gChk), seval, hI8, hI, cGrp]
  refine awT ?_
  refine awR [] [none] ?_
  simp only [(id F_gChk), seval]
  refine awX ?_
  simp only [(id F_gChk), seval, h16]
 have hI16 : ¬ (16 : Int) < (g.debts.length : Int) := by omega
 refine awR [] [none, none, none, none, none, some (18, false), some (18, false), some (18, false), some (18, false), none] ?_
 simp only [(id F_gChk), seval, hI8, hI16, cGrp]
 refine awF ?_
 refine awK ?_
 simp only [(id F_gChk), seval]
 refine awR [] [none, none, none, none] ?_
 simp only [(id F_gChk), seval, cGrp]
 refine awp_keep [1, 25, 26, 27] [1] ?_
 simp only [Later, (id F_gChk), seval]
 refine awp_cutA (M := fun st => gcEsts g.ests = 0 ∧ ∃ nx, st = ⟨mkT [(1, .val (.one (.ptr 1 0 0)))], mkH [(1, ⟨0, 25, 2, 1, cGrp g⟩)], nx, 0⟩) ?_ ?_
 ·
  repeat' first|apply awS|apply awB
  refine awp_loopw (fun n st => ∃ k nx, k ≤ g.ests.length ∧ n = g.ests.length - k ∧ gcEsts (g.ests.drop k) = gcEsts g.ests ∧ st = ⟨mkT [(1, .val (.one (.ptr 1 0 0))), (25, .val (.one (.sh 5 g.ests.length (flat cEst g.ests)))), (26, one (.int .i64 g.ests.length)), (27, one (.int .i64 k))], mkH [(1, ⟨0, 25, 2, 1, cGrp g⟩)], nx, 0⟩) g.ests.length ⟨0, _, by omega, by omega, rfl, rfl⟩ ?_
  rintro n st ⟨k, nx, hk, rfl, hL, rfl⟩
  by_cases hlt : k < g.ests.length
  ·
   have hI : (k : Int) < (g.ests.length : Int) := by omega
   have hat := flat_at cEst_len g.ests k hlt
   rw [List.drop_eq_getElem_cons hlt] at hL
   have hW := wCheck_A g.ests[k] (hge _ (List.getElem_mem hlt))
   generalize g.ests[k] = e at *
   simp only [gcEsts] at hL
   by_cases he : wcSpec e = 0
   ·
    repeat' first|apply awS|apply awB
    refine awR [] [none] ?_
    simp only [(id F_gChk), seval, hI]
    refine awT ?_
    refine awK ?_
    simp only [(id F_gChk), seval]
    refine awR [] [none, none, none, none] ?_
    simp only [(id F_gChk), seval, hat, cEst]
    repeat refine ob ?_
    refine awR [] [none, none, none] ?_
    simp only [(id F_gChk), seval, flat_pure cClaim_pure, flat_pure cAgr_pure]
    refine ⟨_, hW, rfl, ?_⟩
    simp only [Later, (id F_gChk), seval, he]
    refine awR [] [none, none] ?_
    simp only [(id F_gChk), seval]
    refine awF ?_
    refine awK ?_
    simp only [(id F_gChk), seval]
    refine awR [] [none, none] ?_
    simp only [(id F_gChk), seval]
    repeat refine ob ?_
    refine ⟨_, wk_keep [1, 25, 26, 27] [1], g.ests.length - (k + 1), by omega, k + 1, nx + 1, by omega, rfl, ?_, ?_⟩
    ·
     rw [if_neg (by simp [he])] at hL; exact hL
    simp only [(id F_gChk), seval]
    try rfl
   repeat' first|apply awS|apply awB
   refine awR [] [none] ?_
   simp only [(id F_gChk), seval, hI]
   refine awT ?_
   refine awK ?_
   simp only [(id F_gChk), seval]
   refine awR [] [none, none, none, none] ?_
   simp only [(id F_gChk), seval, hat, cEst]
   repeat refine ob ?_
   refine awR [] [none, none, none] ?_
   simp only [(id F_gChk), seval, flat_pure cClaim_pure, flat_pure cAgr_pure]
   refine ⟨_, hW, rfl, ?_⟩
   simp only [Later, (id F_gChk), seval, he]
   refine awR [] [none, none] ?_
   simp only [(id F_gChk), seval, he]
   refine awT ?_
   refine awR [] [none, none] ?_
   simp only [(id F_gChk), seval]
   rw [if_pos he] at hL
   refine awX ?_
   simp only [(id F_gChk), seval, h8, h16, or_self, ← hL, he]
  obtain rfl : k = g.ests.length := by omega
  have hI : ¬ (g.ests.length : Int) < (g.ests.length : Int) := by omega
  rw [List.drop_length] at hL
  simp only [gcEsts] at hL
  refine awR [] [none] ?_
  simp only [(id F_gChk), seval, hI]
  refine awF ?_
  refine awQ ?_
  simp only [(id F_gChk), seval]
  refine ⟨_, wk_keep [1] [1], hL.symm, nx, ?_⟩
  simp only [(id F_gChk), seval]
 rintro st ⟨hw0, nx, rfl⟩
 simp only [h8, h16, or_self, if_false, hw0, ne_eq, not_true_eq_false]
 refine awR [] [none, none, none, none] ?_
 simp only [(id F_gChk), seval, cGrp]
 refine awp_keep [1, 38, 39, 40] [1] ?_
 simp only [Later, (id F_gChk), seval]
 refine awp_cutA (M := fun st => gcHolds g.ests.length 0 g.ests = false ∧ ∃ nx, st = ⟨mkT [(1, .val (.one (.ptr 1 0 0)))], mkH [(1, ⟨0, 25, 2, 1, cGrp g⟩)], nx, 0⟩) ?_ ?_
 ·
  repeat' first|apply awS|apply awB
  refine awp_loopw (fun n st => ∃ k nx, k ≤ g.ests.length ∧ n = g.ests.length - k ∧ gcHolds g.ests.length k (g.ests.drop k) = gcHolds g.ests.length 0 g.ests ∧ st = ⟨mkT [(1, .val (.one (.ptr 1 0 0))), (38, .val (.one (.sh 5 g.ests.length (flat cEst g.ests)))), (39, one (.int .i64 g.ests.length)), (40, one (.int .i64 k))], mkH [(1, ⟨0, 25, 2, 1, cGrp g⟩)], nx, 0⟩) g.ests.length ⟨0, _, by omega, by omega, rfl, rfl⟩ ?_
  rintro n st ⟨k, nx, hk, rfl, hL, rfl⟩
  by_cases hlt : k < g.ests.length
  ·
   have hI : (k : Int) < (g.ests.length : Int) := by omega
   have hat := flat_at cEst_len g.ests k hlt
   rw [List.drop_eq_getElem_cons hlt] at hL
   have hcn := (hge _ (List.getElem_mem hlt)).2.2.1
   generalize g.ests[k] = e at *
   simp only [gcHolds] at hL
   refine awR [] [none] ?_
   simp only [(id F_gChk), seval, hI]
   refine awT ?_
   refine awK ?_
   simp only [(id F_gChk), seval]
   refine awR [] [none, none, none, none, none, none] ?_
   simp only [(id F_gChk), seval, hat, cEst]
   repeat refine ob ?_
   refine awR [] [none, none, none, none] ?_
   simp only [(id F_gChk), seval]
   refine awp_keep [1, 6, 38, 39, 40, 46, 47, 48] [1] ?_
   simp only [Later, (id F_gChk), seval]
   repeat' first|apply awS|apply awB
   refine awp_loopw (fun n st => ∃ j nx, j ≤ e.claims.length ∧ n = e.claims.length - j ∧ gcHold g.ests.length k (e.claims.drop j) = gcHold g.ests.length k e.claims ∧ st = ⟨mkT [(1, .val (.one (.ptr 1 0 0))), (6, one (.int .i64 k)), (38, .val (.one (.sh 5 g.ests.length (flat cEst g.ests)))), (39, one (.int .i64 g.ests.length)), (40, one (.int .i64 k)), (46, .val (.one (.sh 5 e.claims.length (flat cClaim e.claims)))), (47, one (.int .i64 e.claims.length)), (48, one (.int .i64 j))], mkH [(1, ⟨0, 25, 2, 1, cGrp g⟩)], nx, 0⟩) e.claims.length ⟨0, _, by omega, by omega, rfl, rfl⟩ ?_
   rintro n2 st ⟨j, nx2, hj, rfl, hM, rfl⟩
   generalize hecl : e.claims = cl at *
   by_cases hjt : j < cl.length
   ·
    have hJ : (j : Int) < (cl.length : Int) := by omega
    have hat2 := flat_at cClaim_len cl j hjt
    rw [List.drop_eq_getElem_cons hjt] at hM
    generalize cl[j] = c at *
    simp only [gcHold] at hM
    by_cases p1 : c.holder = (k : Int)
    ·
     have hh : gcHolds g.ests.length 0 g.ests = true := by rw [← hL, ← hM]; simp [p1]
     refine awR [] [none] ?_
     simp only [(id F_gChk), seval, hJ]
     refine awT ?_
     refine awK ?_
     simp only [(id F_gChk), seval]
     refine awR [] [none, none, none, none] ?_
     simp only [(id F_gChk), seval, hat2, cClaim]
     repeat refine ob ?_
     refine awR [] [none, none, none, none, none, some (56, false), some (56, false), some (56, false), some (56, false), some (56, false), some (56, false), none] ?_
     simp only [(id F_gChk), seval, p1, cGrp]
     refine awT ?_
     refine awR [] [none] ?_
     simp only [(id F_gChk), seval]
     refine awX ?_
     simp only [(id F_gChk), seval, hh]
    by_cases p2 : (g.ests.length : Int) ≤ c.holder
    ·
     have hh : gcHolds g.ests.length 0 g.ests = true := by rw [← hL, ← hM]; simp [p2]
     refine awR [] [none] ?_
     simp only [(id F_gChk), seval, hJ]
     refine awT ?_
     refine awK ?_
     simp only [(id F_gChk), seval]
     refine awR [] [none, none, none, none] ?_
     simp only [(id F_gChk), seval, hat2, cClaim]
     repeat refine ob ?_
     refine awR [] [none, none, none, none, none, some (56, false), some (56, false), some (56, false), some (56, false), some (56, false), some (56, false), none] ?_
     simp only [(id F_gChk), seval, p1, p2, cGrp]
     refine awT ?_
     refine awR [] [none] ?_
     simp only [(id F_gChk), seval]
     refine awX ?_
     simp only [(id F_gChk), seval, hh]
    refine awR [] [none] ?_
    simp only [(id F_gChk), seval, hJ]
    refine awT ?_
    refine awK ?_
    simp only [(id F_gChk), seval]
    refine awR [] [none, none, none, none] ?_
    simp only [(id F_gChk), seval, hat2, cClaim]
    repeat refine ob ?_
    refine awR [] [none, none, none, none, none, some (56, false), some (56, false), some (56, false), some (56, false), some (56, false), some (56, false), none] ?_
    simp only [(id F_gChk), seval, p1, p2, cGrp]
    refine awF ?_
    refine awK ?_
    simp only [(id F_gChk), seval]
    refine awR [] [none, none] ?_
    simp only [(id F_gChk), seval]
    repeat refine ob ?_
    refine ⟨_, wk_keep [1, 6, 38, 39, 40, 46, 47, 48] [1], cl.length - (j + 1), by omega, j + 1, nx2 + 1, by omega, rfl, ?_, ?_⟩
    ·
     rw [← hM]; simp [p1, p2]
    simp only [(id F_gChk), seval]
    try rfl
   obtain rfl : j = cl.length := by omega
   have hJ : ¬ (cl.length : Int) < (cl.length : Int) := by omega
   rw [List.drop_length] at hM
   simp only [gcHold] at hM
   refine awR [] [none] ?_
   simp only [(id F_gChk), seval, hJ]
   refine awF ?_
   refine awQ ?_
   simp only [(id F_gChk), seval]
   refine awR [] [none, none] ?_
   simp only [(id F_gChk), seval]
   repeat refine ob ?_
   refine ⟨_, wk_keep [1, 38, 39, 40] [1], g.ests.length - (k + 1), by omega, k + 1, nx2, by omega, rfl, ?_, ?_⟩
   ·
    rw [← hM] at hL; simpa using hL
   simp only [(id F_gChk), seval]
   try rfl
  obtain rfl : k = g.ests.length := by omega
  have hI : ¬ (g.ests.length : Int) < (g.ests.length : Int) := by omega
  rw [List.drop_length] at hL
  simp only [gcHolds] at hL
  refine awR [] [none] ?_
  simp only [(id F_gChk), seval, hI]
  refine awF ?_
  refine awQ ?_
  simp only [(id F_gChk), seval]
  refine ⟨_, wk_keep [1] [1], hL.symm, nx, ?_⟩
  simp only [(id F_gChk), seval]
 rintro st ⟨hh0, nx, rfl⟩
 simp only [hh0, Bool.false_eq_true, if_false]
 refine awR [] [none, none] ?_
 simp only [(id F_gChk), seval]
 refine awR [] [none, none, none, none] ?_
 simp only [(id F_gChk), seval, cGrp]
 refine awp_keep [1, 10, 68, 69, 70] [1, 66] ?_
 simp only [Later, (id F_gChk), seval]
 repeat' first|apply awS|apply awB
 refine awp_loopw (fun n st => ∃ k nx s T, k ≤ g.debts.length ∧ n = g.debts.length - k ∧ gcDebts g (g.debts.drop k) T = gcDebts g g.debts [] ∧ st = ⟨mkT [(1, .val (.one (.ptr 1 0 0))), (10, .val (.one (.own 66 s 0 0))), (68, .val (.one (.sh 4 g.debts.length (flat cDebt g.debts)))), (69, one (.int .i64 g.debts.length)), (70, one (.int .i64 k))], mkH [(1, ⟨0, 25, 2, 1, cGrp g⟩), (66, mapB s T)], nx, 0⟩) g.debts.length ⟨0, _, _, [], by omega, by omega, rfl, rfl⟩ ?_
 rintro n st ⟨k, nx, s, T, hk, rfl, hL, rfl⟩
 by_cases hlt : k < g.debts.length
 ·
  have hI : (k : Int) < (g.debts.length : Int) := by omega
  have hat := flat_at cDebt_len g.debts k hlt
  rw [List.drop_eq_getElem_cons hlt] at hL
  obtain ⟨hd1, hd2⟩ := hgd g.debts[k] (List.getElem_mem hlt)
  generalize g.debts[k] = d at *
  simp only [gcDebts] at hL
  refine awR [] [none] ?_
  simp only [(id F_gChk), seval, hI]
  refine awT ?_
  refine awK ?_
  simp only [(id F_gChk), seval]
  refine awR [] [none, none, none, none] ?_
  simp only [(id F_gChk), seval, hat, cDebt]
  repeat refine ob ?_
  refine awR [77] [none, none, none, none, none] ?_
  simp only [(id F_gChk), seval, cGrp]
  refine ⟨_, checkDebt_I g d T _ _ s ?_ (by rfl) hd1 hd2, ?_⟩
  ·
   intro x B hB
   simp only [up_apply] at hB
   split at hB
   ·
    omega
   split at hB
   ·
    omega
   split at hB
   ·
    omega
   cases hB
  rintro res H' nx' ⟨rfl, h66, hrest⟩
  have hB1 := hrest 1 (by omega) (by omega)
  simp only [up_apply, (id F_gChk), seval] at hB1
  by_cases he : (cdSpec g d T).1 = 0
  ·
   rw [if_neg (by simp [he])] at hL
   simp only [(id F_gChk), seval]
   refine awR [] [none, none] ?_
   simp only [(id F_gChk), seval, he]
   refine awF ?_
   refine awK ?_
   simp only [(id F_gChk), seval]
   refine awR [] [none, none] ?_
   simp only [(id F_gChk), seval]
   repeat refine ob ?_
   refine ⟨_, wk_keep [1, 10, 68, 69, 70] [1, 66], g.debts.length - (k + 1), by omega, k + 1, nx', s, (cdSpec g d T).2, by omega, rfl, hL, ?_⟩
   simp only [(id F_gChk), seval, h66, hB1]
   try rfl
  rw [if_pos he] at hL
  simp only [(id F_gChk), seval]
  refine awR [] [none, none] ?_
  simp only [(id F_gChk), seval, he]
  refine awT ?_
  refine awR [] [none, none] ?_
  simp only [(id F_gChk), seval]
  refine awX ?_
  simp only [(id F_gChk), seval, hL]
 obtain rfl : k = g.debts.length := by omega
 have hI : ¬ (g.debts.length : Int) < (g.debts.length : Int) := by omega
 rw [List.drop_length] at hL
 simp only [gcDebts] at hL
 refine awR [] [none] ?_
 simp only [(id F_gChk), seval, hI]
 refine awF ?_
 refine awQ ?_
 simp only [(id F_gChk), seval]
 refine awR [] [none] ?_
 simp only [(id F_gChk), seval]
 refine awX ?_
 simp only [(id F_gChk), seval, ← hL]
end Go.Proofs.YtokmkopihhnggaaDoor
end
section
/- The reference: member, earlier; walked by the abstract machine. -/
namespace Go.Proofs.YtokmkopihhnggaaDoor
open Go Go.RowKit
end Go.Proofs.YtokmkopihhnggaaDoor
end
