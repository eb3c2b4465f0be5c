/- The reference: CheckEstate; walked by the abstract machine. -/
import Derived.Test.YtmbahnmhicdjfaaGreatDoorRw2M
set_option linter.unusedVariables false
set_option linter.unusedSimpArgs false
set_option linter.defProp false
set_option linter.unnecessarySimpa false
section
/- The reference: CheckEstate; walked by the abstract machine. -/
namespace Go.Proofs.YtmbahnmhicdjfaaGreatDoor
open Go Go.RowKit
noncomputable def ceAgrs (g : GEst) (i : Nat) : List GAgr → Int
  | [] => 0
  | a :: l => if agS g.claims.length (fun c => mbE c (g.agrs.take i)) a ≠ 0 then agS g.claims.length (fun c => mbE c (g.agrs.take i)) a else ceAgrs g (i + 1) l
noncomputable def ceSpec (e : GEst) : Int := if 24 < e.claims.length ∨ 12 < e.agrs.length then 2 else if qSgn (qOf e.cash) < 0 then 7 else if wcClaims e.claims ≠ 0 then wcClaims e.claims
  else ceAgrs e 0 e.agrs
def estOK2 (e : GEst) : Prop := estOK e ∧ ∀ a ∈ e.agrs, a.length ≤ 1000000000000
def F_rEst := And.intro zS (And.intro tf21 (And.intro tf23 (And.intro tf24 (And.intro tf25 (And.intro tf26 (And.intro tf27 (And.intro tf28 (And.intro tf29 (And.intro tf30 (And.intro tf31 (And.intro tf32 (And.intro tf34 (And.intro tf38 (And.intro tf18 (And.intro tf12 (tf36))))))))))))))))
set_option maxHeartbeats 8000000 in
theorem rEstate_A (g : GEst) (hg : estOK2 g) : ACall Tryz.prog 35 [.agg (cEst g)] (one (.int .i64 (ceSpec g))) := by
 obtain ⟨⟨⟨hq1, hq2⟩, hcl, hcn, hag⟩, hal⟩ := hg
 have hS0 := bSign g.cash hq1 hq2
 unfold ceSpec
 refine acall_of Tryz.func35 rfl (by decide) (N := 69) rfl (by simp) (R := [.tmp 2]) rfl fun en k0 => ?_
 refine awR [] [none, none] ?_
 simp only [(id F_rEst), seval, cEst]
 by_cases h24 : 24 < g.claims.length
 ·
  have hI : (24 : Int) < (g.claims.length : Int) := by omega
  refine awR [] [none, none, none, none, none, some (11, false), some (11, false), some (11, false), some (11, false), none] ?_
  simp only [(id F_rEst), seval, hI, cEst]
  refine awT ?_
  refine awR [] [none] ?_
  simp only [(id F_rEst), seval]
  refine awX ?_
  simp only [(id F_rEst), seval, h24]
 have hI24 : ¬ (24 : Int) < (g.claims.length : Int) := by omega
 by_cases h12 : 12 < g.agrs.length
 ·
  have hI : (12 : Int) < (g.agrs.length : Int) := by omega
  refine awR [] [none, none, none, none, none, some (11, false), some (11, false), some (11, false), some (11, false), none] ?_
  simp only [(id F_rEst), seval, hI24, hI, cEst]
  refine awT ?_
  refine awR [] [none] ?_
  simp only [(id F_rEst), seval]
  refine awX ?_
  simp only [(id F_rEst), seval, h12]
 have hI12 : ¬ (12 : Int) < (g.agrs.length : Int) := by omega
 by_cases hq : qSgn (qOf g.cash) < 0
 ·
  repeat' first|apply awS|apply awB
  refine awR [] [none, none, none, none, none, some (11, false), some (11, false), some (11, false), some (11, false), none] ?_
  simp only [(id F_rEst), seval, hI24, hI12, cEst]
  refine awF ?_
  refine awK ?_
  simp only [(id F_rEst), seval]
  refine awR [] [none, none, none, none] ?_
  simp only [(id F_rEst), seval, cEst]
  refine ⟨_, hS0, rfl, ?_⟩
  simp only [Later, (id F_rEst), seval, hq]
  refine awT ?_
  refine awR [] [none] ?_
  simp only [(id F_rEst), seval]
  refine awX ?_
  simp only [(id F_rEst), seval, h24, h12, hq, or_self]
 refine awR [] [none, none, none, none, none, some (11, false), some (11, false), some (11, false), some (11, false), none] ?_
 simp only [(id F_rEst), seval, hI24, hI12, cEst]
 refine awF ?_
 refine awK ?_
 simp only [(id F_rEst), seval]
 refine awR [] [none, none, none, none] ?_
 simp only [(id F_rEst), seval, cEst]
 refine ⟨_, hS0, rfl, ?_⟩
 simp only [Later, (id F_rEst), seval, hq]
 refine awF ?_
 refine awK ?_
 simp only [(id F_rEst), seval]
 refine awR [] [none] ?_
 simp only [(id F_rEst), seval]
 refine awp_keep [1, 3] [1] ?_
 simp only [Later, (id F_rEst), seval]
 refine awp_cutA (M := fun st => wcClaims g.claims = 0 ∧ ∃ nx, st = ⟨mkT [(1, .val (.one (.ptr 1 0 0)))], mkH [(1, ⟨0, 36, 5, 1, cEst g⟩)], nx, 0⟩) ?_ ?_
 ·
  repeat' first|apply awS|apply awB
  refine awp_loopw (fun n st => ∃ k nx, k ≤ g.claims.length ∧ n = g.claims.length - k ∧ wcClaims (g.claims.drop k) = wcClaims g.claims ∧ st = ⟨mkT [(1, .val (.one (.ptr 1 0 0))), (3, one (.int .i64 k))], mkH [(1, ⟨0, 36, 5, 1, cEst g⟩)], nx, 0⟩) g.claims.length ⟨0, _, by omega, by omega, rfl, rfl⟩ ?_
  rintro n st ⟨k, nx, hk, rfl, hL, rfl⟩
  by_cases hlt : k < g.claims.length
  ·
   have hI : (k : Int) < (g.claims.length : Int) := by omega
   have hat := flat_at cClaim_len g.claims k hlt
   rw [List.drop_eq_getElem_cons hlt] at hL
   have hS := bSign g.claims[k].amount (hcl _ (List.getElem_mem hlt)).1 (hcl _ (List.getElem_mem hlt)).2
   generalize g.claims[k] = c at *
   simp only [wcClaims] at hL
   by_cases p1 : c.holder < -1
   ·
    repeat' first|apply awS|apply awB
    refine awR [] [none, none, none, none, none] ?_
    simp only [(id F_rEst), seval, hI, cEst]
    refine awT ?_
    refine awK ?_
    simp only [(id F_rEst), seval]
    refine awR [] [none, none, none, none, none, none, none] ?_
    simp only [(id F_rEst), seval, hat, cEst, cClaim]
    repeat refine ob ?_
    refine awR [] [none, none, none, none, some (37, false), some (37, false), some (37, false), none, none] ?_
    simp only [(id F_rEst), seval, p1]
    refine awT ?_
    refine awR [] [none] ?_
    simp only [(id F_rEst), seval]
    have hR : wcClaims g.claims = 19 := by rw [← hL]; simp [p1]
    refine awX ?_
    simp only [(id F_rEst), seval, h24, h12, hq, if_false, or_self, hR, Int.reduceEq]
   by_cases p2 : 8 ≤ c.holder
   ·
    repeat' first|apply awS|apply awB
    refine awR [] [none, none, none, none, none] ?_
    simp only [(id F_rEst), seval, hI, cEst]
    refine awT ?_
    refine awK ?_
    simp only [(id F_rEst), seval]
    refine awR [] [none, none, none, none, none, none, none] ?_
    simp only [(id F_rEst), seval, hat, cEst, cClaim]
    repeat refine ob ?_
    refine awR [] [none, none, none, none, some (37, false), some (37, false), some (37, false), none, none] ?_
    simp only [(id F_rEst), seval, p1, p2]
    refine awT ?_
    refine awR [] [none] ?_
    simp only [(id F_rEst), seval]
    have hR : wcClaims g.claims = 19 := by rw [← hL]; simp [p2]
    refine awX ?_
    simp only [(id F_rEst), seval, h24, h12, hq, if_false, or_self, hR, Int.reduceEq]
   by_cases p3 : c.rank < 0
   ·
    repeat' first|apply awS|apply awB
    refine awR [] [none, none, none, none, none] ?_
    simp only [(id F_rEst), seval, hI, cEst]
    refine awT ?_
    refine awK ?_
    simp only [(id F_rEst), seval]
    refine awR [] [none, none, none, none, none, none, none] ?_
    simp only [(id F_rEst), seval, hat, cEst, cClaim]
    repeat refine ob ?_
    refine awR [] [none, none, none, none, some (37, false), some (37, false), some (37, false), none, none] ?_
    simp only [(id F_rEst), seval, p1, p2]
    refine awF ?_
    refine awR [] [none, none, none, none, some (46, false), some (46, false), some (46, false), none, none] ?_
    simp only [(id F_rEst), seval, p3]
    refine awT ?_
    refine awR [] [none] ?_
    simp only [(id F_rEst), seval]
    have hR : wcClaims g.claims = 1 := by rw [← hL]; simp [p1, p2, p3]
    refine awX ?_
    simp only [(id F_rEst), seval, h24, h12, hq, if_false, or_self, hR, Int.reduceEq]
   by_cases p4 : 7 < c.rank
   ·
    repeat' first|apply awS|apply awB
    refine awR [] [none, none, none, none, none] ?_
    simp only [(id F_rEst), seval, hI, cEst]
    refine awT ?_
    refine awK ?_
    simp only [(id F_rEst), seval]
    refine awR [] [none, none, none, none, none, none, none] ?_
    simp only [(id F_rEst), seval, hat, cEst, cClaim]
    repeat refine ob ?_
    refine awR [] [none, none, none, none, some (37, false), some (37, false), some (37, false), none, none] ?_
    simp only [(id F_rEst), seval, p1, p2]
    refine awF ?_
    refine awR [] [none, none, none, none, some (46, false), some (46, false), some (46, false), none, none] ?_
    simp only [(id F_rEst), seval, p3, p4]
    refine awT ?_
    refine awR [] [none] ?_
    simp only [(id F_rEst), seval]
    have hR : wcClaims g.claims = 1 := by rw [← hL]; simp [p1, p2, p4]
    refine awX ?_
    simp only [(id F_rEst), seval, h24, h12, hq, if_false, or_self, hR, Int.reduceEq]
   by_cases hsg : qSgn (qOf c.amount) < 0
   ·
    repeat' first|apply awS|apply awB
    refine awR [] [none, none, none, none, none] ?_
    simp only [(id F_rEst), seval, hI, cEst]
    refine awT ?_
    refine awK ?_
    simp only [(id F_rEst), seval]
    refine awR [] [none, none, none, none, none, none, none] ?_
    simp only [(id F_rEst), seval, hat, cEst, cClaim]
    repeat refine ob ?_
    refine awR [] [none, none, none, none, some (37, false), some (37, false), some (37, false), none, none] ?_
    simp only [(id F_rEst), seval, p1, p2]
    refine awF ?_
    refine awR [] [none, none, none, none, some (46, false), some (46, false), some (46, false), none, none] ?_
    simp only [(id F_rEst), seval, p3, p4]
    refine awF ?_
    refine awR [] [none, none, none, none, none] ?_
    simp only [(id F_rEst), seval]
    refine ⟨_, hS, rfl, ?_⟩
    simp only [Later, (id F_rEst), seval, hsg]
    refine awT ?_
    refine awR [] [none] ?_
    simp only [(id F_rEst), seval]
    have hR : wcClaims g.claims = 7 := by rw [← hL]; simp [p1, p2, p3, p4, hsg]
    refine awX ?_
    simp only [(id F_rEst), seval, h24, h12, hq, if_false, or_self, hR, Int.reduceEq]
   repeat' first|apply awS|apply awB
   refine awR [] [none, none, none, none, none] ?_
   simp only [(id F_rEst), seval, hI, cEst]
   refine awT ?_
   refine awK ?_
   simp only [(id F_rEst), seval]
   refine awR [] [none, none, none, none, none, none, none] ?_
   simp only [(id F_rEst), seval, hat, cEst, cClaim]
   repeat refine ob ?_
   refine awR [] [none, none, none, none, some (37, false), some (37, false), some (37, false), none, none] ?_
   simp only [(id F_rEst), seval, p1, p2]
   refine awF ?_
   refine awR [] [none, none, none, none, some (46, false), some (46, false), some (46, false), none, none] ?_
   simp only [(id F_rEst), seval, p3, p4]
   refine awF ?_
   refine awR [] [none, none, none, none, none] ?_
   simp only [(id F_rEst), seval]
   refine ⟨_, hS, rfl, ?_⟩
   simp only [Later, (id F_rEst), seval, hsg]
   refine awF ?_
   refine awK ?_
   simp only [(id F_rEst), seval]
   refine awR [] [none, none, none] ?_
   simp only [(id F_rEst), seval]
   repeat refine ob ?_
   refine ⟨_, wk_keep [1, 3] [1], g.claims.length - (k + 1), by omega, k + 1, nx + 1, by omega, rfl, ?_, ?_⟩
   ·
    rw [← hL]; simp [p1, p2, p3, p4, hsg]
   simp only [(id F_rEst), seval]
   try rfl
  obtain rfl : k = g.claims.length := by omega
  have hI : ¬ (g.claims.length : Int) < (g.claims.length : Int) := by omega
  rw [List.drop_length] at hL
  simp only [wcClaims] at hL
  refine awR [] [none, none, none, none, none] ?_
  simp only [(id F_rEst), seval, hI, cEst]
  refine awF ?_
  refine awQ ?_
  simp only [(id F_rEst), seval]
  refine ⟨_, wk_keep [1] [1], hL.symm, nx, ?_⟩
  simp only [(id F_rEst), seval]
 rintro st ⟨hw0, nx, rfl⟩
 simp only [h24, h12, hq, or_self, if_false, hw0, ne_eq, not_true_eq_false]
 refine awR [] [none] ?_
 simp only [(id F_rEst), seval]
 refine awp_keep [1, 5] [1] ?_
 simp only [Later, (id F_rEst), seval]
 repeat' first|apply awS|apply awB
 refine awp_loopw (fun n st => ∃ k nx, k ≤ g.agrs.length ∧ n = g.agrs.length - k ∧ ceAgrs g k (g.agrs.drop k) = ceAgrs g 0 g.agrs ∧ st = ⟨mkT [(1, .val (.one (.ptr 1 0 0))), (5, one (.int .i64 k))], mkH [(1, ⟨0, 36, 5, 1, cEst g⟩)], nx, 0⟩) g.agrs.length ⟨0, _, by omega, by omega, rfl, rfl⟩ ?_
 rintro n st ⟨k, nx, hk, rfl, hL, rfl⟩
 by_cases hlt : k < g.agrs.length
 ·
  have hI : (k : Int) < (g.agrs.length : Int) := by omega
  rw [List.drop_eq_getElem_cons hlt] at hL
  have hA := agreement_A g k hlt (by omega) (fun a ha => ⟨hal a ha, (hag a ha).1⟩) (hag _ (List.getElem_mem hlt))
  simp only [ceAgrs] at hL
  generalize agS g.claims.length (fun c => mbE c (g.agrs.take k)) g.agrs[k] = r at *
  by_cases he : r = 0
  ·
   rw [if_neg (by simp [he])] at hL
   refine awR [] [none, none, none, none, none] ?_
   simp only [(id F_rEst), seval, hI, cEst]
   refine awT ?_
   refine awK ?_
   simp only [(id F_rEst), seval]
   refine awR [] [none, none, none, none] ?_
   simp only [(id F_rEst), seval, cEst, flat_pure cClaim_pure, flat_pure cAgr_pure]
   refine ⟨_, hA, rfl, ?_⟩
   simp only [Later, (id F_rEst), seval, he]
   refine awR [] [none, none] ?_
   simp only [(id F_rEst), seval]
   refine awF ?_
   refine awK ?_
   simp only [(id F_rEst), seval]
   refine awR [] [none, none, none] ?_
   simp only [(id F_rEst), seval]
   repeat refine ob ?_
   refine ⟨_, wk_keep [1, 5] [1], g.agrs.length - (k + 1), by omega, k + 1, nx, by omega, rfl, hL, ?_⟩
   simp only [(id F_rEst), seval]
   try rfl
  rw [if_pos he] at hL
  refine awR [] [none, none, none, none, none] ?_
  simp only [(id F_rEst), seval, hI, cEst]
  refine awT ?_
  refine awK ?_
  simp only [(id F_rEst), seval]
  refine awR [] [none, none, none, none] ?_
  simp only [(id F_rEst), seval, cEst, flat_pure cClaim_pure, flat_pure cAgr_pure]
  refine ⟨_, hA, rfl, ?_⟩
  simp only [Later, (id F_rEst), seval, he]
  refine awR [] [none, none] ?_
  simp only [(id F_rEst), seval, he]
  refine awT ?_
  refine awR [] [none, none] ?_
  simp only [(id F_rEst), seval]
  refine awX ?_
  simp only [(id F_rEst), seval, hL]
 obtain rfl : k = g.agrs.length := by omega
 have hI : ¬ (g.agrs.length : Int) < (g.agrs.length : Int) := by omega
 rw [List.drop_length] at hL
 simp only [ceAgrs] at hL
 refine awR [] [none, none, none, none, none] ?_
 simp only [(id F_rEst), seval, hI, cEst]
 refine awF ?_
 refine awQ ?_
 simp only [(id F_rEst), seval]
 refine awR [] [none] ?_
 simp only [(id F_rEst), seval]
 refine awX ?_
 simp only [(id F_rEst), seval, ← hL]
end Go.Proofs.YtmbahnmhicdjfaaGreatDoor
end
section
/- The reference: claim, leg; walked by the abstract machine. -/
namespace Go.Proofs.YtmbahnmhicdjfaaGreatDoor
open Go Go.RowKit
end Go.Proofs.YtmbahnmhicdjfaaGreatDoor
end
