/- The reference: CheckEstate; walked by the abstract machine. -/
import Derived.Test.YtokmkopihhnggaaGreatDoorRw1M
set_option linter.unusedVariables false
set_option linter.unusedSimpArgs false
set_option linter.defProp false
namespace Go.Proofs.YtokmkopihhnggaaGreatDoor
open Go Go.RowKit
noncomputable def ceAgrs (g : GEst) (i : Nat) : List GAgr → Int
 | [] => 0
 | a :: l => if agS g.claims.length (fun c => mbE c (g.agrs.take i)) a ≠ 0 then agS g.claims.length (fun c => mbE c (g.agrs.take i)) a else ceAgrs g (i + 1) l
noncomputable def ceSpec (e : GEst) : Int := if 24 < e.claims.length ∨ 12 < e.agrs.length then 2 else if qSgn (qOf e.cash) < 0 then 7 else if wcClaims e.claims ≠ 0 then wcClaims e.claims
 else ceAgrs e 0 e.agrs
def estOK2 (e : GEst) : Prop := estOK e ∧ ∀ a ∈ e.agrs, a.length ≤ 1000000000000
def F54 := And.intro zS (And.intro tf21 (And.intro tf23 (And.intro tf24 (And.intro tf25 (And.intro tf26 (And.intro tf27 (And.intro tf28 (And.intro tf29 (And.intro tf30 (And.intro tf31 (And.intro tf32 (And.intro tf34 (And.intro tf75 (And.intro tf18 (And.intro tf12 (tf36))))))))))))))))
set_option maxHeartbeats 8000000 in
theorem rEstate_A (g : GEst) (hg : estOK2 g) : ACall Tryz.prog 54 [.agg (cEst g)] (one (.int .i64 (ceSpec g))) := by
 obtain ⟨⟨⟨hq1, hq2⟩, hcl, hcn, hag⟩, hal⟩ := hg
 have hS0 := bSign g.cash hq1 hq2
 unfold ceSpec
 refine acall_of Tryz.func54 rfl (by decide) (N := 69) rfl (by simp) (R := [.tmp 2]) rfl fun en k0 => ?_
 refine awN ?_
 simp only [(id F54), seval, cEst]
 by_cases h24 : 24 < g.claims.length
 ·
  have hI : (24 : Int) < (g.claims.length : Int) := by omega
  refine awR [] [none, none, none, none, none, some (11, false), some (11, false), some (11, false), some (11, false), none] ?_
  simp only [(id F54), seval, hI, cEst]
  refine awT ?_
  refine awN ?_
  simp only [(id F54), seval]
  refine awX ?_
  simp only [(id F54), seval, h24]
 have hI24 : ¬ (24 : Int) < (g.claims.length : Int) := by omega
 by_cases h12 : 12 < g.agrs.length
 ·
  have hI : (12 : Int) < (g.agrs.length : Int) := by omega
  refine awR [] [none, none, none, none, none, some (11, false), some (11, false), some (11, false), some (11, false), none] ?_
  simp only [(id F54), seval, hI24, hI, cEst]
  refine awT ?_
  refine awN ?_
  simp only [(id F54), seval]
  refine awX ?_
  simp only [(id F54), seval, h12]
 have hI12 : ¬ (12 : Int) < (g.agrs.length : Int) := by omega
 by_cases hq : qSgn (qOf g.cash) < 0
 ·
  repeat' first|apply awS|apply awB
  refine awR [] [none, none, none, none, none, some (11, false), some (11, false), some (11, false), some (11, false), none] ?_
  simp only [(id F54), seval, hI24, hI12, cEst]
  refine awF ?_
  refine awK ?_
  simp only [(id F54), seval]
  refine awN ?_
  simp only [(id F54), seval, cEst]
  refine ⟨_, hS0, rfl, ?_⟩
  simp only [Later, (id F54), seval, hq]
  refine awT ?_
  refine awN ?_
  simp only [(id F54), seval]
  refine awX ?_
  simp only [(id F54), seval, h24, h12, hq, or_self]
 refine awR [] [none, none, none, none, none, some (11, false), some (11, false), some (11, false), some (11, false), none] ?_
 simp only [(id F54), seval, hI24, hI12, cEst]
 refine awF ?_
 refine awK ?_
 simp only [(id F54), seval]
 refine awN ?_
 simp only [(id F54), seval, cEst]
 refine ⟨_, hS0, rfl, ?_⟩
 simp only [Later, (id F54), seval, hq]
 refine awF ?_
 refine awK ?_
 simp only [(id F54), seval]
 refine awN ?_
 simp only [(id F54), seval]
 refine awp_keep [1, 3] [1] ?_
 simp only [Later, (id F54), seval]
 refine awp_cutA (M := fun st => wcClaims g.claims = 0 ∧ ∃ nx, st = ⟨mkT [(1, .val (.one (.ptr 1 0 0)))], mkH [(1, ⟨0, 36, 5, 1, cEst g⟩)], nx, 0⟩) ?_ ?_
 ·
  repeat' first|apply awS|apply awB
  refine awp_loopw (fun n st => ∃ k nx, k ≤ g.claims.length ∧ n = g.claims.length - k ∧ wcClaims (g.claims.drop k) = wcClaims g.claims ∧ st = ⟨mkT [(1, .val (.one (.ptr 1 0 0))), (3, one (.int .i64 k))], mkH [(1, ⟨0, 36, 5, 1, cEst g⟩)], nx, 0⟩) g.claims.length ⟨0, _, by omega, by omega, rfl, rfl⟩ ?_
  rintro n st ⟨k, nx, hk, rfl, hL, rfl⟩
  by_cases hlt : k < g.claims.length
  ·
   have hI : (k : Int) < (g.claims.length : Int) := by omega
   have hat := flat_at cClaim_len g.claims k hlt
   rw [List.drop_eq_getElem_cons hlt] at hL
   have hS := bSign g.claims[k].amount (hcl _ (List.getElem_mem hlt)).1 (hcl _ (List.getElem_mem hlt)).2
   generalize g.claims[k] = c at *
   simp only [wcClaims] at hL
   by_cases p1 : c.holder < -1
   ·
    repeat' first|apply awS|apply awB
    refine awN ?_
    simp only [(id F54), seval, hI, cEst]
    refine awT ?_
    refine awK ?_
    simp only [(id F54), seval]
    refine awN ?_
    simp only [(id F54), seval, hat, cEst, cClaim]
    repeat refine ob ?_
    refine awR [] [none, none, none, none, some (37, false), some (37, false), some (37, false), none, none] ?_
    simp only [(id F54), seval, p1]
    refine awT ?_
    refine awN ?_
    simp only [(id F54), seval]
    have hR : wcClaims g.claims = 19 := by rw [← hL]; simp [p1]
    refine awX ?_
    simp only [(id F54), seval, h24, h12, hq, if_false, or_self, hR, Int.reduceEq]
   by_cases p2 : 8 ≤ c.holder
   ·
    repeat' first|apply awS|apply awB
    refine awN ?_
    simp only [(id F54), seval, hI, cEst]
    refine awT ?_
    refine awK ?_
    simp only [(id F54), seval]
    refine awN ?_
    simp only [(id F54), seval, hat, cEst, cClaim]
    repeat refine ob ?_
    refine awR [] [none, none, none, none, some (37, false), some (37, false), some (37, false), none, none] ?_
    simp only [(id F54), seval, p1, p2]
    refine awT ?_
    refine awN ?_
    simp only [(id F54), seval]
    have hR : wcClaims g.claims = 19 := by rw [← hL]; simp [p2]
    refine awX ?_
    simp only [(id F54), seval, h24, h12, hq, if_false, or_self, hR, Int.reduceEq]
   by_cases p3 : c.rank < 0
   ·
    repeat' first|apply awS|apply awB
    refine awN ?_
    simp only [(id F54), seval, hI, cEst]
    refine awT ?_
    refine awK ?_
    simp only [(id F54), seval]
    refine awN ?_
    simp only [(id F54), seval, hat, cEst, cClaim]
    repeat refine ob ?_
    refine awR [] [none, none, none, none, some (37, false), some (37, false), some (37, false), none, none] ?_
    simp only [(id F54), seval, p1, p2]
    refine awF ?_
    refine awR [] [none, none, none, none, some (46, false), some (46, false), some (46, false), none, none] ?_
    simp only [(id F54), seval, p3]
    refine awT ?_
    refine awN ?_
    simp only [(id F54), seval]
    have hR : wcClaims g.claims = 1 := by rw [← hL]; simp [p1, p2, p3]
    refine awX ?_
    simp only [(id F54), seval, h24, h12, hq, if_false, or_self, hR, Int.reduceEq]
   by_cases p4 : 7 < c.rank
   ·
    repeat' first|apply awS|apply awB
    refine awN ?_
    simp only [(id F54), seval, hI, cEst]
    refine awT ?_
    refine awK ?_
    simp only [(id F54), seval]
    refine awN ?_
    simp only [(id F54), seval, hat, cEst, cClaim]
    repeat refine ob ?_
    refine awR [] [none, none, none, none, some (37, false), some (37, false), some (37, false), none, none] ?_
    simp only [(id F54), seval, p1, p2]
    refine awF ?_
    refine awR [] [none, none, none, none, some (46, false), some (46, false), some (46, false), none, none] ?_
    simp only [(id F54), seval, p3, p4]
    refine awT ?_
    refine awN ?_
    simp only [(id F54), seval]
    have hR : wcClaims g.claims = 1 := by rw [← hL]; simp [p1, p2, p4]
    refine awX ?_
    simp only [(id F54), seval, h24, h12, hq, if_false, or_self, hR, Int.reduceEq]
   by_cases hsg : qSgn (qOf c.amount) < 0
   ·
    repeat' first|apply awS|apply awB
    refine awN ?_
    simp only [(id F54), seval, hI, cEst]
    refine awT ?_
    refine awK ?_
    simp only [(id F54), seval]
    refine awN ?_
    simp only [(id F54), seval, hat, cEst, cClaim]
    repeat refine ob ?_
    refine awR [] [none, none, none, none, some (37, false), some (37, false), some (37, false), none, none] ?_
    simp only [(id F54), seval, p1, p2]
    refine awF ?_
    refine awR [] [none, none, none, none, some (46, false), some (46, false), some (46, false), none, none] ?_
    simp only [(id F54), seval, p3, p4]
    refine awF ?_
    refine awN ?_
    simp only [(id F54), seval]
    refine ⟨_, hS, rfl, ?_⟩
    simp only [Later, (id F54), seval, hsg]
    refine awT ?_
    refine awN ?_
    simp only [(id F54), seval]
    have hR : wcClaims g.claims = 7 := by rw [← hL]; simp [p1, p2, p3, p4, hsg]
    refine awX ?_
    simp only [(id F54), seval, h24, h12, hq, if_false, or_self, hR, Int.reduceEq]
   repeat' first|apply awS|apply awB
   refine awN ?_
   simp only [(id F54), seval, hI, cEst]
   refine awT ?_
   refine awK ?_
   simp only [(id F54), seval]
   refine awN ?_
   simp only [(id F54), seval, hat, cEst, cClaim]
   repeat refine ob ?_
   refine awR [] [none, none, none, none, some (37, false), some (37, false), some (37, false), none, none] ?_
   simp only [(id F54), seval, p1, p2]
   refine awF ?_
   refine awR [] [none, none, none, none, some (46, false), some (46, false), some (46, false), none, none] ?_
   simp only [(id F54), seval, p3, p4]
   refine awF ?_
   refine awN ?_
   simp only [(id F54), seval]
   refine ⟨_, hS, rfl, ?_⟩
   simp only [Later, (id F54), seval, hsg]
   refine awF ?_
   refine awK ?_
   simp only [(id F54), seval]
   refine awN ?_
   simp only [(id F54), seval]
   repeat refine ob ?_
   refine ⟨_, wk_keep [1, 3] [1], g.claims.length - (k + 1), by omega, k + 1, nx + 1, by omega, rfl, ?_, ?_⟩
   ·
    rw [← hL]; simp [p1, p2, p3, p4, hsg]
   simp only [(id F54), seval]
   try rfl
  obtain rfl : k = g.claims.length := by omega
  have hI : ¬ (g.claims.length : Int) < (g.claims.length : Int) := by omega
  rw [List.drop_length] at hL
  simp only [wcClaims] at hL
  refine awN ?_
  simp only [(id F54), seval, hI, cEst]
  refine awF ?_
  refine awQ ?_
  simp only [(id F54), seval]
  refine ⟨_, wk_keep [1] [1], hL.symm, nx, ?_⟩
  simp only [(id F54), seval]
 rintro st ⟨hw0, nx, rfl⟩
 simp only [h24, h12, hq, or_self, if_false, hw0, ne_eq, not_true_eq_false]
 refine awN ?_
 simp only [(id F54), seval]
 refine awp_keep [1, 5] [1] ?_
 simp only [Later, (id F54), seval]
 repeat' first|apply awS|apply awB
 refine awp_loopw (fun n st => ∃ k nx, k ≤ g.agrs.length ∧ n = g.agrs.length - k ∧ ceAgrs g k (g.agrs.drop k) = ceAgrs g 0 g.agrs ∧ st = ⟨mkT [(1, .val (.one (.ptr 1 0 0))), (5, one (.int .i64 k))], mkH [(1, ⟨0, 36, 5, 1, cEst g⟩)], nx, 0⟩) g.agrs.length ⟨0, _, by omega, by omega, rfl, rfl⟩ ?_
 rintro n st ⟨k, nx, hk, rfl, hL, rfl⟩
 by_cases hlt : k < g.agrs.length
 ·
  have hI : (k : Int) < (g.agrs.length : Int) := by omega
  rw [List.drop_eq_getElem_cons hlt] at hL
  have hA := agreement_A g k hlt (by omega) (fun a ha => ⟨hal a ha, (hag a ha).1⟩) (hag _ (List.getElem_mem hlt))
  simp only [ceAgrs] at hL
  generalize agS g.claims.length (fun c => mbE c (g.agrs.take k)) g.agrs[k] = r at *
  by_cases he : r = 0
  ·
   rw [if_neg (by simp [he])] at hL
   refine awN ?_
   simp only [(id F54), seval, hI, cEst]
   refine awT ?_
   refine awK ?_
   simp only [(id F54), seval]
   refine awN ?_
   simp only [(id F54), seval, cEst, flat_pure cClaim_pure, flat_pure cAgr_pure]
   refine ⟨_, hA, rfl, ?_⟩
   simp only [Later, (id F54), seval, he]
   refine awN ?_
   simp only [(id F54), seval]
   refine awF ?_
   refine awK ?_
   simp only [(id F54), seval]
   refine awN ?_
   simp only [(id F54), seval]
   repeat refine ob ?_
   refine ⟨_, wk_keep [1, 5] [1], g.agrs.length - (k + 1), by omega, k + 1, nx, by omega, rfl, hL, ?_⟩
   simp only [(id F54), seval]
   try rfl
  rw [if_pos he] at hL
  refine awN ?_
  simp only [(id F54), seval, hI, cEst]
  refine awT ?_
  refine awK ?_
  simp only [(id F54), seval]
  refine awN ?_
  simp only [(id F54), seval, cEst, flat_pure cClaim_pure, flat_pure cAgr_pure]
  refine ⟨_, hA, rfl, ?_⟩
  simp only [Later, (id F54), seval, he]
  refine awN ?_
  simp only [(id F54), seval, he]
  refine awT ?_
  refine awN ?_
  simp only [(id F54), seval]
  refine awX ?_
  simp only [(id F54), seval, hL]
 obtain rfl : k = g.agrs.length := by omega
 have hI : ¬ (g.agrs.length : Int) < (g.agrs.length : Int) := by omega
 rw [List.drop_length] at hL
 simp only [ceAgrs] at hL
 refine awN ?_
 simp only [(id F54), seval, hI, cEst]
 refine awF ?_
 refine awQ ?_
 simp only [(id F54), seval]
 refine awN ?_
 simp only [(id F54), seval]
 refine awX ?_
 simp only [(id F54), seval, ← hL]
def lgT (l0 : Leg) : List Leg → Nat → Option Nat
 | [], _ => none
 | x :: t, j => if x.1 = l0.1 ∧ x.2 = l0.2 then some j else lgT l0 t (j + 1)
def lgD (l0 : Leg) : List GDebt → Nat → Option (Nat × Nat)
 | [], _ => none
 | d :: ds, i => match lgT l0 d.legs 0 with
  | some j => some (i, j)
  | none => lgD l0 ds (i + 1)
def lgR : Option (Nat × Nat) → AV
 | some x => .tup [.one (.lit (.int .i64 (x.1 : Int))), .one (.lit (.int .i64 (x.2 : Int))), .one (.lit (.bool true))]
 | none => .tup [.one (.lit (.int .i64 0)), .one (.lit (.int .i64 0)), .one (.lit (.bool false))]
def F55 := And.intro zS (And.intro tf21 (And.intro tf109 (And.intro tf24 (And.intro tf110 (And.intro tf29 (And.intro tf111 (And.intro tf96 (And.intro tf97 (And.intro tf32 (And.intro tf112 (And.intro tf34 (And.intro tf12 (tf36)))))))))))))
theorem claim_A (g : GGrp) (l : Leg) (h : inEsts g.ests l = true) :
  ACall Tryz.prog 109 [.agg (cGrp g), .agg (cLeg l)] (.val (.agg (cClaim (claimAt g.ests l)))) := by
 simp only [inEsts, Bool.and_eq_true, decide_eq_true_eq] at h
 obtain ⟨⟨⟨h1, h2⟩, h3⟩, h4⟩ := h
 have a1 := flat_get cEst_len g.ests l.1 ztEst h1 h2
 have a2 := flat_get cClaim_len (g.ests.getD l.1.toNat ztEst).claims l.2 default h3 h4
 unfold claimAt
 generalize g.ests.getD l.1.toNat ztEst = e at *
 generalize e.claims.getD l.2.toNat default = c at *
 refine acall_of Tryz.func109 rfl (by decide) (N := 16) rfl (by simp) (R := [.cell 4 38]) rfl fun en k0 => ?_
 refine awN ?_
 simp only [(id F55), seval, cGrp, cLeg]
 refine awD (scT 0 11 (scq [22] .nil)) [none, none, none, none, none, none, none, none, none, none, none, none] ?_
 simp only [(id F55), seval, a1, a2, cEst, cClaim]
 refine ⟨⟨h1, h2⟩, ⟨h3, h4⟩, ?_⟩
 refine awX ?_
 simp only [(id F55), seval]
def F56 := And.intro zS (And.intro tf90 (And.intro tf91 (And.intro tf92 (And.intro tf93 (And.intro tf94 (And.intro tf95 (And.intro tf96 (And.intro tf97 (And.intro tf98 (And.intro tf99 (tf12)))))))))))
set_option maxHeartbeats 4000000 in
theorem leg_A (g : GGrp) (l0 : Leg) (hn : g.debts.length ≤ 1000000000000) (hl : ∀ d ∈ g.debts, d.legs.length ≤ 1000000000000) :
  ACall Tryz.prog 108 [.agg (cGrp g), .one (.lit (.int .i64 l0.1)), .one (.lit (.int .i64 l0.2))] (lgR (lgD l0 g.debts 0)) := by
 refine acall_of Tryz.func108 rfl (by decide) (N := 57) rfl (by simp) (R := [.tmp 6, .tmp 7, .tmp 8]) rfl fun en k0 => ?_
 refine awN ?_
 simp only [(id F56), seval, cGrp]
 refine awN ?_
 simp only [(id F56), seval]
 refine awp_keep [1, 2, 3, 9] [3] ?_
 simp only [Later, (id F56), seval]
 repeat' first|apply awS|apply awB
 refine awp_loopw (fun n st => ∃ k nx, k ≤ g.debts.length ∧ n = g.debts.length - k ∧ lgD l0 (g.debts.drop k) k = lgD l0 g.debts 0 ∧ st = ⟨mkT [(1, one (.int .i64 l0.1)), (2, one (.int .i64 l0.2)), (3, .val (.one (.ptr 3 0 0))), (9, one (.int .i64 k))], mkH [(3, ⟨0, 28, 2, 1, cGrp g⟩)], nx, 0⟩) g.debts.length ⟨0, _, by omega, by omega, rfl, rfl⟩ ?_
 rintro n st ⟨k, nx, hk, rfl, hL, rfl⟩
 by_cases hlt : k < g.debts.length
 ·
  have hI : (k : Int) < (g.debts.length : Int) := by omega
  have hat := flat_at cDebt_len g.debts k hlt
  rw [List.drop_eq_getElem_cons hlt] at hL
  have hdl := hl _ (List.getElem_mem hlt)
  generalize g.debts[k] = d at *
  simp only [lgD] at hL
  refine awN ?_
  simp only [(id F56), seval, hI, cGrp]
  refine awT ?_
  refine awK ?_
  simp only [(id F56), seval]
  refine awN ?_
  simp only [(id F56), seval]
  refine awp_keep [1, 2, 3, 9, 10] [3] ?_
  simp only [Later, (id F56), seval]
  repeat' first|apply awS|apply awB
  refine awp_loopw (fun n st => ∃ j nx, j ≤ d.legs.length ∧ n = d.legs.length - j ∧ lgT l0 (d.legs.drop j) j = lgT l0 d.legs 0 ∧ st = ⟨mkT [(1, one (.int .i64 l0.1)), (2, one (.int .i64 l0.2)), (3, .val (.one (.ptr 3 0 0))), (9, one (.int .i64 k)), (10, one (.int .i64 j))], mkH [(3, ⟨0, 28, 2, 1, cGrp g⟩)], nx, 0⟩) d.legs.length ⟨0, _, by omega, by omega, rfl, rfl⟩ ?_
  rintro n2 st ⟨j, nx2, hj, rfl, hM, rfl⟩
  by_cases hjt : j < d.legs.length
  ·
   have hJ : (j : Int) < (d.legs.length : Int) := by omega
   have hat2 := flat_at cLeg_len d.legs j hjt
   rw [List.drop_eq_getElem_cons hjt] at hM
   generalize d.legs[j] = x at *
   simp only [lgT] at hM
   by_cases c1 : x.1 = l0.1
   ·
    by_cases c2 : x.2 = l0.2
    ·
     have hR : lgD l0 g.debts 0 = some (k, j) := by
      have h1 : lgT l0 d.legs 0 = some j := by rw [← hM]; simp [c1, c2]
      rw [← hL, h1]
     refine awN ?_
     simp only [(id F56), seval, hat, hJ, cGrp, cDebt]
     repeat refine ob ?_
     refine awT ?_
     refine awK ?_
     simp only [(id F56), seval]
     refine awR [] [none, none, none, none, none, none, none, none, none, none, none, none, none, some (41, true), some (41, true), some (41, true), some (41, true), some (41, true), some (41, true), some (41, true), some (41, true), some (41, true), some (41, true), some (41, true), some (41, true), none] ?_
     simp only [(id F56), seval, hat, hat2, cGrp, cDebt, cLeg, c1, c2]
     repeat refine ob ?_
     refine awT ?_
     refine awN ?_
     simp only [(id F56), seval]
     refine awX ?_
     simp only [(id F56), seval, hR, lgR]
    refine awN ?_
    simp only [(id F56), seval, hat, hJ, cGrp, cDebt]
    repeat refine ob ?_
    refine awT ?_
    refine awK ?_
    simp only [(id F56), seval]
    refine awR [] [none, none, none, none, none, none, none, none, none, none, none, none, none, some (41, true), some (41, true), some (41, true), some (41, true), some (41, true), some (41, true), some (41, true), some (41, true), some (41, true), some (41, true), some (41, true), some (41, true), none] ?_
    simp only [(id F56), seval, hat, hat2, cGrp, cDebt, cLeg, c1, c2]
    repeat refine ob ?_
    refine awF ?_
    refine awK ?_
    simp only [(id F56), seval]
    refine awN ?_
    simp only [(id F56), seval]
    repeat refine ob ?_
    refine ⟨_, wk_keep [1, 2, 3, 9, 10] [3], d.legs.length - (j + 1), by omega, j + 1, nx2, by omega, rfl, ?_, ?_⟩
    ·
     rw [← hM]; simp [c1, c2]
    simp only [(id F56), seval]
    try rfl
   refine awN ?_
   simp only [(id F56), seval, hat, hJ, cGrp, cDebt]
   repeat refine ob ?_
   refine awT ?_
   refine awK ?_
   simp only [(id F56), seval]
   refine awR [] [none, none, none, none, none, none, none, none, none, none, none, none, none, some (41, true), some (41, true), some (41, true), some (41, true), some (41, true), some (41, true), some (41, true), some (41, true), some (41, true), some (41, true), some (41, true), some (41, true), none] ?_
   simp only [(id F56), seval, hat, hat2, cGrp, cDebt, cLeg, c1]
   repeat refine ob ?_
   refine awF ?_
   refine awK ?_
   simp only [(id F56), seval]
   refine awN ?_
   simp only [(id F56), seval]
   repeat refine ob ?_
   refine ⟨_, wk_keep [1, 2, 3, 9, 10] [3], d.legs.length - (j + 1), by omega, j + 1, nx2, by omega, rfl, ?_, ?_⟩
   ·
    rw [← hM]; simp [c1]
   simp only [(id F56), seval]
   try rfl
  obtain rfl : j = d.legs.length := by omega
  have hJ : ¬ (d.legs.length : Int) < (d.legs.length : Int) := by omega
  rw [List.drop_length] at hM
  simp only [lgT] at hM
  rw [← hM] at hL
  refine awN ?_
  simp only [(id F56), seval, hat, hJ, cGrp, cDebt]
  repeat refine ob ?_
  refine awF ?_
  refine awQ ?_
  simp only [(id F56), seval]
  refine awN ?_
  simp only [(id F56), seval]
  repeat refine ob ?_
  refine ⟨_, wk_keep [1, 2, 3, 9] [3], g.debts.length - (k + 1), by omega, k + 1, nx2, by omega, rfl, hL, ?_⟩
  simp only [(id F56), seval]
  try rfl
 obtain rfl : k = g.debts.length := by omega
 have hI : ¬ (g.debts.length : Int) < (g.debts.length : Int) := by omega
 rw [List.drop_length] at hL
 simp only [lgD] at hL
 refine awN ?_
 simp only [(id F56), seval, hI, cGrp]
 refine awF ?_
 refine awQ ?_
 simp only [(id F56), seval]
 refine awN ?_
 simp only [(id F56), seval]
 refine awX ?_
 simp only [(id F56), seval, ← hL, lgR]
end Go.Proofs.YtokmkopihhnggaaGreatDoor
