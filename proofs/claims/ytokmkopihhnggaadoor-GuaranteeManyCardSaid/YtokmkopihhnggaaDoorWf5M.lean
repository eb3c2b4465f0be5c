/- waterfall.checkAgreement; walked by the abstract machine. -/
import Derived.Test.YtokmkopihhnggaaDoorWf1M
set_option linter.unusedVariables false
set_option linter.unusedSimpArgs false
set_option linter.defProp false
set_option linter.unnecessarySimpa false
section
/- waterfall.checkAgreement; walked by the abstract machine. -/
namespace Go.Proofs.YtokmkopihhnggaaDoor
open Go Go.RowKit
def cB (b : Bool) : List C := [.lit (.bool b)]
theorem cB_len (b : Bool) : (cB b).length = 1 := rfl
theorem cB_pure (b : Bool) : pureCs (cB b) = true := rfl
noncomputable def caLoop (tk : List Bool) : List GPart → Int
  | [] => 0
  | p :: l => if p.claim ≠ -1 ∧ (p.claim < 0 ∨ (tk.length : Int) ≤ p.claim) then 1 else if p.claim = -1 ∧ p.capped = false then 21 else if p.capped = true ∧ qSgn (qOf p.cap) < 0 then 7
    else if p.claim ≠ -1 ∧ tk.getD p.claim.toNat false = true then 20 else caLoop tk l
noncomputable def caSpec (a : GAgr) (tk : List Bool) : Int := if 24 < a.length ∨ a.any longT = true then 2 else caLoop tk a.flatten
theorem flatten_short : ∀ (a : GAgr), a.any longT = false → a.flatten.length ≤ a.length * 24
  | [], _ => by simp
  | t :: a, h => by
    simp only [List.any_cons, Bool.or_eq_false_iff] at h
    have := flatten_short a h.2
    have h1 : t.length ≤ 24 := by have := of_decide_eq_false h.1; omega
    simp only [List.flatten_cons, List.length_append, List.length_cons]
    omega
def F_chkA := And.intro zS (And.intro tf6 (And.intro tf35 (And.intro tf2 (And.intro tf0 (And.intro tf36 (And.intro tf8 (And.intro tf9 (And.intro tf37 (And.intro tf38 (And.intro tf10 (And.intro tf11 (And.intro tf32 (And.intro tf39 (And.intro tf12 (tf5)))))))))))))))
set_option maxHeartbeats 4000000 in
theorem checkAgreement_A (a : GAgr) (tk : List Bool) (ht : ∀ t ∈ a, t.length ≤ 1000000000000) (hn : tk.length ≤ 1000000000000) (hcp : ∀ p ∈ a.flatten, p.cap.num.size ≤ 500000000000 ∧ p.cap.den.size ≤ 500000000000) :
  ACall Tryd.prog 16 [.agg (cAgr a), .one (.sh 1 tk.length (flat cB tk))] (one (.int .i64 (caSpec a tk))) := by
 refine acall_of Tryd.func16 rfl (by decide) (N := 70) rfl (by simp) (R := [.tmp 4]) rfl fun en k0 => ?_
 have hlong : True := trivial
 unfold caSpec
 by_cases h24 : 24 < a.length
 ·
  have hI : (24 : Int) < (a.length : Int) := by omega
  refine awR [] [none, none] ?_
  simp only [(id F_chkA), seval, cAgr]
  refine awR [] [none, none, none, none, none, some (12, false), some (12, false), some (12, false), none] ?_
  simp only [(id F_chkA), seval, hI]
  refine awT ?_
  refine awR [] [none] ?_
  simp only [(id F_chkA), seval]
  refine awX ?_
  simp only [(id F_chkA), seval, h24]
 have hI : ¬ (24 : Int) < (a.length : Int) := by omega
 have hCF := ContainsFunc_A a (by omega) ht
 cases hany : a.any longT
 ·
  rw [hany] at hCF
  have hfl := flatten_short a hany
  have hCC := Concat_A a (by omega) (by omega)
  simp only [h24, false_or, Bool.false_eq_true, if_false]
  refine awR [] [none, none] ?_
  simp only [(id F_chkA), seval, cAgr]
  refine awR [] [none, none, none, none, none, some (12, false), some (12, false), some (12, false), none] ?_
  simp only [(id F_chkA), seval, hI, clos]
  refine ⟨flat_pure cTier_pure a, _, hCF, rfl, ?_⟩
  simp only [Later, (id F_chkA), seval]
  refine awF ?_
  refine awK ?_
  simp only [(id F_chkA), seval]
  refine awR [] [none, none, none, none, none] ?_
  simp only [(id F_chkA), seval, cAgr]
  refine ⟨flat_pure cTier_pure a, _, hCC, by simp [pureCs, pureC, flat_pure cPart_pure], ?_⟩
  simp only [Later, (id F_chkA), seval]
  refine awp_keep [1, 19, 20, 21] [] ?_
  simp only [Later, (id F_chkA), seval]
  repeat' first|apply awS|apply awB
  refine awp_loopw (fun n st => ∃ k nx, k ≤ a.flatten.length ∧ n = a.flatten.length - k ∧ caLoop tk (a.flatten.drop k) = caLoop tk a.flatten ∧ st = ⟨mkT [(1, .val (.one (.sh 1 tk.length (flat cB tk)))), (19, .val (.one (.sh 5 a.flatten.length (flat cPart a.flatten)))), (20, one (.int .i64 a.flatten.length)), (21, one (.int .i64 k))], mkH [], nx, 0⟩) a.flatten.length ⟨0, _, by omega, by omega, rfl, rfl⟩ ?_
  rintro n st ⟨k, nx, hk, rfl, hL, rfl⟩
  have hcaps : ∀ p ∈ a.flatten, p.cap.num.size ≤ 500000000000 ∧ p.cap.den.size ≤ 500000000000 := hcp
  generalize a.flatten = l at *
  by_cases hlt : k < l.length
  ·
   have hI : (k : Int) < (l.length : Int) := by omega
   have hat := flat_at cPart_len l k hlt
   rw [List.drop_eq_getElem_cons hlt] at hL
   have hS := aSign l[k].cap (hcaps _ (List.getElem_mem hlt)).1 (hcaps _ (List.getElem_mem hlt)).2
   generalize l[k] = p at *
   simp only [caLoop] at hL
   by_cases hc : p.claim = -1
   ·
    cases hcap : p.capped
    ·
     repeat' first|apply awS|apply awB
     refine awR [] [none] ?_
     simp only [(id F_chkA), seval, hI]
     refine awT ?_
     refine awK ?_
     simp only [(id F_chkA), seval]
     refine awR [] [none, none, none, none] ?_
     simp only [(id F_chkA), seval, hat, cPart]
     repeat refine ob ?_
     refine awR [] [none, none, none, none] ?_
     simp only [(id F_chkA), seval, hc]
     refine awR [] [none, none, none, some (31, true), some (31, true), some (31, true), some (31, true), some (35, false), some (35, false), some (35, false), some (35, false), some (35, false), some (31, true), none, none] ?_
     simp only [(id F_chkA), seval, ]
     refine awF ?_
     refine awR [] [none, none, some (45, true), some (45, true), some (45, true), none, none] ?_
     simp only [(id F_chkA), seval, hcap]
     refine awT ?_
     refine awR [] [none] ?_
     simp only [(id F_chkA), seval]
     have hR : caLoop tk l = 21 := by rw [← hL]; simp [hc, hcap]
     refine awX ?_
     simp only [(id F_chkA), seval, hR]
    by_cases hsg : qSgn (qOf p.cap) < 0
    ·
     repeat' first|apply awS|apply awB
     refine awR [] [none] ?_
     simp only [(id F_chkA), seval, hI]
     refine awT ?_
     refine awK ?_
     simp only [(id F_chkA), seval]
     refine awR [] [none, none, none, none] ?_
     simp only [(id F_chkA), seval, hat, cPart]
     repeat refine ob ?_
     refine awR [] [none, none, none, none] ?_
     simp only [(id F_chkA), seval, hc]
     refine awR [] [none, none, none, some (31, true), some (31, true), some (31, true), some (31, true), some (35, false), some (35, false), some (35, false), some (35, false), some (35, false), some (31, true), none, none] ?_
     simp only [(id F_chkA), seval, ]
     refine awF ?_
     refine awR [] [none, none, some (45, true), some (45, true), some (45, true), none, none] ?_
     simp only [(id F_chkA), seval, hcap]
     refine awF ?_
     refine awR [] [none, none, none, some (53, true), some (53, true), some (53, true), some (53, true), none, none] ?_
     simp only [(id F_chkA), seval, hcap]
     refine ⟨_, hS, rfl, ?_⟩
     simp only [Later, (id F_chkA), seval, hsg]
     refine awT ?_
     refine awR [] [none] ?_
     simp only [(id F_chkA), seval]
     have hR : caLoop tk l = 7 := by rw [← hL]; simp [hc, hcap, hsg]
     refine awX ?_
     simp only [(id F_chkA), seval, hR]
    repeat' first|apply awS|apply awB
    refine awR [] [none] ?_
    simp only [(id F_chkA), seval, hI]
    refine awT ?_
    refine awK ?_
    simp only [(id F_chkA), seval]
    refine awR [] [none, none, none, none] ?_
    simp only [(id F_chkA), seval, hat, cPart]
    repeat refine ob ?_
    refine awR [] [none, none, none, none] ?_
    simp only [(id F_chkA), seval, hc]
    refine awR [] [none, none, none, some (31, true), some (31, true), some (31, true), some (31, true), some (35, false), some (35, false), some (35, false), some (35, false), some (35, false), some (31, true), none, none] ?_
    simp only [(id F_chkA), seval, ]
    refine awF ?_
    refine awR [] [none, none, some (45, true), some (45, true), some (45, true), none, none] ?_
    simp only [(id F_chkA), seval, hcap]
    refine awF ?_
    refine awR [] [none, none, none, some (53, true), some (53, true), some (53, true), some (53, true), none, none] ?_
    simp only [(id F_chkA), seval, hcap]
    refine ⟨_, hS, rfl, ?_⟩
    simp only [Later, (id F_chkA), seval, hsg]
    refine awF ?_
    refine awR [] [none, none, none, some (62, true), some (62, true), some (62, true), some (62, true), some (62, true), none, none] ?_
    simp only [(id F_chkA), seval]
    refine awF ?_
    refine awK ?_
    simp only [(id F_chkA), seval]
    refine awR [] [none, none] ?_
    simp only [(id F_chkA), seval]
    repeat refine ob ?_
    refine ⟨_, wk_keep [1, 19, 20, 21] [], l.length - (k + 1), by omega, k + 1, nx + 1, by omega, rfl, ?_, ?_⟩
    ·
     rw [← hL]; simp [hc, hcap, hsg]
    simp only [(id F_chkA), seval]
    try rfl
   by_cases p1 : p.claim < 0
   ·
    repeat' first|apply awS|apply awB
    refine awR [] [none] ?_
    simp only [(id F_chkA), seval, hI]
    refine awT ?_
    refine awK ?_
    simp only [(id F_chkA), seval]
    refine awR [] [none, none, none, none] ?_
    simp only [(id F_chkA), seval, hat, cPart]
    repeat refine ob ?_
    refine awR [] [none, none, none, none] ?_
    simp only [(id F_chkA), seval, hc]
    refine awR [] [none, none, none, some (31, true), some (31, true), some (31, true), some (31, true), some (35, false), some (35, false), some (35, false), some (35, false), some (35, false), some (31, true), none, none] ?_
    simp only [(id F_chkA), seval, p1]
    refine awT ?_
    refine awR [] [none] ?_
    simp only [(id F_chkA), seval]
    have hR : caLoop tk l = 1 := by rw [← hL]; simp [hc, p1]
    refine awX ?_
    simp only [(id F_chkA), seval, hR]
   by_cases p2 : (tk.length : Int) ≤ p.claim
   ·
    repeat' first|apply awS|apply awB
    refine awR [] [none] ?_
    simp only [(id F_chkA), seval, hI]
    refine awT ?_
    refine awK ?_
    simp only [(id F_chkA), seval]
    refine awR [] [none, none, none, none] ?_
    simp only [(id F_chkA), seval, hat, cPart]
    repeat refine ob ?_
    refine awR [] [none, none, none, none] ?_
    simp only [(id F_chkA), seval, hc]
    refine awR [] [none, none, none, some (31, true), some (31, true), some (31, true), some (31, true), some (35, false), some (35, false), some (35, false), some (35, false), some (35, false), some (31, true), none, none] ?_
    simp only [(id F_chkA), seval, p1, p2]
    refine awT ?_
    refine awR [] [none] ?_
    simp only [(id F_chkA), seval]
    have hR : caLoop tk l = 1 := by rw [← hL]; simp [hc, p2]
    refine awX ?_
    simp only [(id F_chkA), seval, hR]
   have a1 := flat_get cB_len tk p.claim false (by omega) (by omega)
   rw [Nat.mul_one] at a1
   generalize hget : tk.getD p.claim.toNat false = bt at *
   cases hcap : p.capped
   ·
    cases bt
    ·
     repeat' first|apply awS|apply awB
     refine awR [] [none] ?_
     simp only [(id F_chkA), seval, hI]
     refine awT ?_
     refine awK ?_
     simp only [(id F_chkA), seval]
     refine awR [] [none, none, none, none] ?_
     simp only [(id F_chkA), seval, hat, cPart]
     repeat refine ob ?_
     refine awR [] [none, none, none, none] ?_
     simp only [(id F_chkA), seval, hc]
     refine awR [] [none, none, none, some (31, true), some (31, true), some (31, true), some (31, true), some (35, false), some (35, false), some (35, false), some (35, false), some (35, false), some (31, true), none, none] ?_
     simp only [(id F_chkA), seval, p1, p2]
     refine awF ?_
     refine awR [] [none, none, some (45, true), some (45, true), some (45, true), none, none] ?_
     simp only [(id F_chkA), seval, hcap]
     refine awF ?_
     refine awR [] [none, none, none, some (53, true), some (53, true), some (53, true), some (53, true), none, none] ?_
     simp only [(id F_chkA), seval, hcap]
     refine awF ?_
     refine awR [] [none, none, none, some (62, true), some (62, true), some (62, true), some (62, true), some (62, true), none, none] ?_
     simp only [(id F_chkA), seval, a1, cB]
     repeat refine ob ?_
     refine awF ?_
     refine awK ?_
     simp only [(id F_chkA), seval]
     refine awR [] [none, none] ?_
     simp only [(id F_chkA), seval]
     repeat refine ob ?_
     refine ⟨_, wk_keep [1, 19, 20, 21] [], l.length - (k + 1), by omega, k + 1, nx + 1, by omega, rfl, ?_, ?_⟩
     ·
      rw [← hL]; simp [hc, p1, p2, hget, hcap]
     simp only [(id F_chkA), seval]
     try rfl
    repeat' first|apply awS|apply awB
    refine awR [] [none] ?_
    simp only [(id F_chkA), seval, hI]
    refine awT ?_
    refine awK ?_
    simp only [(id F_chkA), seval]
    refine awR [] [none, none, none, none] ?_
    simp only [(id F_chkA), seval, hat, cPart]
    repeat refine ob ?_
    refine awR [] [none, none, none, none] ?_
    simp only [(id F_chkA), seval, hc]
    refine awR [] [none, none, none, some (31, true), some (31, true), some (31, true), some (31, true), some (35, false), some (35, false), some (35, false), some (35, false), some (35, false), some (31, true), none, none] ?_
    simp only [(id F_chkA), seval, p1, p2]
    refine awF ?_
    refine awR [] [none, none, some (45, true), some (45, true), some (45, true), none, none] ?_
    simp only [(id F_chkA), seval, hcap]
    refine awF ?_
    refine awR [] [none, none, none, some (53, true), some (53, true), some (53, true), some (53, true), none, none] ?_
    simp only [(id F_chkA), seval, hcap]
    refine awF ?_
    refine awR [] [none, none, none, some (62, true), some (62, true), some (62, true), some (62, true), some (62, true), none, none] ?_
    simp only [(id F_chkA), seval, a1, cB]
    repeat refine ob ?_
    refine awT ?_
    refine awR [] [none] ?_
    simp only [(id F_chkA), seval]
    have hR : caLoop tk l = 20 := by rw [← hL]; simp [hc, p1, p2, hget, hcap]
    refine awX ?_
    simp only [(id F_chkA), seval, hR]
   by_cases hsg : qSgn (qOf p.cap) < 0
   ·
    repeat' first|apply awS|apply awB
    refine awR [] [none] ?_
    simp only [(id F_chkA), seval, hI]
    refine awT ?_
    refine awK ?_
    simp only [(id F_chkA), seval]
    refine awR [] [none, none, none, none] ?_
    simp only [(id F_chkA), seval, hat, cPart]
    repeat refine ob ?_
    refine awR [] [none, none, none, none] ?_
    simp only [(id F_chkA), seval, hc]
    refine awR [] [none, none, none, some (31, true), some (31, true), some (31, true), some (31, true), some (35, false), some (35, false), some (35, false), some (35, false), some (35, false), some (31, true), none, none] ?_
    simp only [(id F_chkA), seval, p1, p2]
    refine awF ?_
    refine awR [] [none, none, some (45, true), some (45, true), some (45, true), none, none] ?_
    simp only [(id F_chkA), seval, hcap]
    refine awF ?_
    refine awR [] [none, none, none, some (53, true), some (53, true), some (53, true), some (53, true), none, none] ?_
    simp only [(id F_chkA), seval, hcap]
    refine ⟨_, hS, rfl, ?_⟩
    simp only [Later, (id F_chkA), seval, hsg]
    refine awT ?_
    refine awR [] [none] ?_
    simp only [(id F_chkA), seval]
    have hR : caLoop tk l = 7 := by rw [← hL]; simp [hc, p1, p2, hcap, hsg]
    refine awX ?_
    simp only [(id F_chkA), seval, hR]
   cases bt
   ·
    repeat' first|apply awS|apply awB
    refine awR [] [none] ?_
    simp only [(id F_chkA), seval, hI]
    refine awT ?_
    refine awK ?_
    simp only [(id F_chkA), seval]
    refine awR [] [none, none, none, none] ?_
    simp only [(id F_chkA), seval, hat, cPart]
    repeat refine ob ?_
    refine awR [] [none, none, none, none] ?_
    simp only [(id F_chkA), seval, hc]
    refine awR [] [none, none, none, some (31, true), some (31, true), some (31, true), some (31, true), some (35, false), some (35, false), some (35, false), some (35, false), some (35, false), some (31, true), none, none] ?_
    simp only [(id F_chkA), seval, p1, p2]
    refine awF ?_
    refine awR [] [none, none, some (45, true), some (45, true), some (45, true), none, none] ?_
    simp only [(id F_chkA), seval, hcap]
    refine awF ?_
    refine awR [] [none, none, none, some (53, true), some (53, true), some (53, true), some (53, true), none, none] ?_
    simp only [(id F_chkA), seval, hcap]
    refine ⟨_, hS, rfl, ?_⟩
    simp only [Later, (id F_chkA), seval, hsg]
    refine awF ?_
    refine awR [] [none, none, none, some (62, true), some (62, true), some (62, true), some (62, true), some (62, true), none, none] ?_
    simp only [(id F_chkA), seval, a1, cB]
    repeat refine ob ?_
    refine awF ?_
    refine awK ?_
    simp only [(id F_chkA), seval]
    refine awR [] [none, none] ?_
    simp only [(id F_chkA), seval]
    repeat refine ob ?_
    refine ⟨_, wk_keep [1, 19, 20, 21] [], l.length - (k + 1), by omega, k + 1, nx + 1, by omega, rfl, ?_, ?_⟩
    ·
     rw [← hL]; simp [hc, p1, p2, hget, hcap, hsg]
    simp only [(id F_chkA), seval]
    try rfl
   repeat' first|apply awS|apply awB
   refine awR [] [none] ?_
   simp only [(id F_chkA), seval, hI]
   refine awT ?_
   refine awK ?_
   simp only [(id F_chkA), seval]
   refine awR [] [none, none, none, none] ?_
   simp only [(id F_chkA), seval, hat, cPart]
   repeat refine ob ?_
   refine awR [] [none, none, none, none] ?_
   simp only [(id F_chkA), seval, hc]
   refine awR [] [none, none, none, some (31, true), some (31, true), some (31, true), some (31, true), some (35, false), some (35, false), some (35, false), some (35, false), some (35, false), some (31, true), none, none] ?_
   simp only [(id F_chkA), seval, p1, p2]
   refine awF ?_
   refine awR [] [none, none, some (45, true), some (45, true), some (45, true), none, none] ?_
   simp only [(id F_chkA), seval, hcap]
   refine awF ?_
   refine awR [] [none, none, none, some (53, true), some (53, true), some (53, true), some (53, true), none, none] ?_
   simp only [(id F_chkA), seval, hcap]
   refine ⟨_, hS, rfl, ?_⟩
   simp only [Later, (id F_chkA), seval, hsg]
   refine awF ?_
   refine awR [] [none, none, none, some (62, true), some (62, true), some (62, true), some (62, true), some (62, true), none, none] ?_
   simp only [(id F_chkA), seval, a1, cB]
   repeat refine ob ?_
   refine awT ?_
   refine awR [] [none] ?_
   simp only [(id F_chkA), seval]
   have hR : caLoop tk l = 20 := by rw [← hL]; simp [hc, p1, p2, hget, hcap, hsg]
   refine awX ?_
   simp only [(id F_chkA), seval, hR]
  obtain rfl : k = l.length := by omega
  have hI : ¬ (l.length : Int) < (l.length : Int) := by omega
  rw [List.drop_length] at hL
  simp only [caLoop] at hL
  refine awR [] [none] ?_
  simp only [(id F_chkA), seval, hI]
  refine awF ?_
  refine awQ ?_
  simp only [(id F_chkA), seval]
  refine awR [] [none] ?_
  simp only [(id F_chkA), seval]
  refine awX ?_
  simp only [(id F_chkA), seval, ← hL]
 rw [hany] at hCF
 refine awR [] [none, none] ?_
 simp only [(id F_chkA), seval, cAgr]
 refine awR [] [none, none, none, none, none, some (12, false), some (12, false), some (12, false), none] ?_
 simp only [(id F_chkA), seval, hI, clos]
 refine ⟨flat_pure cTier_pure a, _, hCF, rfl, ?_⟩
 simp only [Later, (id F_chkA), seval]
 refine awT ?_
 refine awR [] [none] ?_
 simp only [(id F_chkA), seval]
 refine awX ?_
 simp only [(id F_chkA), seval]
end Go.Proofs.YtokmkopihhnggaaDoor
end
section
/- waterfall.Check; walked by the abstract machine. -/
namespace Go.Proofs.YtokmkopihhnggaaDoor
open Go Go.RowKit
def ratOK (q : GRat) : Prop := q.num.size ≤ 500000000000 ∧ q.den.size ≤ 500000000000
def estOK (e : GEst) : Prop := ratOK e.cash ∧ (∀ c ∈ e.claims, ratOK c.amount) ∧ e.claims.length ≤ 1000000000000 ∧ ∀ a ∈ e.agrs, (∀ t ∈ a, t.length ≤ 1000000000000) ∧ ∀ p ∈ a.flatten, ratOK p.cap
noncomputable def wcClaims : List GClaim → Int
  | [] => 0
  | c :: l => if c.holder < -1 ∨ 8 ≤ c.holder then 19 else if c.rank < 0 ∨ 7 < c.rank then 1 else if qSgn (qOf c.amount) < 0 then 7 else wcClaims l
def mark (tk : List Bool) : List Int → List Bool
  | [] => tk
  | i :: l => mark (tk.set i.toNat true) l
noncomputable def wcAgrs (tk : List Bool) : List GAgr → Int
  | [] => 0
  | a :: l => if caSpec a tk ≠ 0 then caSpec a tk else wcAgrs (mark tk (mem a)) l
noncomputable def wcSpec (e : GEst) : Int := if 24 < e.claims.length ∨ 12 < e.agrs.length then 2 else if qSgn (qOf e.cash) < 0 then 7 else if wcClaims e.claims ≠ 0 then wcClaims e.claims
  else wcAgrs (List.replicate e.claims.length false) e.agrs
theorem mem_compactUpTo {d : Array Int} {x : Int} : ∀ m, m ≤ d.size → x ∈ Lib.compactUpTo d m → x ∈ d.toList
  | 0, _, h => by simp [Lib.compactUpTo] at h
  | m + 1, hm, h => by
    rw [Lib.compactUpTo_succ, List.mem_append] at h
    rcases h with h | h
    · exact mem_compactUpTo m (by omega) h
    split at h
    · simp only [List.mem_singleton] at h
      subst h
      rw [getElem!_pos d m (by omega)]
      simp
    cases h
theorem mem_mem {a : GAgr} {i : Int} (h : i ∈ mem a) : i ∈ idsOf a.flatten := by
  have h1 := mem_compactUpTo _ (by simp) h
  simpa [sorted] using h1
theorem mem_ids : ∀ {l : List GPart} {i : Int}, i ∈ idsOf l → ∃ p ∈ l, p.claim = i ∧ p.claim ≠ -1
  | p :: l, i, h => by
    simp only [idsOf] at h
    by_cases hc : p.claim = -1
    · rw [if_pos hc] at h
      obtain ⟨q, h1, h2⟩ := mem_ids h
      exact ⟨q, List.mem_cons_of_mem _ h1, h2⟩
    rw [if_neg hc] at h
    rcases List.mem_cons.1 h with rfl | h
    · exact ⟨p, by simp, rfl, hc⟩
    obtain ⟨q, h1, h2⟩ := mem_ids h
    exact ⟨q, List.mem_cons_of_mem _ h1, h2⟩
theorem caLoop_ok {tk : List Bool} : ∀ {l : List GPart}, caLoop tk l = 0 → ∀ p ∈ l, p.claim ≠ -1 → 0 ≤ p.claim ∧ p.claim < tk.length
  | q :: l, h, p, hp, hc => by
    simp only [caLoop] at h
    split at h
    · cases h
    rename_i h1
    split at h
    · cases h
    split at h
    · cases h
    split at h
    · cases h
    rcases List.mem_cons.1 hp with rfl | hp
    · have := fun h2 => h1 ⟨hc, h2⟩
      omega
    exact caLoop_ok h p hp hc
theorem caSpec_ok {a : GAgr} {tk : List Bool} (h : caSpec a tk = 0) : a.length ≤ 24 ∧ a.flatten.length ≤ 576 ∧ ∀ i ∈ mem a, 0 ≤ i ∧ i < tk.length := by
  unfold caSpec at h
  split at h
  · cases h
  rename_i h1
  have h2 : a.any longT = false := by simpa using fun h => h1 (.inr h)
  have h3 := flatten_short a h2
  refine ⟨by omega, by omega, fun i hi => ?_⟩
  obtain ⟨p, k1, k2, k3⟩ := mem_ids (mem_mem hi)
  subst k2
  exact caLoop_ok h p k1 k3
theorem mem_length (a : GAgr) : (mem a).length ≤ a.flatten.length := by
  have h1 := Lib.compact_length_le (sorted (idsOf a.flatten))
  have h2 : ∀ l : List GPart, (idsOf l).length ≤ l.length := fun l => by
    induction l with
    | nil => simp [idsOf]
    | cons p l ih => simp only [idsOf]; split <;> simp <;> omega
  have h3 := h2 a.flatten
  rw [sorted_length] at h1
  exact Nat.le_trans h1 h3
theorem cB_set (tk : List Bool) (k : Nat) (h : k < tk.length) : spl (flat cB tk) k [.lit (.bool true)] = flat cB (tk.set k true) := by
  induction tk generalizing k with
  | nil => simp at h
  | cons b tk ih =>
    cases k with
    | zero => simp [flat_cons, cB, spl_cons0, spl_nil]
    | succ k => simp only [flat_cons, cB, List.cons_append, List.nil_append, spl_succ, List.set_cons_succ]; rw [ih k (by simpa using h)]
theorem repl_cB (n : Nat) : repl n [C.lit (.bool false)] = flat cB (List.replicate n false) := by
  induction n with
  | zero => rfl
  | succ n ih => rw [repl_succ, List.replicate_succ, flat_cons, ih]; rfl
def F_wChk := And.intro zS (And.intro tf40 (And.intro tf14 (And.intro tf35 (And.intro tf41 (And.intro tf42 (And.intro tf16 (And.intro tf36 (And.intro tf7 (And.intro tf18 (And.intro tf43 (And.intro tf44 (And.intro tf45 (And.intro tf19 (And.intro tf46 (And.intro tf47 (And.intro tf23 (And.intro tf48 (And.intro tf49 (And.intro tf32 (And.intro tf39 (And.intro tf12 (And.intro tf50 (And.intro tf51 (tf52))))))))))))))))))))))))
set_option maxHeartbeats 4000000 in
theorem wCheck_A (g : GEst) (hg : estOK g) : ACall Tryd.prog 8 [.agg (cEst g)] (one (.int .i64 (wcSpec g))) := by
 obtain ⟨⟨hq1, hq2⟩, hcl, hcn, hag⟩ := hg
 have hS0 := aSign g.cash hq1 hq2
 unfold wcSpec
 refine acall_of Tryd.func8 rfl (by decide) (N := 87) rfl (by simp) (R := [.tmp 2]) rfl fun en k0 => ?_
 refine awR [] [none, none] ?_
 simp only [(id F_wChk), seval, cEst]
 by_cases h24 : 24 < g.claims.length
 ·
  have hI : (24 : Int) < (g.claims.length : Int) := by omega
  refine awR [] [none, none, none, none, none, some (16, false), some (16, false), some (16, false), some (16, false), none, none] ?_
  simp only [(id F_wChk), seval, hI, cEst]
  refine awT ?_
  refine awR [] [none] ?_
  simp only [(id F_wChk), seval]
  refine awX ?_
  simp only [(id F_wChk), seval, h24]
 have hI24 : ¬ (24 : Int) < (g.claims.length : Int) := by omega
 by_cases h12 : 12 < g.agrs.length
 ·
  have hI : (12 : Int) < (g.agrs.length : Int) := by omega
  refine awR [] [none, none, none, none, none, some (16, false), some (16, false), some (16, false), some (16, false), none, none] ?_
  simp only [(id F_wChk), seval, hI24, hI, cEst]
  refine awT ?_
  refine awR [] [none] ?_
  simp only [(id F_wChk), seval]
  refine awX ?_
  simp only [(id F_wChk), seval, h12]
 have hI12 : ¬ (12 : Int) < (g.agrs.length : Int) := by omega
 by_cases hq : qSgn (qOf g.cash) < 0
 ·
  repeat' first|apply awS|apply awB
  refine awR [] [none, none, none, none, none, some (16, false), some (16, false), some (16, false), some (16, false), none, none] ?_
  simp only [(id F_wChk), seval, hI24, hI12, cEst]
  refine awF ?_
  refine awR [] [none, none, none, none, none] ?_
  simp only [(id F_wChk), seval, cEst]
  refine ⟨_, hS0, rfl, ?_⟩
  simp only [Later, (id F_wChk), seval, hq]
  refine awT ?_
  refine awR [] [none] ?_
  simp only [(id F_wChk), seval]
  refine awX ?_
  simp only [(id F_wChk), seval, h24, h12, hq, or_self]
 refine awR [] [none, none, none, none, none, some (16, false), some (16, false), some (16, false), some (16, false), none, none] ?_
 simp only [(id F_wChk), seval, hI24, hI12, cEst]
 refine awF ?_
 refine awR [] [none, none, none, none, none] ?_
 simp only [(id F_wChk), seval, cEst]
 refine ⟨_, hS0, rfl, ?_⟩
 simp only [Later, (id F_wChk), seval, hq]
 refine awF ?_
 refine awK ?_
 simp only [(id F_wChk), seval]
 refine awR [] [none, none, none, none] ?_
 simp only [(id F_wChk), seval, cEst]
 refine awp_keep [1, 28, 29, 30] [1] ?_
 simp only [Later, (id F_wChk), seval]
 refine awp_cutA (M := fun st => wcClaims g.claims = 0 ∧ ∃ nx, st = ⟨mkT [(1, .val (.one (.ptr 1 0 0)))], mkH [(1, ⟨0, 31, 5, 1, cEst g⟩)], nx, 0⟩) ?_ ?_
 ·
  repeat' first|apply awS|apply awB
  refine awp_loopw (fun n st => ∃ k nx, k ≤ g.claims.length ∧ n = g.claims.length - k ∧ wcClaims (g.claims.drop k) = wcClaims g.claims ∧ st = ⟨mkT [(1, .val (.one (.ptr 1 0 0))), (28, .val (.one (.sh 5 g.claims.length (flat cClaim g.claims)))), (29, one (.int .i64 g.claims.length)), (30, one (.int .i64 k))], mkH [(1, ⟨0, 31, 5, 1, cEst g⟩)], nx, 0⟩) g.claims.length ⟨0, _, by omega, by omega, rfl, rfl⟩ ?_
  rintro n st ⟨k, nx, hk, rfl, hL, rfl⟩
  generalize hcc : g.claims = cl at *
  by_cases hlt : k < cl.length
  ·
   have hI : (k : Int) < (cl.length : Int) := by omega
   have hat := flat_at cClaim_len cl k hlt
   rw [List.drop_eq_getElem_cons hlt] at hL
   have hS := aSign cl[k].amount (hcl _ (List.getElem_mem hlt)).1 (hcl _ (List.getElem_mem hlt)).2
   generalize cl[k] = c at *
   simp only [wcClaims] at hL
   by_cases p1 : c.holder < -1
   ·
    repeat' first|apply awS|apply awB
    refine awR [] [none] ?_
    simp only [(id F_wChk), seval, hI]
    refine awT ?_
    refine awK ?_
    simp only [(id F_wChk), seval]
    refine awR [] [none, none, none, none] ?_
    simp only [(id F_wChk), seval, hat, cClaim]
    repeat refine ob ?_
    refine awR [] [none, none, none, none, some (38, false), some (38, false), some (38, false), none, none] ?_
    simp only [(id F_wChk), seval, p1]
    refine awT ?_
    refine awR [] [none] ?_
    simp only [(id F_wChk), seval]
    have hR : wcClaims cl = 19 := by rw [← hL]; simp [p1]
    refine awX ?_
    simp only [(id F_wChk), seval, h24, h12, hq, if_false, or_self, hR, Int.reduceEq]
   by_cases p2 : 8 ≤ c.holder
   ·
    repeat' first|apply awS|apply awB
    refine awR [] [none] ?_
    simp only [(id F_wChk), seval, hI]
    refine awT ?_
    refine awK ?_
    simp only [(id F_wChk), seval]
    refine awR [] [none, none, none, none] ?_
    simp only [(id F_wChk), seval, hat, cClaim]
    repeat refine ob ?_
    refine awR [] [none, none, none, none, some (38, false), some (38, false), some (38, false), none, none] ?_
    simp only [(id F_wChk), seval, p1, p2]
    refine awT ?_
    refine awR [] [none] ?_
    simp only [(id F_wChk), seval]
    have hR : wcClaims cl = 19 := by rw [← hL]; simp [p2]
    refine awX ?_
    simp only [(id F_wChk), seval, h24, h12, hq, if_false, or_self, hR, Int.reduceEq]
   by_cases p3 : c.rank < 0
   ·
    repeat' first|apply awS|apply awB
    refine awR [] [none] ?_
    simp only [(id F_wChk), seval, hI]
    refine awT ?_
    refine awK ?_
    simp only [(id F_wChk), seval]
    refine awR [] [none, none, none, none] ?_
    simp only [(id F_wChk), seval, hat, cClaim]
    repeat refine ob ?_
    refine awR [] [none, none, none, none, some (38, false), some (38, false), some (38, false), none, none] ?_
    simp only [(id F_wChk), seval, p1, p2]
    refine awF ?_
    refine awR [] [none, none, none, none, some (47, false), some (47, false), some (47, false), none, none] ?_
    simp only [(id F_wChk), seval, p3]
    refine awT ?_
    refine awR [] [none] ?_
    simp only [(id F_wChk), seval]
    have hR : wcClaims cl = 1 := by rw [← hL]; simp [p1, p2, p3]
    refine awX ?_
    simp only [(id F_wChk), seval, h24, h12, hq, if_false, or_self, hR, Int.reduceEq]
   by_cases p4 : 7 < c.rank
   ·
    repeat' first|apply awS|apply awB
    refine awR [] [none] ?_
    simp only [(id F_wChk), seval, hI]
    refine awT ?_
    refine awK ?_
    simp only [(id F_wChk), seval]
    refine awR [] [none, none, none, none] ?_
    simp only [(id F_wChk), seval, hat, cClaim]
    repeat refine ob ?_
    refine awR [] [none, none, none, none, some (38, false), some (38, false), some (38, false), none, none] ?_
    simp only [(id F_wChk), seval, p1, p2]
    refine awF ?_
    refine awR [] [none, none, none, none, some (47, false), some (47, false), some (47, false), none, none] ?_
    simp only [(id F_wChk), seval, p3, p4]
    refine awT ?_
    refine awR [] [none] ?_
    simp only [(id F_wChk), seval]
    have hR : wcClaims cl = 1 := by rw [← hL]; simp [p1, p2, p4]
    refine awX ?_
    simp only [(id F_wChk), seval, h24, h12, hq, if_false, or_self, hR, Int.reduceEq]
   by_cases hsg : qSgn (qOf c.amount) < 0
   ·
    repeat' first|apply awS|apply awB
    refine awR [] [none] ?_
    simp only [(id F_wChk), seval, hI]
    refine awT ?_
    refine awK ?_
    simp only [(id F_wChk), seval]
    refine awR [] [none, none, none, none] ?_
    simp only [(id F_wChk), seval, hat, cClaim]
    repeat refine ob ?_
    refine awR [] [none, none, none, none, some (38, false), some (38, false), some (38, false), none, none] ?_
    simp only [(id F_wChk), seval, p1, p2]
    refine awF ?_
    refine awR [] [none, none, none, none, some (47, false), some (47, false), some (47, false), none, none] ?_
    simp only [(id F_wChk), seval, p3, p4]
    refine awF ?_
    refine awR [] [none, none, none, none, none] ?_
    simp only [(id F_wChk), seval]
    refine ⟨_, hS, rfl, ?_⟩
    simp only [Later, (id F_wChk), seval, hsg]
    refine awT ?_
    refine awR [] [none] ?_
    simp only [(id F_wChk), seval]
    have hR : wcClaims cl = 7 := by rw [← hL]; simp [p1, p2, p3, p4, hsg]
    refine awX ?_
    simp only [(id F_wChk), seval, h24, h12, hq, if_false, or_self, hR, Int.reduceEq]
   repeat' first|apply awS|apply awB
   refine awR [] [none] ?_
   simp only [(id F_wChk), seval, hI]
   refine awT ?_
   refine awK ?_
   simp only [(id F_wChk), seval]
   refine awR [] [none, none, none, none] ?_
   simp only [(id F_wChk), seval, hat, cClaim]
   repeat refine ob ?_
   refine awR [] [none, none, none, none, some (38, false), some (38, false), some (38, false), none, none] ?_
   simp only [(id F_wChk), seval, p1, p2]
   refine awF ?_
   refine awR [] [none, none, none, none, some (47, false), some (47, false), some (47, false), none, none] ?_
   simp only [(id F_wChk), seval, p3, p4]
   refine awF ?_
   refine awR [] [none, none, none, none, none] ?_
   simp only [(id F_wChk), seval]
   refine ⟨_, hS, rfl, ?_⟩
   simp only [Later, (id F_wChk), seval, hsg]
   refine awF ?_
   refine awK ?_
   simp only [(id F_wChk), seval]
   refine awR [] [none, none] ?_
   simp only [(id F_wChk), seval]
   repeat refine ob ?_
   refine ⟨_, wk_keep [1, 28, 29, 30] [1], cl.length - (k + 1), by omega, k + 1, nx + 1, by omega, rfl, ?_, ?_⟩
   ·
    rw [← hL]; simp [p1, p2, p3, p4, hsg]
   simp only [(id F_wChk), seval]
   try rfl
  obtain rfl : k = cl.length := by omega
  have hI : ¬ (cl.length : Int) < (cl.length : Int) := by omega
  rw [List.drop_length] at hL
  simp only [wcClaims] at hL
  refine awR [] [none] ?_
  simp only [(id F_wChk), seval, hI]
  refine awF ?_
  refine awQ ?_
  simp only [(id F_wChk), seval]
  refine ⟨_, wk_keep [1] [1], hL.symm, nx, ?_⟩
  simp only [(id F_wChk), seval]
 rintro st ⟨hw0, nx, rfl⟩
 simp only [h24, h12, hq, or_self, if_false, hw0, ne_eq, not_true_eq_false]
 refine awR [] [none, none, none, none, none] ?_
 simp only [(id F_wChk), seval, cEst]
 repeat refine ob ?_
 refine awR [] [none, none, none, none] ?_
 simp only [(id F_wChk), seval, cEst]
 refine awp_keep [5, 63, 64, 65] [61] ?_
 simp only [Later, (id F_wChk), seval, repl_cB]
 repeat' first|apply awS|apply awB
 refine awp_loopw (fun n st => ∃ k nx s tk, k ≤ g.agrs.length ∧ n = g.agrs.length - k ∧ tk.length = g.claims.length ∧ wcAgrs tk (g.agrs.drop k) = wcAgrs (List.replicate g.claims.length false) g.agrs ∧ st = ⟨mkT [(5, .val (.one (.own 61 s tk.length 1))), (63, .val (.one (.sh 1 g.agrs.length (flat cAgr g.agrs)))), (64, one (.int .i64 g.agrs.length)), (65, one (.int .i64 k))], mkH [(61, ⟨s, 4, 1, tk.length, flat cB tk⟩)], nx, 0⟩) g.agrs.length ⟨0, _, _, List.replicate g.claims.length false, by omega, by omega, by simp, rfl, by simp only [List.length_replicate]; rfl⟩ ?_
 rintro n st ⟨k, nx, s, tk, hk, rfl, htk, hL, rfl⟩
 by_cases hlt : k < g.agrs.length
 ·
  have hI : (k : Int) < (g.agrs.length : Int) := by omega
  have hat := flat_at cAgr_len g.agrs k hlt
  rw [Nat.mul_one] at hat
  rw [List.drop_eq_getElem_cons hlt] at hL
  obtain ⟨ha1, ha2⟩ := hag g.agrs[k] (List.getElem_mem hlt)
  generalize g.agrs[k] = a at *
  have hCA := checkAgreement_A a tk ha1 (by omega) ha2
  simp only [wcAgrs] at hL
  by_cases he : caSpec a tk = 0
  ·
   obtain ⟨b1, b2, b3⟩ := caSpec_ok he
   have hM := members_A a (by omega) (by omega)
   have hml := mem_length a
   rw [if_neg (by simp [he])] at hL
   refine awR [] [none] ?_
   simp only [(id F_wChk), seval, hI]
   refine awT ?_
   refine awK ?_
   simp only [(id F_wChk), seval]
   refine awR [] [none, none, none, none] ?_
   simp only [(id F_wChk), seval, hat, cAgr]
   repeat refine ob ?_
   refine awR [] [none, none, none, none] ?_
   simp only [(id F_wChk), seval, flat_pure cTier_pure, flat_pure cB_pure]
   refine ⟨_, hCA, rfl, ?_⟩
   simp only [Later, (id F_wChk), seval, he]
   refine awR [] [none, none] ?_
   simp only [(id F_wChk), seval]
   refine awF ?_
   refine awK ?_
   simp only [(id F_wChk), seval]
   refine awR [] [none, none, none, none] ?_
   simp only [(id F_wChk), seval, flat_pure cTier_pure]
   refine ⟨_, hM, by simp [pureCs, pureC, flat_pure cI_pure], ?_⟩
   simp only [Later, (id F_wChk), seval]
   refine awp_keep [5, 63, 64, 65, 76, 77, 78] [61] ?_
   simp only [Later, (id F_wChk), seval]
   repeat' first|apply awS|apply awB
   refine awp_loopw (fun n st => ∃ j nx tk2, j ≤ (mem a).length ∧ n = (mem a).length - j ∧ tk2.length = g.claims.length ∧ mark tk2 ((mem a).drop j) = mark tk (mem a) ∧ st = ⟨mkT [(5, .val (.one (.own 61 s tk2.length 1))), (63, .val (.one (.sh 1 g.agrs.length (flat cAgr g.agrs)))), (64, one (.int .i64 g.agrs.length)), (65, one (.int .i64 k)), (76, .val (.one (.sh 1 (mem a).length (flat cI (mem a))))), (77, one (.int .i64 (mem a).length)), (78, one (.int .i64 j))], mkH [(61, ⟨s, 4, 1, tk2.length, flat cB tk2⟩)], nx, 0⟩) (mem a).length ⟨0, _, tk, by omega, by omega, htk, rfl, rfl⟩ ?_
   rintro n2 st ⟨j, nx2, tk2, hj, rfl, htk2, hm, rfl⟩
   have hlen := flat_length cB_len tk2
   rw [Nat.mul_one] at hlen
   by_cases hjt : j < (mem a).length
   ·
    have hJ : (j : Int) < ((mem a).length : Int) := by omega
    have hat2 := flat_at cI_len (mem a) j hjt
    rw [Nat.mul_one] at hat2
    rw [List.drop_eq_getElem_cons hjt] at hm
    have hb := b3 _ (List.getElem_mem hjt)
    generalize (mem a)[j] = i at *
    have hset := cB_set tk2 i.toNat (by omega)
    refine awR [] [none] ?_
    simp only [(id F_wChk), seval, hJ]
    refine awT ?_
    refine awK ?_
    simp only [(id F_wChk), seval]
    refine awR [] [none, none, none] ?_
    simp only [(id F_wChk), seval, hat2, cI]
    repeat refine ob ?_
    refine awR [] [none, none, none, none] ?_
    simp only [(id F_wChk), seval, hset, hlen]
    repeat refine ob ?_
    refine awR [] [none, none] ?_
    simp only [(id F_wChk), seval]
    repeat refine ob ?_
    refine ⟨_, wk_keep [5, 63, 64, 65, 76, 77, 78] [61], (mem a).length - (j + 1), by omega, j + 1, nx2, tk2.set i.toNat true, by omega, rfl, by simpa using htk2, hm, ?_⟩
    simp only [(id F_wChk), seval, List.length_set]
    try rfl
   obtain rfl : j = (mem a).length := by omega
   have hJ : ¬ ((mem a).length : Int) < ((mem a).length : Int) := by omega
   rw [List.drop_length] at hm
   simp only [mark] at hm
   refine awR [] [none] ?_
   simp only [(id F_wChk), seval, hJ]
   refine awF ?_
   refine awQ ?_
   simp only [(id F_wChk), seval]
   refine awR [] [none, none] ?_
   simp only [(id F_wChk), seval]
   repeat refine ob ?_
   refine ⟨_, wk_keep [5, 63, 64, 65] [61], g.agrs.length - (k + 1), by omega, k + 1, nx2, s, tk2, by omega, rfl, htk2, ?_, ?_⟩
   ·
    rw [hm]; exact hL
   simp only [(id F_wChk), seval]
   try rfl
  rw [if_pos he] at hL
  refine awR [] [none] ?_
  simp only [(id F_wChk), seval, hI]
  refine awT ?_
  refine awK ?_
  simp only [(id F_wChk), seval]
  refine awR [] [none, none, none, none] ?_
  simp only [(id F_wChk), seval, hat, cAgr]
  repeat refine ob ?_
  refine awR [] [none, none, none, none] ?_
  simp only [(id F_wChk), seval, flat_pure cTier_pure, flat_pure cB_pure]
  refine ⟨_, hCA, rfl, ?_⟩
  simp only [Later, (id F_wChk), seval, he]
  refine awR [] [none, none] ?_
  simp only [(id F_wChk), seval, he]
  refine awT ?_
  refine awR [] [none, none] ?_
  simp only [(id F_wChk), seval]
  refine awX ?_
  simp only [(id F_wChk), seval, hL]
 obtain rfl : k = g.agrs.length := by omega
 have hI : ¬ (g.agrs.length : Int) < (g.agrs.length : Int) := by omega
 rw [List.drop_length] at hL
 simp only [wcAgrs] at hL
 refine awR [] [none] ?_
 simp only [(id F_wChk), seval, hI]
 refine awF ?_
 refine awQ ?_
 simp only [(id F_wChk), seval]
 refine awR [] [none] ?_
 simp only [(id F_wChk), seval]
 refine awX ?_
 simp only [(id F_wChk), seval, ← hL]
end Go.Proofs.YtokmkopihhnggaaDoor
end
