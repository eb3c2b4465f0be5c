/- waterfall.checkAgreement; walked by the abstract machine. -/
import Derived.Test.YtokmkopihhnggaaGreatDoorLawM
import Derived.Test.YtokmkopihhnggaaGreatDoorGc1M
set_option linter.unusedVariables false
set_option linter.unusedSimpArgs false
set_option linter.defProp false
namespace Go.Proofs.YtokmkopihhnggaaGreatDoor
open Go Go.RowKit
def cB (b : Bool) : List C := [.lit (.bool b)]
theorem cB_len (b : Bool) : (cB b).length = 1 := rfl
theorem cB_pure (b : Bool) : pureCs (cB b) = true := rfl
noncomputable def caLoop (tk : List Bool) : List GPart → Int
 | [] => 0
 | p :: l => if p.claim ≠ -1 ∧ (p.claim < 0 ∨ (tk.length : Int) ≤ p.claim) then 1 else if p.claim = -1 ∧ p.capped = false then 21 else if p.capped = true ∧ qSgn (qOf p.cap) < 0 then 7
  else if p.claim ≠ -1 ∧ tk.getD p.claim.toNat false = true then 20 else caLoop tk l
noncomputable def caSpec (a : GAgr) (tk : List Bool) : Int := if 24 < a.length ∨ a.any longT = true then 2 else caLoop tk a.flatten
theorem flatten_short : ∀ (a : GAgr), a.any longT = false → a.flatten.length ≤ a.length * 24
 | [], _ => by simp
 | t :: a, h => by
  simp only [List.any_cons, Bool.or_eq_false_iff] at h
  have := flatten_short a h.2
  have h1 : t.length ≤ 24 := by have := of_decide_eq_false h.1; omega
  simp only [List.flatten_cons, List.length_append, List.length_cons]
  omega
def F5 := And.intro zS (And.intro tf6 (And.intro tf14 (And.intro tf2 (And.intro tf0 (And.intro tf15 (And.intro tf8 (And.intro tf9 (And.intro tf16 (And.intro tf17 (And.intro tf10 (And.intro tf11 (And.intro tf18 (And.intro tf19 (And.intro tf12 (tf5)))))))))))))))
set_option maxHeartbeats 4000000 in
theorem checkAgreement_A (a : GAgr) (tk : List Bool) (ht : ∀ t ∈ a, t.length ≤ 1000000000000) (hn : tk.length ≤ 1000000000000) (hcp : ∀ p ∈ a.flatten, p.cap.num.size ≤ 500000000000 ∧ p.cap.den.size ≤ 500000000000) :
  ACall Tryz.prog 75 [.agg (cAgr a), .one (.sh 1 tk.length (flat cB tk))] (one (.int .i64 (caSpec a tk))) := by
 refine acall_of Tryz.func75 rfl (by decide) (N := 70) rfl (by simp) (R := [.tmp 4]) rfl fun en k0 => ?_
 have hlong : True := trivial
 unfold caSpec
 by_cases h24 : 24 < a.length
 ·
  have hI : (24 : Int) < (a.length : Int) := by omega
  refine awN ?_
  simp only [(id F5), seval, cAgr]
  refine awR [] [none, none, none, none, none, some (12, false), some (12, false), some (12, false), none] ?_
  simp only [(id F5), seval, hI]
  refine awT ?_
  refine awN ?_
  simp only [(id F5), seval]
  refine awX ?_
  simp only [(id F5), seval, h24]
 have hI : ¬ (24 : Int) < (a.length : Int) := by omega
 have hCF := ContainsFunc_A a (by omega) ht
 cases hany : a.any longT
 ·
  rw [hany] at hCF
  have hfl := flatten_short a hany
  have hCC := Concat_A a (by omega) (by omega)
  simp only [h24, false_or, Bool.false_eq_true, if_false]
  refine awN ?_
  simp only [(id F5), seval, cAgr]
  refine awR [] [none, none, none, none, none, some (12, false), some (12, false), some (12, false), none] ?_
  simp only [(id F5), seval, hI, clos]
  refine ⟨flat_pure cTier_pure a, _, hCF, rfl, ?_⟩
  simp only [Later, (id F5), seval]
  refine awF ?_
  refine awK ?_
  simp only [(id F5), seval]
  refine awN ?_
  simp only [(id F5), seval, cAgr]
  refine ⟨flat_pure cTier_pure a, _, hCC, by simp [pureCs, pureC, flat_pure cPart_pure], ?_⟩
  simp only [Later, (id F5), seval]
  refine awp_keep [1, 19, 20, 21] [] ?_
  simp only [Later, (id F5), seval]
  repeat' first|apply awS|apply awB
  refine awp_loopw (fun n st => ∃ k nx, k ≤ a.flatten.length ∧ n = a.flatten.length - k ∧ caLoop tk (a.flatten.drop k) = caLoop tk a.flatten ∧ st = ⟨mkT [(1, .val (.one (.sh 1 tk.length (flat cB tk)))), (19, .val (.one (.sh 5 a.flatten.length (flat cPart a.flatten)))), (20, one (.int .i64 a.flatten.length)), (21, one (.int .i64 k))], mkH [], nx, 0⟩) a.flatten.length ⟨0, _, by omega, by omega, rfl, rfl⟩ ?_
  rintro n st ⟨k, nx, hk, rfl, hL, rfl⟩
  have hcaps : ∀ p ∈ a.flatten, p.cap.num.size ≤ 500000000000 ∧ p.cap.den.size ≤ 500000000000 := hcp
  generalize a.flatten = l at *
  by_cases hlt : k < l.length
  ·
   have hI : (k : Int) < (l.length : Int) := by omega
   have hat := flat_at cPart_len l k hlt
   rw [List.drop_eq_getElem_cons hlt] at hL
   have hS := aSign l[k].cap (hcaps _ (List.getElem_mem hlt)).1 (hcaps _ (List.getElem_mem hlt)).2
   generalize l[k] = p at *
   simp only [caLoop] at hL
   by_cases hc : p.claim = -1
   ·
    cases hcap : p.capped
    ·
     repeat' first|apply awS|apply awB
     refine awN ?_
     simp only [(id F5), seval, hI]
     refine awT ?_
     refine awK ?_
     simp only [(id F5), seval]
     refine awN ?_
     simp only [(id F5), seval, hat, cPart]
     repeat refine ob ?_
     refine awN ?_
     simp only [(id F5), seval, hc]
     refine awR [] [none, none, none, some (31, true), some (31, true), some (31, true), some (31, true), some (35, false), some (35, false), some (35, false), some (35, false), some (35, false), some (31, true), none, none] ?_
     simp only [(id F5), seval, ]
     refine awF ?_
     refine awR [] [none, none, some (45, true), some (45, true), some (45, true), none, none] ?_
     simp only [(id F5), seval, hcap]
     refine awT ?_
     refine awN ?_
     simp only [(id F5), seval]
     have hR : caLoop tk l = 21 := by rw [← hL]; simp [hc, hcap]
     refine awX ?_
     simp only [(id F5), seval, hR]
    by_cases hsg : qSgn (qOf p.cap) < 0
    ·
     repeat' first|apply awS|apply awB
     refine awN ?_
     simp only [(id F5), seval, hI]
     refine awT ?_
     refine awK ?_
     simp only [(id F5), seval]
     refine awN ?_
     simp only [(id F5), seval, hat, cPart]
     repeat refine ob ?_
     refine awN ?_
     simp only [(id F5), seval, hc]
     refine awR [] [none, none, none, some (31, true), some (31, true), some (31, true), some (31, true), some (35, false), some (35, false), some (35, false), some (35, false), some (35, false), some (31, true), none, none] ?_
     simp only [(id F5), seval, ]
     refine awF ?_
     refine awR [] [none, none, some (45, true), some (45, true), some (45, true), none, none] ?_
     simp only [(id F5), seval, hcap]
     refine awF ?_
     refine awR [] [none, none, none, some (53, true), some (53, true), some (53, true), some (53, true), none, none] ?_
     simp only [(id F5), seval, hcap]
     refine ⟨_, hS, rfl, ?_⟩
     simp only [Later, (id F5), seval, hsg]
     refine awT ?_
     refine awN ?_
     simp only [(id F5), seval]
     have hR : caLoop tk l = 7 := by rw [← hL]; simp [hc, hcap, hsg]
     refine awX ?_
     simp only [(id F5), seval, hR]
    repeat' first|apply awS|apply awB
    refine awN ?_
    simp only [(id F5), seval, hI]
    refine awT ?_
    refine awK ?_
    simp only [(id F5), seval]
    refine awN ?_
    simp only [(id F5), seval, hat, cPart]
    repeat refine ob ?_
    refine awN ?_
    simp only [(id F5), seval, hc]
    refine awR [] [none, none, none, some (31, true), some (31, true), some (31, true), some (31, true), some (35, false), some (35, false), some (35, false), some (35, false), some (35, false), some (31, true), none, none] ?_
    simp only [(id F5), seval, ]
    refine awF ?_
    refine awR [] [none, none, some (45, true), some (45, true), some (45, true), none, none] ?_
    simp only [(id F5), seval, hcap]
    refine awF ?_
    refine awR [] [none, none, none, some (53, true), some (53, true), some (53, true), some (53, true), none, none] ?_
    simp only [(id F5), seval, hcap]
    refine ⟨_, hS, rfl, ?_⟩
    simp only [Later, (id F5), seval, hsg]
    refine awF ?_
    refine awR [] [none, none, none, some (62, true), some (62, true), some (62, true), some (62, true), some (62, true), none, none] ?_
    simp only [(id F5), seval]
    refine awF ?_
    refine awK ?_
    simp only [(id F5), seval]
    refine awN ?_
    simp only [(id F5), seval]
    repeat refine ob ?_
    refine ⟨_, wk_keep [1, 19, 20, 21] [], l.length - (k + 1), by omega, k + 1, nx + 1, by omega, rfl, ?_, ?_⟩
    ·
     rw [← hL]; simp [hc, hcap, hsg]
    simp only [(id F5), seval]
    try rfl
   by_cases p1 : p.claim < 0
   ·
    repeat' first|apply awS|apply awB
    refine awN ?_
    simp only [(id F5), seval, hI]
    refine awT ?_
    refine awK ?_
    simp only [(id F5), seval]
    refine awN ?_
    simp only [(id F5), seval, hat, cPart]
    repeat refine ob ?_
    refine awN ?_
    simp only [(id F5), seval, hc]
    refine awR [] [none, none, none, some (31, true), some (31, true), some (31, true), some (31, true), some (35, false), some (35, false), some (35, false), some (35, false), some (35, false), some (31, true), none, none] ?_
    simp only [(id F5), seval, p1]
    refine awT ?_
    refine awN ?_
    simp only [(id F5), seval]
    have hR : caLoop tk l = 1 := by rw [← hL]; simp [hc, p1]
    refine awX ?_
    simp only [(id F5), seval, hR]
   by_cases p2 : (tk.length : Int) ≤ p.claim
   ·
    repeat' first|apply awS|apply awB
    refine awN ?_
    simp only [(id F5), seval, hI]
    refine awT ?_
    refine awK ?_
    simp only [(id F5), seval]
    refine awN ?_
    simp only [(id F5), seval, hat, cPart]
    repeat refine ob ?_
    refine awN ?_
    simp only [(id F5), seval, hc]
    refine awR [] [none, none, none, some (31, true), some (31, true), some (31, true), some (31, true), some (35, false), some (35, false), some (35, false), some (35, false), some (35, false), some (31, true), none, none] ?_
    simp only [(id F5), seval, p1, p2]
    refine awT ?_
    refine awN ?_
    simp only [(id F5), seval]
    have hR : caLoop tk l = 1 := by rw [← hL]; simp [hc, p2]
    refine awX ?_
    simp only [(id F5), seval, hR]
   have a1 := flat_get cB_len tk p.claim false (by omega) (by omega)
   rw [Nat.mul_one] at a1
   generalize hget : tk.getD p.claim.toNat false = bt at *
   cases hcap : p.capped
   ·
    cases bt
    ·
     repeat' first|apply awS|apply awB
     refine awN ?_
     simp only [(id F5), seval, hI]
     refine awT ?_
     refine awK ?_
     simp only [(id F5), seval]
     refine awN ?_
     simp only [(id F5), seval, hat, cPart]
     repeat refine ob ?_
     refine awN ?_
     simp only [(id F5), seval, hc]
     refine awR [] [none, none, none, some (31, true), some (31, true), some (31, true), some (31, true), some (35, false), some (35, false), some (35, false), some (35, false), some (35, false), some (31, true), none, none] ?_
     simp only [(id F5), seval, p1, p2]
     refine awF ?_
     refine awR [] [none, none, some (45, true), some (45, true), some (45, true), none, none] ?_
     simp only [(id F5), seval, hcap]
     refine awF ?_
     refine awR [] [none, none, none, some (53, true), some (53, true), some (53, true), some (53, true), none, none] ?_
     simp only [(id F5), seval, hcap]
     refine awF ?_
     refine awR [] [none, none, none, some (62, true), some (62, true), some (62, true), some (62, true), some (62, true), none, none] ?_
     simp only [(id F5), seval, a1, cB]
     repeat refine ob ?_
     refine awF ?_
     refine awK ?_
     simp only [(id F5), seval]
     refine awN ?_
     simp only [(id F5), seval]
     repeat refine ob ?_
     refine ⟨_, wk_keep [1, 19, 20, 21] [], l.length - (k + 1), by omega, k + 1, nx + 1, by omega, rfl, ?_, ?_⟩
     ·
      rw [← hL]; simp [hc, p1, p2, hget, hcap]
     simp only [(id F5), seval]
     try rfl
    repeat' first|apply awS|apply awB
    refine awN ?_
    simp only [(id F5), seval, hI]
    refine awT ?_
    refine awK ?_
    simp only [(id F5), seval]
    refine awN ?_
    simp only [(id F5), seval, hat, cPart]
    repeat refine ob ?_
    refine awN ?_
    simp only [(id F5), seval, hc]
    refine awR [] [none, none, none, some (31, true), some (31, true), some (31, true), some (31, true), some (35, false), some (35, false), some (35, false), some (35, false), some (35, false), some (31, true), none, none] ?_
    simp only [(id F5), seval, p1, p2]
    refine awF ?_
    refine awR [] [none, none, some (45, true), some (45, true), some (45, true), none, none] ?_
    simp only [(id F5), seval, hcap]
    refine awF ?_
    refine awR [] [none, none, none, some (53, true), some (53, true), some (53, true), some (53, true), none, none] ?_
    simp only [(id F5), seval, hcap]
    refine awF ?_
    refine awR [] [none, none, none, some (62, true), some (62, true), some (62, true), some (62, true), some (62, true), none, none] ?_
    simp only [(id F5), seval, a1, cB]
    repeat refine ob ?_
    refine awT ?_
    refine awN ?_
    simp only [(id F5), seval]
    have hR : caLoop tk l = 20 := by rw [← hL]; simp [hc, p1, p2, hget, hcap]
    refine awX ?_
    simp only [(id F5), seval, hR]
   by_cases hsg : qSgn (qOf p.cap) < 0
   ·
    repeat' first|apply awS|apply awB
    refine awN ?_
    simp only [(id F5), seval, hI]
    refine awT ?_
    refine awK ?_
    simp only [(id F5), seval]
    refine awN ?_
    simp only [(id F5), seval, hat, cPart]
    repeat refine ob ?_
    refine awN ?_
    simp only [(id F5), seval, hc]
    refine awR [] [none, none, none, some (31, true), some (31, true), some (31, true), some (31, true), some (35, false), some (35, false), some (35, false), some (35, false), some (35, false), some (31, true), none, none] ?_
    simp only [(id F5), seval, p1, p2]
    refine awF ?_
    refine awR [] [none, none, some (45, true), some (45, true), some (45, true), none, none] ?_
    simp only [(id F5), seval, hcap]
    refine awF ?_
    refine awR [] [none, none, none, some (53, true), some (53, true), some (53, true), some (53, true), none, none] ?_
    simp only [(id F5), seval, hcap]
    refine ⟨_, hS, rfl, ?_⟩
    simp only [Later, (id F5), seval, hsg]
    refine awT ?_
    refine awN ?_
    simp only [(id F5), seval]
    have hR : caLoop tk l = 7 := by rw [← hL]; simp [hc, p1, p2, hcap, hsg]
    refine awX ?_
    simp only [(id F5), seval, hR]
   cases bt
   ·
    repeat' first|apply awS|apply awB
    refine awN ?_
    simp only [(id F5), seval, hI]
    refine awT ?_
    refine awK ?_
    simp only [(id F5), seval]
    refine awN ?_
    simp only [(id F5), seval, hat, cPart]
    repeat refine ob ?_
    refine awN ?_
    simp only [(id F5), seval, hc]
    refine awR [] [none, none, none, some (31, true), some (31, true), some (31, true), some (31, true), some (35, false), some (35, false), some (35, false), some (35, false), some (35, false), some (31, true), none, none] ?_
    simp only [(id F5), seval, p1, p2]
    refine awF ?_
    refine awR [] [none, none, some (45, true), some (45, true), some (45, true), none, none] ?_
    simp only [(id F5), seval, hcap]
    refine awF ?_
    refine awR [] [none, none, none, some (53, true), some (53, true), some (53, true), some (53, true), none, none] ?_
    simp only [(id F5), seval, hcap]
    refine ⟨_, hS, rfl, ?_⟩
    simp only [Later, (id F5), seval, hsg]
    refine awF ?_
    refine awR [] [none, none, none, some (62, true), some (62, true), some (62, true), some (62, true), some (62, true), none, none] ?_
    simp only [(id F5), seval, a1, cB]
    repeat refine ob ?_
    refine awF ?_
    refine awK ?_
    simp only [(id F5), seval]
    refine awN ?_
    simp only [(id F5), seval]
    repeat refine ob ?_
    refine ⟨_, wk_keep [1, 19, 20, 21] [], l.length - (k + 1), by omega, k + 1, nx + 1, by omega, rfl, ?_, ?_⟩
    ·
     rw [← hL]; simp [hc, p1, p2, hget, hcap, hsg]
    simp only [(id F5), seval]
    try rfl
   repeat' first|apply awS|apply awB
   refine awN ?_
   simp only [(id F5), seval, hI]
   refine awT ?_
   refine awK ?_
   simp only [(id F5), seval]
   refine awN ?_
   simp only [(id F5), seval, hat, cPart]
   repeat refine ob ?_
   refine awN ?_
   simp only [(id F5), seval, hc]
   refine awR [] [none, none, none, some (31, true), some (31, true), some (31, true), some (31, true), some (35, false), some (35, false), some (35, false), some (35, false), some (35, false), some (31, true), none, none] ?_
   simp only [(id F5), seval, p1, p2]
   refine awF ?_
   refine awR [] [none, none, some (45, true), some (45, true), some (45, true), none, none] ?_
   simp only [(id F5), seval, hcap]
   refine awF ?_
   refine awR [] [none, none, none, some (53, true), some (53, true), some (53, true), some (53, true), none, none] ?_
   simp only [(id F5), seval, hcap]
   refine ⟨_, hS, rfl, ?_⟩
   simp only [Later, (id F5), seval, hsg]
   refine awF ?_
   refine awR [] [none, none, none, some (62, true), some (62, true), some (62, true), some (62, true), some (62, true), none, none] ?_
   simp only [(id F5), seval, a1, cB]
   repeat refine ob ?_
   refine awT ?_
   refine awN ?_
   simp only [(id F5), seval]
   have hR : caLoop tk l = 20 := by rw [← hL]; simp [hc, p1, p2, hget, hcap, hsg]
   refine awX ?_
   simp only [(id F5), seval, hR]
  obtain rfl : k = l.length := by omega
  have hI : ¬ (l.length : Int) < (l.length : Int) := by omega
  rw [List.drop_length] at hL
  simp only [caLoop] at hL
  refine awN ?_
  simp only [(id F5), seval, hI]
  refine awF ?_
  refine awQ ?_
  simp only [(id F5), seval]
  refine awN ?_
  simp only [(id F5), seval]
  refine awX ?_
  simp only [(id F5), seval, ← hL]
 rw [hany] at hCF
 refine awN ?_
 simp only [(id F5), seval, cAgr]
 refine awR [] [none, none, none, none, none, some (12, false), some (12, false), some (12, false), none] ?_
 simp only [(id F5), seval, hI, clos]
 refine ⟨flat_pure cTier_pure a, _, hCF, rfl, ?_⟩
 simp only [Later, (id F5), seval]
 refine awT ?_
 refine awN ?_
 simp only [(id F5), seval]
 refine awX ?_
 simp only [(id F5), seval]
end Go.Proofs.YtokmkopihhnggaaGreatDoor
