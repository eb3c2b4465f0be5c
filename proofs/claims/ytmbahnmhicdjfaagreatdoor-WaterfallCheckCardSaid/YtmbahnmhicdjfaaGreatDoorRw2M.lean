/- The reference: Sign, agreement; walked by the abstract machine. -/
import Derived.Test.YtmbahnmhicdjfaaGreatDoorOpGM
set_option linter.unusedVariables false
set_option linter.unusedSimpArgs false
set_option linter.defProp false
set_option linter.unnecessarySimpa false
/- The reference: Sign, agreement; walked by the abstract machine. -/
namespace Go.Proofs.YtmbahnmhicdjfaaGreatDoor
open Go Go.RowKit
theorem aFix (r : GRat) (h1 : r.num.size ≤ 500000000000) (h2 : r.den.size ≤ 500000000000) : ACall Tryz.prog 123 [.agg (cRat r)] (.val (.agg (cRat (enc (qOf r))))) :=
  acall_flat (fnOK_of Tryz.func123 (by decide) (by kernel_rfl)) [vRat r] (vRat (enc (qOf r))) fun w => rFix_any r w h1 h2
theorem aSignum (r : GRat) : ACall Tryz.prog 131 [.agg (cRat r)] (one (.int .i64 (sgnZ r))) :=
  acall_flat (fnOK_of Tryz.func131 (by decide) (by kernel_rfl)) [vRat r] (.int .i64 (sgnZ r)) fun w => Signum_any r w
noncomputable def agT (n : Int) (E : Int → Bool) : List GPart → Int
  | [] => 0
  | p :: l => if p.claim < -1 ∨ n ≤ p.claim then 1 else if p.claim = -1 ∧ p.capped = false then 21 else if p.capped = true ∧ qSgn (qOf p.cap) < 0 then 7
    else if p.claim ≠ -1 ∧ E p.claim = true then 20 else agT n E l
noncomputable def agA (n : Int) (E : Int → Bool) : GAgr → Int
  | [] => 0
  | t :: a => if agT n E t ≠ 0 then agT n E t else agA n E a
noncomputable def agS (n : Int) (E : Int → Bool) (a : GAgr) : Int := if 24 < a.length then 2 else if a.any longT = true then 2 else agA n E a
def F_rSgn := And.intro zS (tf18)
theorem bSign (r : GRat) (h1 : r.num.size ≤ 500000000000) (h2 : r.den.size ≤ 500000000000) : ACall Tryz.prog 84 [.agg (cRat r)] (one (.int .i64 (qSgn (qOf r)))) := by
 have hF := aFix r h1 h2
 have hS := aSignum (enc (qOf r))
 rw [sgnZ_enc] at hS
 refine acall_of Tryz.func84 rfl (by decide) (N := 6) rfl (by simp) (R := [.tmp 2]) rfl fun en k0 => ?_
 refine awR [] [none, none] ?_
 simp only [(id F_rSgn), seval, cRat]
 refine awR [] [none, none, none, none] ?_
 simp only [(id F_rSgn), seval]
 refine ⟨_, hF, rfl, ?_⟩
 simp only [Later, (id F_rSgn), seval, cRat]
 refine ⟨_, hS, rfl, ?_⟩
 refine awX ?_
 simp only [(id F_rSgn), seval]
def F_rAgr := And.intro zS (And.intro tf1 (And.intro tf20 (And.intro tf6 (And.intro tf2 (And.intro tf23 (And.intro tf24 (And.intro tf0 (And.intro tf8 (And.intro tf29 (And.intro tf30 (And.intro tf9 (And.intro tf16 (And.intro tf17 (And.intro tf10 (And.intro tf31 (And.intro tf32 (And.intro tf3 (And.intro tf33 (And.intro tf38 (And.intro tf11 (And.intro tf18 (And.intro tf19 (And.intro tf12 (And.intro tf35 (tf5)))))))))))))))))))))))))
set_option maxHeartbeats 8000000 in
theorem agreement_A (g : GEst) (i : Nat) (hi : i < g.agrs.length) (hi2 : i ≤ 1000000000000) (ha0 : ∀ a ∈ g.agrs, a.length ≤ 1000000000000 ∧ ∀ t ∈ a, t.length ≤ 1000000000000) (hag : (∀ t ∈ g.agrs[i], t.length ≤ 1000000000000) ∧ ∀ p ∈ g.agrs[i].flatten, ratOK p.cap) :
  ACall Tryz.prog 85 [.agg (cEst g), .one (.lit (.int .i64 i))] (one (.int .i64 (agS g.claims.length (fun c => mbE c (g.agrs.take i)) g.agrs[i]))) := by
 have hEar := fun c => earlier_A g i c (by omega) hi2 ha0
 obtain ⟨ht, hcp⟩ := hag
 have hat0 := flat_at cAgr_len g.agrs i hi
 rw [Nat.mul_one] at hat0
 have hin : (i : Int) < (g.agrs.length : Int) := by omega
 generalize hE0 : (fun c => mbE c (g.agrs.take i)) = E at *
 have hEar : ∀ c, ACall Tryz.prog 132 [.agg (cEst g), .one (.lit (.int .i64 i)), .one (.lit (.int .i64 c))] (one (.bool (E c))) := fun c => by rw [← hE0]; exact hEar c
 generalize g.agrs[i] = a at *
 generalize hn : (g.claims.length : Int) = n at *
 refine acall_of Tryz.func85 rfl (by decide) (N := 99) rfl (by simp) (R := [.tmp 4]) rfl fun en k0 => ?_
 refine awR [] [none, none] ?_
 simp only [(id F_rAgr), seval, cEst]
 refine awR [] [none, none, none, none, none, none, none] ?_
 simp only [(id F_rAgr), seval, hat0, cAgr, cEst]
 repeat refine ob ?_
 unfold agS
 by_cases h24 : 24 < a.length
 ·
  have hI : (24 : Int) < (a.length : Int) := by omega
  refine awR [] [none, none, none, none] ?_
  simp only [(id F_rAgr), seval, hI]
  refine awT ?_
  refine awR [] [none] ?_
  simp only [(id F_rAgr), seval]
  refine awX ?_
  simp only [(id F_rAgr), seval, h24]
 have hI24 : ¬ (24 : Int) < (a.length : Int) := by omega
 simp only [h24, if_false]
 refine awR [] [none, none, none, none] ?_
 simp only [(id F_rAgr), seval, hI24]
 refine awF ?_
 refine awK ?_
 simp only [(id F_rAgr), seval]
 refine awR [] [none] ?_
 simp only [(id F_rAgr), seval]
 refine awp_keep [1, 2, 5, 6] [2, 5] ?_
 simp only [Later, (id F_rAgr), seval]
 refine awp_cutA (M := fun st => a.any longT = false ∧ ∃ nx, st = ⟨mkT [(1, one (.int .i64 i)), (2, .val (.one (.ptr 2 0 0))), (5, .val (.one (.ptr 5 1 0)))], mkH [(2, ⟨0, 36, 5, 1, cEst g⟩), (5, ⟨1, 50, 1, 1, cAgr a⟩)], nx, 0⟩) ?_ ?_
 ·
  repeat' first|apply awS|apply awB
  refine awp_loopw (fun n st => ∃ k nx, k ≤ a.length ∧ n = a.length - k ∧ (a.drop k).any longT = a.any longT ∧ st = ⟨mkT [(1, one (.int .i64 i)), (2, .val (.one (.ptr 2 0 0))), (5, .val (.one (.ptr 5 1 0))), (6, one (.int .i64 k))], mkH [(2, ⟨0, 36, 5, 1, cEst g⟩), (5, ⟨1, 50, 1, 1, cAgr a⟩)], nx, 0⟩) a.length ⟨0, _, by omega, by omega, rfl, rfl⟩ ?_
  rintro n st ⟨k, nx, hk, rfl, hL, rfl⟩
  by_cases hlt : k < a.length
  ·
   have hI : (k : Int) < (a.length : Int) := by omega
   have hat := flat_at cTier_len a k hlt
   rw [Nat.mul_one] at hat
   rw [List.drop_eq_getElem_cons hlt] at hL
   have htl := ht _ (List.getElem_mem hlt)
   generalize a[k] = t at *
   simp only [List.any_cons] at hL
   cases hl : longT t
   ·
    have hJ : ¬ (24 : Int) < (t.length : Int) := by have := of_decide_eq_false hl; omega
    refine awR [] [none, none, none, none, none] ?_
    simp only [(id F_rAgr), seval, hI, cAgr]
    refine awT ?_
    refine awK ?_
    simp only [(id F_rAgr), seval]
    refine awR [] [none, none, none, none, none, none, none] ?_
    simp only [(id F_rAgr), seval, hat, hJ, cAgr, cTier]
    repeat refine ob ?_
    refine awF ?_
    refine awK ?_
    simp only [(id F_rAgr), seval]
    refine awR [] [none, none, none] ?_
    simp only [(id F_rAgr), seval]
    repeat refine ob ?_
    refine ⟨_, wk_keep [1, 2, 5, 6] [2, 5], a.length - (k + 1), by omega, k + 1, nx, by omega, rfl, ?_, ?_⟩
    ·
     rw [← hL, hl]; rfl
    simp only [(id F_rAgr), seval]
    try rfl
   have hJ : (24 : Int) < (t.length : Int) := by have := of_decide_eq_true hl; omega
   have hR : a.any longT = true := by rw [← hL, hl]; rfl
   refine awR [] [none, none, none, none, none] ?_
   simp only [(id F_rAgr), seval, hI, cAgr]
   refine awT ?_
   refine awK ?_
   simp only [(id F_rAgr), seval]
   refine awR [] [none, none, none, none, none, none, none] ?_
   simp only [(id F_rAgr), seval, hat, hJ, cAgr, cTier]
   repeat refine ob ?_
   refine awT ?_
   refine awR [] [none] ?_
   simp only [(id F_rAgr), seval]
   refine awX ?_
   simp only [(id F_rAgr), seval, hR]
  obtain rfl : k = a.length := by omega
  have hI : ¬ (a.length : Int) < (a.length : Int) := by omega
  rw [List.drop_length] at hL
  refine awR [] [none, none, none, none, none] ?_
  simp only [(id F_rAgr), seval, hI, cAgr]
  refine awF ?_
  refine awQ ?_
  simp only [(id F_rAgr), seval]
  refine ⟨_, wk_keep [1, 2, 5] [2, 5], hL.symm, nx, ?_⟩
  simp only [(id F_rAgr), seval]
 rintro st ⟨hlo, nx, rfl⟩
 simp only [hlo, Bool.false_eq_true, if_false]
 refine awR [] [none] ?_
 simp only [(id F_rAgr), seval]
 refine awp_keep [1, 2, 5, 7] [2, 5] ?_
 simp only [Later, (id F_rAgr), seval]
 repeat' first|apply awS|apply awB
 refine awp_loopw (fun m st => ∃ k nx, k ≤ a.length ∧ m = a.length - k ∧ agA n E (a.drop k) = agA n E a ∧ st = ⟨mkT [(1, one (.int .i64 i)), (2, .val (.one (.ptr 2 0 0))), (5, .val (.one (.ptr 5 1 0))), (7, one (.int .i64 k))], mkH [(2, ⟨0, 36, 5, 1, cEst g⟩), (5, ⟨1, 50, 1, 1, cAgr a⟩)], nx, 0⟩) a.length ⟨0, _, by omega, by omega, rfl, rfl⟩ ?_
 rintro m st ⟨k, nx, hk, rfl, hL, rfl⟩
 by_cases hlt : k < a.length
 ·
  have hI : (k : Int) < (a.length : Int) := by omega
  have hat := flat_at cTier_len a k hlt
  rw [Nat.mul_one] at hat
  rw [List.drop_eq_getElem_cons hlt] at hL
  have htl := ht _ (List.getElem_mem hlt)
  have hcpt : ∀ p ∈ a[k], ratOK p.cap := fun p hp => hcp p (List.mem_flatten.2 ⟨_, List.getElem_mem hlt, hp⟩)
  generalize a[k] = t at *
  simp only [agA] at hL
  refine awR [] [none, none, none, none, none] ?_
  simp only [(id F_rAgr), seval, hI, cAgr]
  refine awT ?_
  refine awK ?_
  simp only [(id F_rAgr), seval]
  refine awR [] [none] ?_
  simp only [(id F_rAgr), seval]
  refine awp_keep [1, 2, 5, 7, 8] [2, 5] ?_
  simp only [Later, (id F_rAgr), seval]
  repeat' first|apply awS|apply awB
  refine awp_loopw (fun m st => ∃ j nx, j ≤ t.length ∧ m = t.length - j ∧ agT n E (t.drop j) = agT n E t ∧ st = ⟨mkT [(1, one (.int .i64 i)), (2, .val (.one (.ptr 2 0 0))), (5, .val (.one (.ptr 5 1 0))), (7, one (.int .i64 k)), (8, one (.int .i64 j))], mkH [(2, ⟨0, 36, 5, 1, cEst g⟩), (5, ⟨1, 50, 1, 1, cAgr a⟩)], nx, 0⟩) t.length ⟨0, _, by omega, by omega, rfl, rfl⟩ ?_
  rintro m2 st ⟨j, nx2, hj, rfl, hM, rfl⟩
  by_cases hjt : j < t.length
  ·
   have hJ : (j : Int) < (t.length : Int) := by omega
   have hat2 := flat_at cPart_len t j hjt
   rw [List.drop_eq_getElem_cons hjt] at hM
   have hS := bSign t[j].cap (hcpt _ (List.getElem_mem hjt)).1 (hcpt _ (List.getElem_mem hjt)).2
   generalize t[j] = p at *
   simp only [agT] at hM
   by_cases p1 : p.claim < -1
   ·
    repeat' first|apply awS|apply awB
    refine awR [] [none, none, none, none, none, none, none, none] ?_
    simp only [(id F_rAgr), seval, hat, hJ, cAgr, cTier]
    repeat refine ob ?_
    refine awT ?_
    refine awK ?_
    simp only [(id F_rAgr), seval]
    refine awR [] [none, none, none, none, none, none, none, none, none, none] ?_
    simp only [(id F_rAgr), seval, hat, hat2, cAgr, cTier, cPart]
    repeat refine ob ?_
    refine awR [] [none, none, none, none, some (62, false), some (62, false), some (62, false), some (62, false), some (62, false), some (62, false), none, none] ?_
    simp only [(id F_rAgr), seval, p1, cEst]
    refine awT ?_
    refine awR [] [none] ?_
    simp only [(id F_rAgr), seval]
    have hR : agA n E a = 1 := by
     have h1 : agT n E t = 1 := by rw [← hM]; simp [p1]
     rw [← hL, h1]; rfl
    refine awX ?_
    simp only [(id F_rAgr), seval, hR]
   by_cases p2 : (g.claims.length : Int) ≤ p.claim
   ·
    have p2n : n ≤ p.claim := by rw [← hn]; exact p2
    refine awR [] [none, none, none, none, none, none, none, none] ?_
    simp only [(id F_rAgr), seval, hat, hJ, cAgr, cTier]
    repeat refine ob ?_
    refine awT ?_
    refine awK ?_
    simp only [(id F_rAgr), seval]
    refine awR [] [none, none, none, none, none, none, none, none, none, none] ?_
    simp only [(id F_rAgr), seval, hat, hat2, cAgr, cTier, cPart]
    repeat refine ob ?_
    refine awR [] [none, none, none, none, some (62, false), some (62, false), some (62, false), some (62, false), some (62, false), some (62, false), none, none] ?_
    simp only [(id F_rAgr), seval, p1, p2, cEst]
    refine awT ?_
    refine awR [] [none] ?_
    simp only [(id F_rAgr), seval]
    have hR : agA n E a = 1 := by
     have h1 : agT n E t = 1 := by rw [← hM]; simp [p2n]
     rw [← hL, h1]; rfl
    refine awX ?_
    simp only [(id F_rAgr), seval, hR]
   have p2n : ¬ n ≤ p.claim := by rw [← hn]; exact p2
   by_cases hc : p.claim = -1
   ·
    have p2m : ¬ n ≤ -1 := by rw [← hc]; exact p2n
    cases hcap : p.capped
    ·
     repeat' first|apply awS|apply awB
     refine awR [] [none, none, none, none, none, none, none, none] ?_
     simp only [(id F_rAgr), seval, hat, hJ, cAgr, cTier]
     repeat refine ob ?_
     refine awT ?_
     refine awK ?_
     simp only [(id F_rAgr), seval]
     refine awR [] [none, none, none, none, none, none, none, none, none, none] ?_
     simp only [(id F_rAgr), seval, hat, hat2, cAgr, cTier, cPart]
     repeat refine ob ?_
     refine awR [] [none, none, none, none, some (62, false), some (62, false), some (62, false), some (62, false), some (62, false), some (62, false), none, none] ?_
     simp only [(id F_rAgr), seval, p1, p2, cEst]
     refine awF ?_
     refine awR [] [none, none, none, none, some (74, true), some (74, true), some (74, true), none, none] ?_
     simp only [(id F_rAgr), seval, hc, hcap]
     refine awT ?_
     refine awR [] [none] ?_
     simp only [(id F_rAgr), seval]
     have hR : agA n E a = 21 := by
      have h1 : agT n E t = 21 := by rw [← hM]; simp [p1, p2m, hc, hcap]
      rw [← hL, h1]; rfl
     refine awX ?_
     simp only [(id F_rAgr), seval, hR]
    by_cases hsg : qSgn (qOf p.cap) < 0
    ·
     repeat' first|apply awS|apply awB
     refine awR [] [none, none, none, none, none, none, none, none] ?_
     simp only [(id F_rAgr), seval, hat, hJ, cAgr, cTier]
     repeat refine ob ?_
     refine awT ?_
     refine awK ?_
     simp only [(id F_rAgr), seval]
     refine awR [] [none, none, none, none, none, none, none, none, none, none] ?_
     simp only [(id F_rAgr), seval, hat, hat2, cAgr, cTier, cPart]
     repeat refine ob ?_
     refine awR [] [none, none, none, none, some (62, false), some (62, false), some (62, false), some (62, false), some (62, false), some (62, false), none, none] ?_
     simp only [(id F_rAgr), seval, p1, p2, cEst]
     refine awF ?_
     refine awR [] [none, none, none, none, some (74, true), some (74, true), some (74, true), none, none] ?_
     simp only [(id F_rAgr), seval, hc, hcap]
     refine awF ?_
     refine awR [] [none, none, none, some (82, true), some (82, true), some (82, true), some (82, true), none, none] ?_
     simp only [(id F_rAgr), seval, hcap]
     refine ⟨_, hS, rfl, ?_⟩
     simp only [Later, (id F_rAgr), seval, hsg]
     refine awT ?_
     refine awR [] [none] ?_
     simp only [(id F_rAgr), seval]
     have hR : agA n E a = 7 := by
      have h1 : agT n E t = 7 := by rw [← hM]; simp [p1, p2m, hc, hcap, hsg]
      rw [← hL, h1]; rfl
     refine awX ?_
     simp only [(id F_rAgr), seval, hR]
    repeat' first|apply awS|apply awB
    refine awR [] [none, none, none, none, none, none, none, none] ?_
    simp only [(id F_rAgr), seval, hat, hJ, cAgr, cTier]
    repeat refine ob ?_
    refine awT ?_
    refine awK ?_
    simp only [(id F_rAgr), seval]
    refine awR [] [none, none, none, none, none, none, none, none, none, none] ?_
    simp only [(id F_rAgr), seval, hat, hat2, cAgr, cTier, cPart]
    repeat refine ob ?_
    refine awR [] [none, none, none, none, some (62, false), some (62, false), some (62, false), some (62, false), some (62, false), some (62, false), none, none] ?_
    simp only [(id F_rAgr), seval, p1, p2, cEst]
    refine awF ?_
    refine awR [] [none, none, none, none, some (74, true), some (74, true), some (74, true), none, none] ?_
    simp only [(id F_rAgr), seval, hc, hcap]
    refine awF ?_
    refine awR [] [none, none, none, some (82, true), some (82, true), some (82, true), some (82, true), none, none] ?_
    simp only [(id F_rAgr), seval, hcap]
    refine ⟨_, hS, rfl, ?_⟩
    simp only [Later, (id F_rAgr), seval, hsg]
    refine awF ?_
    refine awR [] [none, none, none, none, some (92, true), some (92, true), some (92, true), some (92, true), some (92, true), none, none] ?_
    simp only [(id F_rAgr), seval, hc]
    refine awF ?_
    refine awK ?_
    simp only [(id F_rAgr), seval]
    refine awR [] [none, none, none] ?_
    simp only [(id F_rAgr), seval]
    repeat refine ob ?_
    refine ⟨_, wk_keep [1, 2, 5, 7, 8] [2, 5], t.length - (j + 1), by omega, j + 1, nx2 + 1, by omega, rfl, ?_, ?_⟩
    ·
     rw [← hM]; simp [p1, p2m, hc, hcap, hsg]
    simp only [(id F_rAgr), seval]
    try rfl
   have hE := hEar p.claim
   cases hcap : p.capped
   ·
    cases heb : E p.claim
    ·
     rw [heb] at hE
     refine awR [] [none, none, none, none, none, none, none, none] ?_
     simp only [(id F_rAgr), seval, hat, hJ, cAgr, cTier]
     repeat refine ob ?_
     refine awT ?_
     refine awK ?_
     simp only [(id F_rAgr), seval]
     refine awR [] [none, none, none, none, none, none, none, none, none, none] ?_
     simp only [(id F_rAgr), seval, hat, hat2, cAgr, cTier, cPart]
     repeat refine ob ?_
     refine awR [] [none, none, none, none, some (62, false), some (62, false), some (62, false), some (62, false), some (62, false), some (62, false), none, none] ?_
     simp only [(id F_rAgr), seval, p1, p2, cEst]
     refine awF ?_
     refine awR [] [none, none, none, none, some (74, true), some (74, true), some (74, true), none, none] ?_
     simp only [(id F_rAgr), seval, hc]
     refine awF ?_
     refine awR [] [none, none, none, some (82, true), some (82, true), some (82, true), some (82, true), none, none] ?_
     simp only [(id F_rAgr), seval, hcap]
     refine awF ?_
     refine awR [] [none, none, none, none, some (92, true), some (92, true), some (92, true), some (92, true), some (92, true), none, none] ?_
     simp only [(id F_rAgr), seval, cEst, hc, flat_pure cClaim_pure, flat_pure cAgr_pure]
     refine ⟨_, hE, rfl, ?_⟩
     simp only [Later, (id F_rAgr), seval]
     refine awF ?_
     refine awK ?_
     simp only [(id F_rAgr), seval]
     refine awR [] [none, none, none] ?_
     simp only [(id F_rAgr), seval]
     repeat refine ob ?_
     refine ⟨_, wk_keep [1, 2, 5, 7, 8] [2, 5], t.length - (j + 1), by omega, j + 1, nx2 + 1, by omega, rfl, ?_, ?_⟩
     ·
      rw [← hM]; simp [p1, p2n, hc, heb, hcap]
     simp only [(id F_rAgr), seval]
     try rfl
    rw [heb] at hE
    refine awR [] [none, none, none, none, none, none, none, none] ?_
    simp only [(id F_rAgr), seval, hat, hJ, cAgr, cTier]
    repeat refine ob ?_
    refine awT ?_
    refine awK ?_
    simp only [(id F_rAgr), seval]
    refine awR [] [none, none, none, none, none, none, none, none, none, none] ?_
    simp only [(id F_rAgr), seval, hat, hat2, cAgr, cTier, cPart]
    repeat refine ob ?_
    refine awR [] [none, none, none, none, some (62, false), some (62, false), some (62, false), some (62, false), some (62, false), some (62, false), none, none] ?_
    simp only [(id F_rAgr), seval, p1, p2, cEst]
    refine awF ?_
    refine awR [] [none, none, none, none, some (74, true), some (74, true), some (74, true), none, none] ?_
    simp only [(id F_rAgr), seval, hc]
    refine awF ?_
    refine awR [] [none, none, none, some (82, true), some (82, true), some (82, true), some (82, true), none, none] ?_
    simp only [(id F_rAgr), seval, hcap]
    refine awF ?_
    refine awR [] [none, none, none, none, some (92, true), some (92, true), some (92, true), some (92, true), some (92, true), none, none] ?_
    simp only [(id F_rAgr), seval, cEst, hc, flat_pure cClaim_pure, flat_pure cAgr_pure]
    refine ⟨_, hE, rfl, ?_⟩
    simp only [Later, (id F_rAgr), seval]
    refine awT ?_
    refine awR [] [none] ?_
    simp only [(id F_rAgr), seval]
    have hR : agA n E a = 20 := by
     have h1 : agT n E t = 20 := by rw [← hM]; simp [p1, p2n, hc, heb, hcap]
     rw [← hL, h1]; rfl
    refine awX ?_
    simp only [(id F_rAgr), seval, hR]
   by_cases hsg : qSgn (qOf p.cap) < 0
   ·
    repeat' first|apply awS|apply awB
    refine awR [] [none, none, none, none, none, none, none, none] ?_
    simp only [(id F_rAgr), seval, hat, hJ, cAgr, cTier]
    repeat refine ob ?_
    refine awT ?_
    refine awK ?_
    simp only [(id F_rAgr), seval]
    refine awR [] [none, none, none, none, none, none, none, none, none, none] ?_
    simp only [(id F_rAgr), seval, hat, hat2, cAgr, cTier, cPart]
    repeat refine ob ?_
    refine awR [] [none, none, none, none, some (62, false), some (62, false), some (62, false), some (62, false), some (62, false), some (62, false), none, none] ?_
    simp only [(id F_rAgr), seval, p1, p2, cEst]
    refine awF ?_
    refine awR [] [none, none, none, none, some (74, true), some (74, true), some (74, true), none, none] ?_
    simp only [(id F_rAgr), seval, hc]
    refine awF ?_
    refine awR [] [none, none, none, some (82, true), some (82, true), some (82, true), some (82, true), none, none] ?_
    simp only [(id F_rAgr), seval, hcap]
    refine ⟨_, hS, rfl, ?_⟩
    simp only [Later, (id F_rAgr), seval, hsg]
    refine awT ?_
    refine awR [] [none] ?_
    simp only [(id F_rAgr), seval]
    have hR : agA n E a = 7 := by
     have h1 : agT n E t = 7 := by rw [← hM]; simp [p1, p2n, hc, hcap, hsg]
     rw [← hL, h1]; rfl
    refine awX ?_
    simp only [(id F_rAgr), seval, hR]
   cases heb : E p.claim
   ·
    rw [heb] at hE
    refine awR [] [none, none, none, none, none, none, none, none] ?_
    simp only [(id F_rAgr), seval, hat, hJ, cAgr, cTier]
    repeat refine ob ?_
    refine awT ?_
    refine awK ?_
    simp only [(id F_rAgr), seval]
    refine awR [] [none, none, none, none, none, none, none, none, none, none] ?_
    simp only [(id F_rAgr), seval, hat, hat2, cAgr, cTier, cPart]
    repeat refine ob ?_
    refine awR [] [none, none, none, none, some (62, false), some (62, false), some (62, false), some (62, false), some (62, false), some (62, false), none, none] ?_
    simp only [(id F_rAgr), seval, p1, p2, cEst]
    refine awF ?_
    refine awR [] [none, none, none, none, some (74, true), some (74, true), some (74, true), none, none] ?_
    simp only [(id F_rAgr), seval, hc]
    refine awF ?_
    refine awR [] [none, none, none, some (82, true), some (82, true), some (82, true), some (82, true), none, none] ?_
    simp only [(id F_rAgr), seval, hcap]
    refine ⟨_, hS, rfl, ?_⟩
    simp only [Later, (id F_rAgr), seval, hsg]
    refine awF ?_
    refine awR [] [none, none, none, none, some (92, true), some (92, true), some (92, true), some (92, true), some (92, true), none, none] ?_
    simp only [(id F_rAgr), seval, cEst, hc, flat_pure cClaim_pure, flat_pure cAgr_pure]
    refine ⟨_, hE, rfl, ?_⟩
    simp only [Later, (id F_rAgr), seval]
    refine awF ?_
    refine awK ?_
    simp only [(id F_rAgr), seval]
    refine awR [] [none, none, none] ?_
    simp only [(id F_rAgr), seval]
    repeat refine ob ?_
    refine ⟨_, wk_keep [1, 2, 5, 7, 8] [2, 5], t.length - (j + 1), by omega, j + 1, nx2 + 1, by omega, rfl, ?_, ?_⟩
    ·
     rw [← hM]; simp [p1, p2n, hc, heb, hcap, hsg]
    simp only [(id F_rAgr), seval]
    try rfl
   rw [heb] at hE
   refine awR [] [none, none, none, none, none, none, none, none] ?_
   simp only [(id F_rAgr), seval, hat, hJ, cAgr, cTier]
   repeat refine ob ?_
   refine awT ?_
   refine awK ?_
   simp only [(id F_rAgr), seval]
   refine awR [] [none, none, none, none, none, none, none, none, none, none] ?_
   simp only [(id F_rAgr), seval, hat, hat2, cAgr, cTier, cPart]
   repeat refine ob ?_
   refine awR [] [none, none, none, none, some (62, false), some (62, false), some (62, false), some (62, false), some (62, false), some (62, false), none, none] ?_
   simp only [(id F_rAgr), seval, p1, p2, cEst]
   refine awF ?_
   refine awR [] [none, none, none, none, some (74, true), some (74, true), some (74, true), none, none] ?_
   simp only [(id F_rAgr), seval, hc]
   refine awF ?_
   refine awR [] [none, none, none, some (82, true), some (82, true), some (82, true), some (82, true), none, none] ?_
   simp only [(id F_rAgr), seval, hcap]
   refine ⟨_, hS, rfl, ?_⟩
   simp only [Later, (id F_rAgr), seval, hsg]
   refine awF ?_
   refine awR [] [none, none, none, none, some (92, true), some (92, true), some (92, true), some (92, true), some (92, true), none, none] ?_
   simp only [(id F_rAgr), seval, cEst, hc, flat_pure cClaim_pure, flat_pure cAgr_pure]
   refine ⟨_, hE, rfl, ?_⟩
   simp only [Later, (id F_rAgr), seval]
   refine awT ?_
   refine awR [] [none] ?_
   simp only [(id F_rAgr), seval]
   have hR : agA n E a = 20 := by
    have h1 : agT n E t = 20 := by rw [← hM]; simp [p1, p2n, hc, heb, hcap, hsg]
    rw [← hL, h1]; rfl
   refine awX ?_
   simp only [(id F_rAgr), seval, hR]
  obtain rfl : j = t.length := by omega
  have hJ : ¬ (t.length : Int) < (t.length : Int) := by omega
  rw [List.drop_length] at hM
  simp only [agT] at hM
  refine awR [] [none, none, none, none, none, none, none, none] ?_
  simp only [(id F_rAgr), seval, hat, hJ, cAgr, cTier]
  repeat refine ob ?_
  refine awF ?_
  refine awQ ?_
  simp only [(id F_rAgr), seval]
  refine awR [] [none, none, none] ?_
  simp only [(id F_rAgr), seval]
  repeat refine ob ?_
  refine ⟨_, wk_keep [1, 2, 5, 7] [2, 5], a.length - (k + 1), by omega, k + 1, nx2, by omega, rfl, ?_, ?_⟩
  ·
   rw [← hM] at hL; simpa using hL
  simp only [(id F_rAgr), seval]
  try rfl
 obtain rfl : k = a.length := by omega
 have hI : ¬ (a.length : Int) < (a.length : Int) := by omega
 rw [List.drop_length] at hL
 simp only [agA] at hL
 refine awR [] [none, none, none, none, none] ?_
 simp only [(id F_rAgr), seval, hI, cAgr]
 refine awF ?_
 refine awQ ?_
 simp only [(id F_rAgr), seval]
 refine awR [] [none] ?_
 simp only [(id F_rAgr), seval]
 refine awX ?_
 simp only [(id F_rAgr), seval, ← hL]
end Go.Proofs.YtmbahnmhicdjfaaGreatDoor
