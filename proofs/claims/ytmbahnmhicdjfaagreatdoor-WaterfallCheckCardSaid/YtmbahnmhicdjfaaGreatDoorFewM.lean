/- Few: what is short enough for a law; walked by the abstract machine. -/
import Derived.Test.YtmbahnmhicdjfaaGreatDoorOpGM
import Derived.Test.YtmbahnmhicdjfaaGreatDoorRw6M
import Derived.Test.YtmbahnmhicdjfaaGreatDoorSm1M
import Derived.Test.YtmbahnmhicdjfaaGreatDoorPlusM
set_option linter.unusedVariables false
set_option linter.unusedSimpArgs false
set_option linter.defProp false
set_option linter.unnecessarySimpa false
section
/- Few: what is short enough for a law; walked by the abstract machine. -/
namespace Go.Proofs.YtmbahnmhicdjfaaGreatDoor
open Go Go.RowKit
def fewR (r : GRat) : Bool := decide ((r.num.size : Int) ≤ 24) && decide ((r.den.size : Int) ≤ 24)
def fewCl : List GClaim → Bool
  | [] => true
  | c :: l => if fewR c.amount = true then fewCl l else false
def fewPt : List GPart → Bool
  | [] => true
  | c :: l => if fewR c.cap = true then fewPt l else false
def fewTr : List (List GPart) → Bool
  | [] => true
  | t :: l => if (30 : Int) < (t.length : Int) then false else if fewPt t = true then fewTr l else false
def fewAg : List GAgr → Bool
  | [] => true
  | a :: l => if (30 : Int) < (a.length : Int) then false else if fewTr a = true then fewAg l else false
def fewE (e : GEst) : Bool := if (8 : Int) < (e.claims.length : Int) then false else if (4 : Int) < (e.agrs.length : Int) then false else if fewR e.cash = true then (if fewCl e.claims = true then fewAg e.agrs else false) else false
def F_lFew := And.intro zS (And.intro tf39 (And.intro tf40 (And.intro tf41 (tf42))))
set_option maxHeartbeats 4000000 in
theorem fewR_A (r : GRat) : ACall Tryz.prog 54 [.agg (cRat r)] (one (.bool (fewR r))) := by
 refine acall_of Tryz.func54 rfl (by decide) (N := 13) rfl (by simp) (R := [.tmp 2]) rfl fun en k0 => ?_
 refine awR [] [none, none] ?_
 simp only [(id F_lFew), seval, cRat]
 repeat refine ob ?_
 by_cases h1 : (r.num.size : Int) ≤ 24
 ·
  by_cases h2 : (r.den.size : Int) ≤ 24
  ·
   refine awR [] [none, none, none, none, none, some (7, true), some (7, true), some (7, true), some (7, true), none, none] ?_
   simp only [(id F_lFew), seval, cRat, h1, h2]
   repeat refine ob ?_
   refine awX ?_
   (first | (simp only [(id F_lFew), seval, cRat, fewR, h1, h2]; done) | (simp only [(id F_lFew), seval, cRat]; first | (simp [fewR, h1, h2]; done)))
  refine awR [] [none, none, none, none, none, some (7, true), some (7, true), some (7, true), some (7, true), none, none] ?_
  simp only [(id F_lFew), seval, cRat, h1, h2]
  repeat refine ob ?_
  refine awX ?_
  (first | (simp only [(id F_lFew), seval, cRat, fewR, h1, h2]; done) | (simp only [(id F_lFew), seval, cRat]; first | (simp [fewR, h1, h2]; done)))
 refine awR [] [none, none, none, none, none, some (7, true), some (7, true), some (7, true), some (7, true), none, none] ?_
 simp only [(id F_lFew), seval, cRat, h1]
 repeat refine ob ?_
 refine awX ?_
 (first | (simp only [(id F_lFew), seval, cRat, fewR, h1]; done) | (simp only [(id F_lFew), seval, cRat]; first | (simp [fewR, h1]; done)))
def F_wFew := And.intro zS (And.intro tf1 (And.intro tf20 (And.intro tf21 (And.intro tf6 (And.intro tf2 (And.intro tf23 (And.intro tf24 (And.intro tf0 (And.intro tf8 (And.intro tf27 (And.intro tf28 (And.intro tf29 (And.intro tf30 (And.intro tf17 (And.intro tf10 (And.intro tf31 (And.intro tf32 (And.intro tf3 (And.intro tf33 (And.intro tf34 (And.intro tf11 (And.intro tf18 (And.intro tf35 (And.intro tf36 (tf5)))))))))))))))))))))))))
set_option maxHeartbeats 4000000 in
theorem fewE_A (e : GEst) (he : okEst e) : ACall Tryz.prog 32 [.agg (cEst e)] (one (.bool (fewE e))) := by
 have hn0 := he.2.1.1
 have hn1 := he.2.2.1
 unfold maxLen at hn0 hn1
 refine acall_of Tryz.func32 rfl (by decide) (N := 73) rfl (by simp) (R := [.tmp 2]) rfl fun en k0 => ?_
 refine awR [] [none, none] ?_
 simp only [(id F_wFew), seval, cEst]
 repeat refine ob ?_
 by_cases h1 : (8 : Int) < (e.claims.length : Int)
 ·
  refine awR [] [none, none, none, none, none, some (15, false), some (15, false), some (15, false), some (15, false), none, none, some (21, false), some (21, false), some (21, false), some (21, false), none] ?_
  simp only [(id F_wFew), seval, cEst, h1]
  repeat refine ob ?_
  refine awT ?_
  refine awR [] [none] ?_
  simp only [(id F_wFew), seval, cEst, h1]
  repeat refine ob ?_
  refine awX ?_
  (first | (simp only [(id F_wFew), seval, cEst, fewE, h1]; done) | (simp only [(id F_wFew), seval, cEst]; first | (simp [fewE, h1]; done)))
 by_cases h2 : (4 : Int) < (e.agrs.length : Int)
 ·
  refine awR [] [none, none, none, none, none, some (15, false), some (15, false), some (15, false), some (15, false), none, none, some (21, false), some (21, false), some (21, false), some (21, false), none] ?_
  simp only [(id F_wFew), seval, cEst, h1, h2]
  repeat refine ob ?_
  refine awT ?_
  refine awR [] [none] ?_
  simp only [(id F_wFew), seval, cEst, h1, h2]
  repeat refine ob ?_
  refine awX ?_
  (first | (simp only [(id F_wFew), seval, cEst, fewE, h1, h2]; done) | (simp only [(id F_wFew), seval, cEst]; first | (simp [fewE, h1, h2]; done)))
 by_cases h3 : fewR e.cash = true
 ·
  refine awR [] [none, none, none, none, none, some (15, false), some (15, false), some (15, false), some (15, false), none, none, some (21, false), some (21, false), some (21, false), some (21, false), none] ?_
  simp only [(id F_wFew), seval, cEst, h1, h2, h3]
  repeat refine ob ?_
  refine ⟨_, fewR_A e.cash, rfl, ?_⟩
  simp only [Later, (id F_wFew), seval, cEst, h1, h2, h3]
  repeat refine ob ?_
  refine awF ?_
  refine awK ?_
  simp only [(id F_wFew), seval]
  refine awp_cut (M := fun st => ∃ nx, fewCl e.claims = true ∧ st = ⟨mkT [(1, .val (.one (.ptr 1 0 0)))], mkH [(1, ⟨0, 36, 5, 1, cEst e⟩)], nx, 0⟩) ?_ ?_
  ·
   refine awR [] [none, none, none, none] ?_
   simp only [(id F_wFew), seval, cEst, h1, h2, h3]
   repeat refine ob ?_
   refine awp_keep [1, 28, 29, 30] [1] ?_
   simp only [Later, (id F_wFew), seval, cEst, h1, h2, h3]
   repeat' first|apply awS|apply awB
   refine awp_loopw (fun n st => ∃ k0 nx, k0 ≤ e.claims.length ∧ n = e.claims.length - k0 ∧ fewCl (e.claims.drop k0) = fewCl e.claims ∧ st = ⟨mkT [(1, .val (.one (.ptr 1 0 0))), (28, .val (.one (.sh 5 e.claims.length (flat cClaim e.claims)))), (29, one (.int .i64 e.claims.length)), (30, one (.int .i64 k0))], mkH [(1, ⟨0, 36, 5, 1, cEst e⟩)], nx, 0⟩) (e.claims.length) ⟨0, _, by omega, by omega, by rfl, rfl⟩ ?_
   rintro n0 st ⟨k0, nx0, hk0, rfl, hL0, rfl⟩
   by_cases hlt0 : k0 < e.claims.length
   ·
    have hI0 : (k0 : Int) < (e.claims.length : Int) := by omega
    have hat0 := flat_at cClaim_len e.claims k0 hlt0
    try rw [Nat.mul_one] at hat0
    rw [List.drop_eq_getElem_cons hlt0] at hL0
    generalize e.claims[k0] = c at *
    simp only [fewCl] at hL0
    refine awR [] [none] ?_
    simp only [(id F_wFew), seval, cEst, h1, h2, h3, hI0, hat0]
    repeat refine ob ?_
    refine awT ?_
    refine awK ?_
    simp only [(id F_wFew), seval]
    refine awR [] [none, none, none, none] ?_
    simp only [(id F_wFew), seval, cEst, h1, h2, h3, hI0, hat0, cClaim]
    repeat refine ob ?_
    by_cases h4 : fewR c.amount = true
    ·
     refine awR [] [none, none, none, none] ?_
     simp only [(id F_wFew), seval, cEst, h1, h2, h3, hI0, hat0, h4, cClaim]
     repeat refine ob ?_
     refine ⟨_, fewR_A c.amount, rfl, ?_⟩
     simp only [Later, (id F_wFew), seval, cEst, h1, h2, h3, hI0, hat0, h4, cClaim]
     repeat refine ob ?_
     refine awF ?_
     refine awK ?_
     simp only [(id F_wFew), seval]
     refine awR [] [none, none] ?_
     simp only [(id F_wFew), seval, cEst, h1, h2, h3, hI0, hat0, h4]
     repeat refine ob ?_
     repeat refine ob ?_
     refine ⟨_, wk_keep [1, 28, 29, 30] [1], e.claims.length - (k0 + 1), by omega, k0 + 1, ?a13_nx, by omega, rfl, ?i13_0, ?st13⟩
     case st13 => (simp only [(id F_wFew), seval, cEst]; first | rfl | (simp [Nat.add_mul]; done))
     case i13_0 => (first | exact hL0 | (rw [← hL0]; simp only [reduceIte, h1, h2, h3, hI0, hat0, h4]; done) | (rw [← hL0]; simp [h1, h2, h3, hI0, hat0, h4]; done) | (simp [h1, h2, h3, hI0, hat0, h4] at hL0; simpa using hL0) | (rw [← hL0]; simp [*]; done))
    refine awR [] [none, none, none, none] ?_
    simp only [(id F_wFew), seval, cEst, h1, h2, h3, hI0, hat0, h4, cClaim]
    repeat refine ob ?_
    refine ⟨_, fewR_A c.amount, rfl, ?_⟩
    simp only [Later, (id F_wFew), seval, cEst, h1, h2, h3, hI0, hat0, h4, cClaim]
    repeat refine ob ?_
    refine awT ?_
    refine awR [] [none] ?_
    simp only [(id F_wFew), seval, cEst, h1, h2, h3, hI0, hat0, h4]
    repeat refine ob ?_
    refine awX ?_
    (first | (simp only [(id F_wFew), seval, cEst, fewE, h1, h2, h3, hI0, hat0, h4, ← hL0]; done) | (simp only [(id F_wFew), seval, cEst]; first | (simp [fewE, h1, h2, h3, hI0, hat0, h4, ← hL0]; done) | (simp [fewE, h1, h2, h3, hI0, hat0, h4]; done) | (rw [← hL0]; simp [fewE, h1, h2, h3, hI0, hat0, h4]; done)))
   obtain rfl : k0 = e.claims.length := by omega
   have hI0 : ¬ (e.claims.length : Int) < (e.claims.length : Int) := by omega
   rw [List.drop_length] at hL0
   simp only [fewCl] at hL0
   refine awR [] [none] ?_
   simp only [(id F_wFew), seval, cEst, h1, h2, h3, hI0]
   repeat refine ob ?_
   refine awF ?_
   refine awQ ?_
   simp only [(id F_wFew), seval]
   refine ⟨_, wk_keep [1] [1], ?c18_0, ?ci18_0, ?cs18⟩
   case cs18 => (simp only [(id F_wFew), seval]; rfl)
   case ci18_0 => (first | assumption | omega | (rw [← hL0]; done) | (rw [hL0]; done) | exact hL0.symm | (simp [← hL0]; done))
  rintro st ⟨nxc0, hC0, rfl⟩
  refine awR [] [none, none, none, none] ?_
  simp only [(id F_wFew), seval, cEst, h1, h2, h3, hC0]
  repeat refine ob ?_
  refine awp_keep [1, 40, 41, 42] [1] ?_
  simp only [Later, (id F_wFew), seval, cEst, h1, h2, h3, hC0]
  repeat' first|apply awS|apply awB
  refine awp_loopw (fun n st => ∃ k1 nx, k1 ≤ e.agrs.length ∧ n = e.agrs.length - k1 ∧ fewAg (e.agrs.drop k1) = fewAg e.agrs ∧ st = ⟨mkT [(1, .val (.one (.ptr 1 0 0))), (40, .val (.one (.sh 1 e.agrs.length (flat cAgr e.agrs)))), (41, one (.int .i64 e.agrs.length)), (42, one (.int .i64 k1))], mkH [(1, ⟨0, 36, 5, 1, cEst e⟩)], nx, 0⟩) (e.agrs.length) ⟨0, _, by omega, by omega, by rfl, rfl⟩ ?_
  rintro n1 st ⟨k1, nx1, hk1, rfl, hL1, rfl⟩
  by_cases hlt1 : k1 < e.agrs.length
  ·
   have hI1 : (k1 : Int) < (e.agrs.length : Int) := by omega
   have hat1 := flat_at cAgr_len e.agrs k1 hlt1
   try rw [Nat.mul_one] at hat1
   rw [List.drop_eq_getElem_cons hlt1] at hL1
   have hA := he.2.2.2 _ (List.getElem_mem hlt1)
   have hn2 := hA.1
   unfold maxLen at hn2
   generalize e.agrs[k1] = a at *
   simp only [fewAg] at hL1
   refine awR [] [none] ?_
   simp only [(id F_wFew), seval, cEst, h1, h2, h3, hC0, hI1, hat1]
   repeat refine ob ?_
   refine awT ?_
   refine awK ?_
   simp only [(id F_wFew), seval]
   refine awR [] [none, none, none, none] ?_
   simp only [(id F_wFew), seval, cEst, h1, h2, h3, hC0, hI1, hat1, cAgr]
   repeat refine ob ?_
   by_cases h5 : (30 : Int) < (a.length : Int)
   ·
    refine awR [] [none, none, none, none] ?_
    simp only [(id F_wFew), seval, cEst, h1, h2, h3, hC0, hI1, hat1, h5, cAgr]
    repeat refine ob ?_
    refine awT ?_
    refine awR [] [none] ?_
    simp only [(id F_wFew), seval, cEst, h1, h2, h3, hC0, hI1, hat1, h5]
    repeat refine ob ?_
    refine awX ?_
    (first | (simp only [(id F_wFew), seval, cEst, fewE, h1, h2, h3, hC0, hI1, hat1, h5, ← hL1]; done) | (simp only [(id F_wFew), seval, cEst]; first | (simp [fewE, h1, h2, h3, hC0, hI1, hat1, h5, ← hL1]; done) | (simp [fewE, h1, h2, h3, hC0, hI1, hat1, h5]; done) | (rw [← hL1]; simp [fewE, h1, h2, h3, hC0, hI1, hat1, h5]; done)))
   refine awR [] [none, none, none, none] ?_
   simp only [(id F_wFew), seval, cEst, h1, h2, h3, hC0, hI1, hat1, h5, cAgr]
   repeat refine ob ?_
   refine awF ?_
   refine awK ?_
   simp only [(id F_wFew), seval]
   refine awR [] [none, none, none, none] ?_
   simp only [(id F_wFew), seval, cEst, h1, h2, h3, hC0, hI1, hat1, h5, cAgr]
   repeat refine ob ?_
   refine awp_keep [1, 40, 41, 42, 51, 52, 53] [1] ?_
   simp only [Later, (id F_wFew), seval, cEst, h1, h2, h3, hC0, hI1, hat1, h5]
   repeat' first|apply awS|apply awB
   refine awp_loopw (fun n st => ∃ k2 nx, k2 ≤ a.length ∧ n = a.length - k2 ∧ fewTr (a.drop k2) = fewTr a ∧ st = ⟨mkT [(1, .val (.one (.ptr 1 0 0))), (40, .val (.one (.sh 1 e.agrs.length (flat cAgr e.agrs)))), (41, one (.int .i64 e.agrs.length)), (42, one (.int .i64 k1)), (51, .val (.one (.sh 1 a.length (flat cTier a)))), (52, one (.int .i64 a.length)), (53, one (.int .i64 k2))], mkH [(1, ⟨0, 36, 5, 1, cEst e⟩)], nx, 0⟩) (a.length) ⟨0, _, by omega, by omega, by rfl, rfl⟩ ?_
   rintro n2 st ⟨k2, nx2, hk2, rfl, hL2, rfl⟩
   by_cases hlt2 : k2 < a.length
   ·
    have hI2 : (k2 : Int) < (a.length : Int) := by omega
    have hat2 := flat_at cTier_len a k2 hlt2
    try rw [Nat.mul_one] at hat2
    rw [List.drop_eq_getElem_cons hlt2] at hL2
    have hn3 := (hA.2 _ (List.getElem_mem hlt2)).1
    unfold maxLen at hn3
    generalize a[k2] = t at *
    simp only [fewTr] at hL2
    refine awR [] [none] ?_
    simp only [(id F_wFew), seval, cEst, h1, h2, h3, hC0, hI1, hat1, h5, hI2, hat2]
    repeat refine ob ?_
    refine awT ?_
    refine awK ?_
    simp only [(id F_wFew), seval]
    refine awR [] [none, none, none] ?_
    simp only [(id F_wFew), seval, cEst, h1, h2, h3, hC0, hI1, hat1, h5, hI2, hat2, cTier]
    repeat refine ob ?_
    by_cases h6 : (30 : Int) < (t.length : Int)
    ·
     refine awR [] [none, none, none] ?_
     simp only [(id F_wFew), seval, cEst, h1, h2, h3, hC0, hI1, hat1, h5, hI2, hat2, h6]
     repeat refine ob ?_
     refine awT ?_
     refine awR [] [none] ?_
     simp only [(id F_wFew), seval, cEst, h1, h2, h3, hC0, hI1, hat1, h5, hI2, hat2, h6]
     repeat refine ob ?_
     refine awX ?_
     (first | (simp only [(id F_wFew), seval, cEst, fewE, h1, h2, h3, hC0, hI1, hat1, h5, hI2, hat2, h6, ← hL1, ← hL2]; done) | (simp only [(id F_wFew), seval, cEst]; first | (simp [fewE, h1, h2, h3, hC0, hI1, hat1, h5, hI2, hat2, h6, ← hL1, ← hL2]; done) | (simp [fewE, h1, h2, h3, hC0, hI1, hat1, h5, hI2, hat2, h6]; done) | (rw [← hL1, ← hL2]; simp [fewE, h1, h2, h3, hC0, hI1, hat1, h5, hI2, hat2, h6]; done)))
    refine awR [] [none, none, none] ?_
    simp only [(id F_wFew), seval, cEst, h1, h2, h3, hC0, hI1, hat1, h5, hI2, hat2, h6]
    repeat refine ob ?_
    refine awF ?_
    refine awK ?_
    simp only [(id F_wFew), seval]
    refine awR [] [none, none, none] ?_
    simp only [(id F_wFew), seval, cEst, h1, h2, h3, hC0, hI1, hat1, h5, hI2, hat2, h6]
    repeat refine ob ?_
    refine awp_keep [1, 40, 41, 42, 51, 52, 53, 60, 61, 62] [1] ?_
    simp only [Later, (id F_wFew), seval, cEst, h1, h2, h3, hC0, hI1, hat1, h5, hI2, hat2, h6]
    repeat' first|apply awS|apply awB
    refine awp_loopw (fun n st => ∃ k3 nx, k3 ≤ t.length ∧ n = t.length - k3 ∧ fewPt (t.drop k3) = fewPt t ∧ st = ⟨mkT [(1, .val (.one (.ptr 1 0 0))), (40, .val (.one (.sh 1 e.agrs.length (flat cAgr e.agrs)))), (41, one (.int .i64 e.agrs.length)), (42, one (.int .i64 k1)), (51, .val (.one (.sh 1 a.length (flat cTier a)))), (52, one (.int .i64 a.length)), (53, one (.int .i64 k2)), (60, .val (.one (.sh 5 t.length (flat cPart t)))), (61, one (.int .i64 t.length)), (62, one (.int .i64 k3))], mkH [(1, ⟨0, 36, 5, 1, cEst e⟩)], nx, 0⟩) (t.length) ⟨0, _, by omega, by omega, by rfl, rfl⟩ ?_
    rintro n3 st ⟨k3, nx3, hk3, rfl, hL3, rfl⟩
    by_cases hlt3 : k3 < t.length
    ·
     have hI3 : (k3 : Int) < (t.length : Int) := by omega
     have hat3 := flat_at cPart_len t k3 hlt3
     try rw [Nat.mul_one] at hat3
     rw [List.drop_eq_getElem_cons hlt3] at hL3
     generalize t[k3] = p at *
     simp only [fewPt] at hL3
     refine awR [] [none] ?_
     simp only [(id F_wFew), seval, cEst, h1, h2, h3, hC0, hI1, hat1, h5, hI2, hat2, h6, hI3, hat3]
     repeat refine ob ?_
     refine awT ?_
     refine awK ?_
     simp only [(id F_wFew), seval]
     refine awR [] [none, none, none, none] ?_
     simp only [(id F_wFew), seval, cEst, h1, h2, h3, hC0, hI1, hat1, h5, hI2, hat2, h6, hI3, hat3, cPart]
     repeat refine ob ?_
     by_cases h7 : fewR p.cap = true
     ·
      refine awR [] [none, none, none, none] ?_
      simp only [(id F_wFew), seval, cEst, h1, h2, h3, hC0, hI1, hat1, h5, hI2, hat2, h6, hI3, hat3, h7, cPart]
      repeat refine ob ?_
      refine ⟨_, fewR_A p.cap, rfl, ?_⟩
      simp only [Later, (id F_wFew), seval, cEst, h1, h2, h3, hC0, hI1, hat1, h5, hI2, hat2, h6, hI3, hat3, h7, cPart]
      repeat refine ob ?_
      refine awF ?_
      refine awK ?_
      simp only [(id F_wFew), seval]
      refine awR [] [none, none] ?_
      simp only [(id F_wFew), seval, cEst, h1, h2, h3, hC0, hI1, hat1, h5, hI2, hat2, h6, hI3, hat3, h7]
      repeat refine ob ?_
      repeat refine ob ?_
      refine ⟨_, wk_keep [1, 40, 41, 42, 51, 52, 53, 60, 61, 62] [1], t.length - (k3 + 1), by omega, k3 + 1, ?a38_nx, by omega, rfl, ?i38_0, ?st38⟩
      case st38 => (simp only [(id F_wFew), seval, cEst]; first | rfl | (simp [Nat.add_mul]; done))
      case i38_0 => (first | exact hL3 | (rw [← hL3]; simp only [reduceIte, h1, h2, h3, hC0, hI1, hat1, h5, hI2, hat2, h6, hI3, hat3, h7]; done) | (rw [← hL3]; simp [h1, h2, h3, hC0, hI1, hat1, h5, hI2, hat2, h6, hI3, hat3, h7]; done) | (simp [h1, h2, h3, hC0, hI1, hat1, h5, hI2, hat2, h6, hI3, hat3, h7] at hL3; simpa using hL3) | (rw [← hL3]; simp [*]; done))
     refine awR [] [none, none, none, none] ?_
     simp only [(id F_wFew), seval, cEst, h1, h2, h3, hC0, hI1, hat1, h5, hI2, hat2, h6, hI3, hat3, h7, cPart]
     repeat refine ob ?_
     refine ⟨_, fewR_A p.cap, rfl, ?_⟩
     simp only [Later, (id F_wFew), seval, cEst, h1, h2, h3, hC0, hI1, hat1, h5, hI2, hat2, h6, hI3, hat3, h7, cPart]
     repeat refine ob ?_
     refine awT ?_
     refine awR [] [none] ?_
     simp only [(id F_wFew), seval, cEst, h1, h2, h3, hC0, hI1, hat1, h5, hI2, hat2, h6, hI3, hat3, h7]
     repeat refine ob ?_
     refine awX ?_
     (first | (simp only [(id F_wFew), seval, cEst, fewE, h1, h2, h3, hC0, hI1, hat1, h5, hI2, hat2, h6, hI3, hat3, h7, ← hL1, ← hL2, ← hL3]; done) | (simp only [(id F_wFew), seval, cEst]; first | (simp [fewE, h1, h2, h3, hC0, hI1, hat1, h5, hI2, hat2, h6, hI3, hat3, h7, ← hL1, ← hL2, ← hL3]; done) | (simp [fewE, h1, h2, h3, hC0, hI1, hat1, h5, hI2, hat2, h6, hI3, hat3, h7]; done) | (rw [← hL1, ← hL2, ← hL3]; simp [fewE, h1, h2, h3, hC0, hI1, hat1, h5, hI2, hat2, h6, hI3, hat3, h7]; done)))
    obtain rfl : k3 = t.length := by omega
    have hI3 : ¬ (t.length : Int) < (t.length : Int) := by omega
    rw [List.drop_length] at hL3
    simp only [fewPt] at hL3
    refine awR [] [none] ?_
    simp only [(id F_wFew), seval, cEst, h1, h2, h3, hC0, hI1, hat1, h5, hI2, hat2, h6, hI3]
    repeat refine ob ?_
    refine awF ?_
    refine awQ ?_
    simp only [(id F_wFew), seval]
    refine awR [] [none, none] ?_
    simp only [(id F_wFew), seval, cEst, h1, h2, h3, hC0, hI1, hat1, h5, hI2, hat2, h6, hI3]
    repeat refine ob ?_
    repeat refine ob ?_
    refine ⟨_, wk_keep [1, 40, 41, 42, 51, 52, 53] [1], a.length - (k2 + 1), by omega, k2 + 1, ?a44_nx, by omega, rfl, ?i44_0, ?st44⟩
    case st44 => (simp only [(id F_wFew), seval, cEst]; first | rfl | (simp [Nat.add_mul]; done))
    case i44_0 => (first | exact hL2 | (rw [← hL2]; simp only [reduceIte, h1, h2, h3, hC0, hI1, hat1, h5, hI2, hat2, h6, hI3]; done) | (rw [← hL2]; simp [h1, h2, h3, hC0, hI1, hat1, h5, hI2, hat2, h6, hI3]; done) | (simp [h1, h2, h3, hC0, hI1, hat1, h5, hI2, hat2, h6, hI3] at hL2; simpa using hL2) | (rw [← hL2]; simp [*]; done))
   obtain rfl : k2 = a.length := by omega
   have hI2 : ¬ (a.length : Int) < (a.length : Int) := by omega
   rw [List.drop_length] at hL2
   simp only [fewTr] at hL2
   refine awR [] [none] ?_
   simp only [(id F_wFew), seval, cEst, h1, h2, h3, hC0, hI1, hat1, h5, hI2]
   repeat refine ob ?_
   refine awF ?_
   refine awQ ?_
   simp only [(id F_wFew), seval]
   refine awR [] [none, none] ?_
   simp only [(id F_wFew), seval, cEst, h1, h2, h3, hC0, hI1, hat1, h5, hI2]
   repeat refine ob ?_
   repeat refine ob ?_
   refine ⟨_, wk_keep [1, 40, 41, 42] [1], e.agrs.length - (k1 + 1), by omega, k1 + 1, ?a47_nx, by omega, rfl, ?i47_0, ?st47⟩
   case st47 => (simp only [(id F_wFew), seval, cEst]; first | rfl | (simp [Nat.add_mul]; done))
   case i47_0 => (first | exact hL1 | (rw [← hL1]; simp only [reduceIte, h1, h2, h3, hC0, hI1, hat1, h5, hI2]; done) | (rw [← hL1]; simp [h1, h2, h3, hC0, hI1, hat1, h5, hI2]; done) | (simp [h1, h2, h3, hC0, hI1, hat1, h5, hI2] at hL1; simpa using hL1) | (rw [← hL1]; simp [*]; done))
  obtain rfl : k1 = e.agrs.length := by omega
  have hI1 : ¬ (e.agrs.length : Int) < (e.agrs.length : Int) := by omega
  rw [List.drop_length] at hL1
  simp only [fewAg] at hL1
  refine awR [] [none] ?_
  simp only [(id F_wFew), seval, cEst, h1, h2, h3, hC0, hI1]
  repeat refine ob ?_
  refine awF ?_
  refine awQ ?_
  simp only [(id F_wFew), seval]
  refine awR [] [none] ?_
  simp only [(id F_wFew), seval, cEst, h1, h2, h3, hC0, hI1]
  repeat refine ob ?_
  refine awX ?_
  (first | (simp only [(id F_wFew), seval, cEst, fewE, h1, h2, h3, hC0, hI1, ← hL1]; done) | (simp only [(id F_wFew), seval, cEst]; first | (simp [fewE, h1, h2, h3, hC0, hI1, ← hL1]; done) | (simp [fewE, h1, h2, h3, hC0, hI1]; done) | (rw [← hL1]; simp [fewE, h1, h2, h3, hC0, hI1]; done)))
 refine awR [] [none, none, none, none, none, some (15, false), some (15, false), some (15, false), some (15, false), none, none, some (21, false), some (21, false), some (21, false), some (21, false), none] ?_
 simp only [(id F_wFew), seval, cEst, h1, h2, h3]
 repeat refine ob ?_
 refine ⟨_, fewR_A e.cash, rfl, ?_⟩
 simp only [Later, (id F_wFew), seval, cEst, h1, h2, h3]
 repeat refine ob ?_
 refine awT ?_
 refine awR [] [none] ?_
 simp only [(id F_wFew), seval, cEst, h1, h2, h3]
 repeat refine ob ?_
 refine awX ?_
 (first | (simp only [(id F_wFew), seval, cEst, fewE, h1, h2, h3]; done) | (simp only [(id F_wFew), seval, cEst]; first | (simp [fewE, h1, h2, h3]; done)))
theorem fewR_ok {r : GRat} (h : fewR r = true) : ratOK r := by
  simp only [fewR, Bool.and_eq_true, decide_eq_true_eq] at h
  unfold ratOK; omega
theorem fewCl_ok : ∀ {l : List GClaim}, fewCl l = true → ∀ c ∈ l, ratOK c.amount
  | [], _, c, hc => by cases hc
  | a :: l, h, c, hc => by
    simp only [fewCl] at h
    split at h
    · rcases List.mem_cons.1 hc with rfl | hc
      · exact fewR_ok ‹_›
      exact fewCl_ok h c hc
    cases h
theorem fewPt_ok : ∀ {l : List GPart}, fewPt l = true → ∀ c ∈ l, ratOK c.cap
  | [], _, c, hc => by cases hc
  | a :: l, h, c, hc => by
    simp only [fewPt] at h
    split at h
    · rcases List.mem_cons.1 hc with rfl | hc
      · exact fewR_ok ‹_›
      exact fewPt_ok h c hc
    cases h
theorem fewTr_ok : ∀ {l : List (List GPart)}, fewTr l = true → ∀ t ∈ l, t.length ≤ 30 ∧ ∀ p ∈ t, ratOK p.cap
  | [], _, c, hc => by cases hc
  | a :: l, h, c, hc => by
    simp only [fewTr] at h
    split at h
    · cases h
    split at h
    · rcases List.mem_cons.1 hc with rfl | hc
      · exact ⟨by omega, fewPt_ok ‹_›⟩
      exact fewTr_ok h c hc
    cases h
theorem fewAg_ok : ∀ {l : List GAgr}, fewAg l = true → ∀ a ∈ l, a.length ≤ 30 ∧ ∀ t ∈ a, t.length ≤ 30 ∧ ∀ p ∈ t, ratOK p.cap
  | [], _, c, hc => by cases hc
  | a :: l, h, c, hc => by
    simp only [fewAg] at h
    split at h
    · cases h
    split at h
    · rcases List.mem_cons.1 hc with rfl | hc
      · exact ⟨by omega, fewTr_ok ‹_›⟩
      exact fewAg_ok h c hc
    cases h
theorem fewE_ok {e : GEst} (h : fewE e = true) : estOK2 e := by
  simp only [fewE] at h
  split at h
  · cases h
  split at h
  · cases h
  split at h
  · split at h
    · have h1 := fewAg_ok h
      refine ⟨⟨fewR_ok ‹_›, fewCl_ok ‹_›, by omega, fun a ha => ⟨fun t ht => ?_, fun p hp => ?_⟩⟩, fun a ha => ?_⟩
      · have := ((h1 a ha).2 t ht).1; omega
      · obtain ⟨t, ht, hp⟩ := List.mem_flatten.1 hp
        exact ((h1 a ha).2 t ht).2 p hp
      have := (h1 a ha).1; omega
    cases h
  cases h
end Go.Proofs.YtmbahnmhicdjfaaGreatDoor
end
section
/- The arithmetic of both sides as contracts on plain data. -/
namespace Go.Proofs.YtmbahnmhicdjfaaGreatDoor
open Go Go.RowKit
theorem aAdd (r1 r2 : GRat) (m n : Nat) (h1 : sB m r1) (h2 : sB n r2) (hm : m ≤ 100000000000) (hn : n ≤ 100000000000) (hm0 : 0 < m) (hn0 : 0 < n) : ACall Tryz.prog 42 [.agg (cRat r1), .agg (cRat r2)] (.val (.agg (cRat (enc (qOf r1 + qOf r2))))) :=
  acall_flat (fnOK_of Tryz.func42 (by decide) (by kernel_rfl)) [vRat r1, vRat r2] (vRat (enc (qOf r1 + qOf r2))) fun w => qAdd_any r1 r2 m n w h1 h2 hm hn hm0 hn0
theorem aSub (r1 r2 : GRat) (m n : Nat) (h1 : sB m r1) (h2 : sB n r2) (hm : m ≤ 100000000000) (hn : n ≤ 100000000000) (hm0 : 0 < m) (hn0 : 0 < n) : ACall Tryz.prog 51 [.agg (cRat r1), .agg (cRat r2)] (.val (.agg (cRat (enc (qOf r1 - qOf r2))))) :=
  acall_flat (fnOK_of Tryz.func51 (by decide) (by kernel_rfl)) [vRat r1, vRat r2] (vRat (enc (qOf r1 - qOf r2))) fun w => qSubtract_any r1 r2 m n w h1 h2 hm hn hm0 hn0
theorem aMul (r1 r2 : GRat) (m n : Nat) (h1 : sB m r1) (h2 : sB n r2) (hm : m ≤ 100000000000) (hn : n ≤ 100000000000) (hm0 : 0 < m) (hn0 : 0 < n) : ACall Tryz.prog 40 [.agg (cRat r1), .agg (cRat r2)] (.val (.agg (cRat (enc (qOf r1 * qOf r2))))) :=
  acall_flat (fnOK_of Tryz.func40 (by decide) (by kernel_rfl)) [vRat r1, vRat r2] (vRat (enc (qOf r1 * qOf r2))) fun w => qMultiply_any r1 r2 m n w h1 h2 hm hn hm0 hn0
theorem aMin (r1 r2 : GRat) (m n : Nat) (h1 : sB m r1) (h2 : sB n r2) (hm : m ≤ 100000000000) (hn : n ≤ 100000000000) (hm0 : 0 < m) (hn0 : 0 < n) : ACall Tryz.prog 47 [.agg (cRat r1), .agg (cRat r2)] (.val (.agg (cRat (enc (qmin (qOf r1) (qOf r2)))))) :=
  acall_flat (fnOK_of Tryz.func47 (by decide) (by kernel_rfl)) [vRat r1, vRat r2] (vRat (enc (qmin (qOf r1) (qOf r2)))) fun w => qMin_any r1 r2 m n w h1 h2 hm hn hm0 hn0
theorem aMax (r1 r2 : GRat) (m n : Nat) (h1 : sB m r1) (h2 : sB n r2) (hm : m ≤ 100000000000) (hn : n ≤ 100000000000) (hm0 : 0 < m) (hn0 : 0 < n) : ACall Tryz.prog 138 [.agg (cRat r1), .agg (cRat r2)] (.val (.agg (cRat (enc (qmax (qOf r1) (qOf r2)))))) :=
  acall_flat (fnOK_of Tryz.func138 (by decide) (by kernel_rfl)) [vRat r1, vRat r2] (vRat (enc (qmax (qOf r1) (qOf r2)))) fun w => qMax_any r1 r2 m n w h1 h2 hm hn hm0 hn0
theorem aInt (n : Int) (h0 : -9223372036854775808 ≤ n) (h1 : n ≤ 9223372036854775807) : ACall Tryz.prog 49 [.one (.lit (.int .i64 n))] (.val (.agg (cRat (enc (n : Rat))))) :=
  acall_flat (fnOK_of Tryz.func49 (by decide) (by kernel_rfl)) [.int .i64 n] (vRat (enc (n : Rat))) fun w => qInt_any n w h0 h1
end Go.Proofs.YtmbahnmhicdjfaaGreatDoor
end
