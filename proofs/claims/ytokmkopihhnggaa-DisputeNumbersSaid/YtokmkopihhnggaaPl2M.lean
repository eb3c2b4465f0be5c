/- Plain law: the program's check of a group is the reference's. No walk. -/
import Derived.Test.YtokmkopihhnggaaLawM
set_option linter.unusedVariables false
set_option linter.unusedSimpArgs false
set_option linter.defProp false
set_option linter.unnecessarySimpa false
section
/- Plain law: the program's check of a group is the reference's. No walk. -/
namespace Go.Proofs.Ytokmkopihhnggaa
open Go Go.RowKit
end Go.Proofs.Ytokmkopihhnggaa
end
section
/- Few: what is short enough for a law; walked by the abstract machine. -/
namespace Go.Proofs.Ytokmkopihhnggaa
open Go Go.RowKit
end Go.Proofs.Ytokmkopihhnggaa
end
section
/- Disputes: exists, options, count, Check, on both sides; walked by the abstract machine. -/
namespace Go.Proofs.Ytokmkopihhnggaa
open Go Go.RowKit
def cOpt (x : GOpt) : List C := [.lit (.bool x.amount.neg), .lit (.string x.amount.num), .lit (.string x.amount.den), .lit (.int .i64 x.rank)]
def cDisp (d : GDisp) : List C := [.lit (.int .i64 d.est), .lit (.int .i64 d.cl), .sh 4 d.opts.length (flat cOpt d.opts)]
theorem cDisp_len (x : GDisp) : (cDisp x).length = 3 := rfl
theorem cOpt_pure (x : GOpt) : pureCs (cOpt x) = true := rfl
theorem cDisp_pure (x : GDisp) : pureCs (cDisp x) = true := by simp [cDisp, pureCs, pureC, flat_pure cOpt_pure]
def dLeg (d : GDisp) : Leg := (d.est, d.cl)
def cnL : List GDisp → Int → Int
  | [], n => n
  | d :: l, n => cnL l (min (n * min (d.opts.length : Int) 4097) 4097)
def dispsOK (l : List GDisp) : Prop := l.length ≤ 1000000 ∧ ∀ d ∈ l, d.opts.length ≤ 1000000 ∧ ∀ x ∈ d.opts, ratOK x.amount
def F_dCn := And.intro zS (And.intro tf0 (And.intro tf1 (And.intro tf2 (And.intro tf3 (And.intro tf4 (And.intro tf5 (tf6)))))))
set_option maxRecDepth 100000 in
set_option maxHeartbeats 4000000 in
theorem dCount_A (l : List GDisp) (hl : dispsOK l) : ACall Try.prog 7 [.one (.sh 3 l.length (flat cDisp l))] (one (.int .i64 (cnL l 1))) := by
 have hl1 := hl.1
 refine acall_of Try.func7 rfl (by decide) (N := 21) rfl (by simp) (R := [.tmp 2]) rfl fun en k0 => ?_
 refine awR [] [none] ?_
 simp only [(id F_dCn), seval]
 repeat refine ob ?_
 refine awR [] [none] ?_
 simp only [(id F_dCn), seval]
 repeat refine ob ?_
 refine awR [] [none, none, none] ?_
 simp only [(id F_dCn), seval]
 repeat refine ob ?_
 refine awp_keep [2, 3, 6, 7, 8] [] ?_
 try unfold Later
 try simp only [(id F_dCn), seval]
 repeat' first|apply awS|apply awB
 refine awp_loopw (fun n st => ∃ i0 a nx, i0 ≤ l.length ∧ n = l.length - i0 ∧ cnL (l.drop i0) a = cnL l 1 ∧ 0 ≤ a ∧ a ≤ 4097 ∧ st = ⟨mkT [(2, one (.int .i64 0)), (3, one (.int .i64 a)), (6, .val (.one (.sh 3 l.length (flat cDisp l)))), (7, one (.int .i64 l.length)), (8, one (.int .i64 i0))], mkH [], nx, 0⟩) (l.length) ⟨0, 1, _, by omega, by omega, by rfl, (by first | omega | assumption | rfl | simp | (simp; omega)), (by first | omega | assumption | rfl | simp | (simp; omega)), rfl⟩ ?_
 rintro n0 st ⟨i0, a, nx0, hk0, rfl, hL0, hV0_1, hV0_2, rfl⟩
 by_cases hlt0 : i0 < l.length
 ·
  have hI0 : (i0 : Int) < (l.length : Int) := by omega
  have hat0 := flat_at cDisp_len l i0 hlt0
  try rw [Nat.mul_one] at hat0
  rw [List.drop_eq_getElem_cons hlt0] at hL0
  have hd1 := hl.2 _ (List.getElem_mem hlt0)
  have hm0 : 0 ≤ a * min (l[i0].opts.length : Int) 4097 := Int.mul_nonneg hV0_1 (by omega)
  have hm1 : a * min (l[i0].opts.length : Int) 4097 ≤ 4097 * 4097 := Int.mul_le_mul hV0_2 (by omega) (by omega) (by omega)
  generalize l[i0] = d at *
  simp only [cnL] at hL0
  refine awR [] [none] ?_
  simp only [(id F_dCn), seval, hI0, hat0]
  repeat refine ob ?_
  refine awT ?_
  refine awK ?_
  simp only [(id F_dCn), seval]
  refine awR [] [none, none, none, none] ?_
  simp only [(id F_dCn), seval, hI0, hat0, cDisp]
  repeat refine ob ?_
  refine awR [] [none, none, none, none, none, none, none, none] ?_
  simp only [(id F_dCn), seval, hI0, hat0, cDisp]
  repeat refine ob ?_
  refine awR [] [none, none] ?_
  simp only [(id F_dCn), seval, hI0, hat0]
  repeat refine ob ?_
  repeat refine ob ?_
  refine ⟨_, wk_keep [2, 3, 6, 7, 8] [], l.length - (i0 + 1), by omega, i0 + 1, (min (a * min (d.opts.length : Int) 4097) 4097), ?a7_nx, by omega, rfl, ?i7_0, ?i7_1, ?i7_2, ?st7⟩
  case st7 => (simp only [(id F_dCn), seval, hI0, hat0]; first | rfl | (simp [hI0, hat0, Nat.add_mul]; done))
  case i7_0 => (first | exact hL0 | (rw [← hL0]; simp only [reduceIte, hI0, hat0]; done) | (rw [← hL0]; simp [hI0, hat0]; done) | (simp [hI0, hat0] at hL0; simpa using hL0) | (rw [← hL0]; simp [*]; done))
  case i7_1 => (first | omega | assumption | (simp; omega) | (simp_all; done))
  case i7_2 => (first | omega | assumption | (simp; omega) | (simp_all; done))
 obtain rfl : i0 = l.length := by omega
 have hI0 : ¬ (l.length : Int) < (l.length : Int) := by omega
 rw [List.drop_length] at hL0
 simp only [cnL] at hL0
 refine awR [] [none] ?_
 simp only [(id F_dCn), seval, hI0]
 repeat refine ob ?_
 refine awF ?_
 refine awQ ?_
 simp only [(id F_dCn), seval]
 refine awR [] [none, none] ?_
 simp only [(id F_dCn), seval, hI0]
 repeat refine ob ?_
 refine awX ?_
 (first | (simp only [(id F_dCn), seval, hI0, ← hL0]; done) | (simp only [(id F_dCn), seval]; first | (simp [hI0, ← hL0]; done) | (simp [hI0]; done) | (rw [← hL0]; simp [hI0]; done)))
end Go.Proofs.Ytokmkopihhnggaa
end
section
/- Disputes: Check on both sides; walked by the abstract machine. -/
namespace Go.Proofs.Ytokmkopihhnggaa
open Go Go.RowKit
end Go.Proofs.Ytokmkopihhnggaa
end
section
/- The builder's helpers: free, taken; walked by the abstract machine. -/
namespace Go.Proofs.Ytokmkopihhnggaa
open Go Go.RowKit
def frP (c : Int) : List GPart → Bool
  | [] => true
  | p :: l => if p.claim = c then false else frP c l
def frT (c : Int) : List (List GPart) → Bool
  | [] => true
  | t :: l => if frP c t = true then frT c l else false
def frA (c : Int) : List GAgr → Bool
  | [] => true
  | a :: l => if frT c a = true then frA c l else false
def tkL (i c : Int) : List Leg → Bool
  | [] => false
  | x :: l => if x.1 = i then (if x.2 = c then true else tkL i c l) else tkL i c l
def tkD (i c : Int) : List GDebt → Bool
  | [] => false
  | d :: l => if tkL i c d.legs = true then true else tkD i c l
def F_lFree := And.intro zS (And.intro tf7 (And.intro tf8 (And.intro tf9 (And.intro tf10 (And.intro tf11 (And.intro tf12 (And.intro tf13 (And.intro tf14 (And.intro tf15 (And.intro tf16 (And.intro tf17 (And.intro tf18 (And.intro tf19 (And.intro tf20 (And.intro tf21 (And.intro tf22 (tf23)))))))))))))))))
set_option maxHeartbeats 4000000 in
theorem free_A (e : GEst) (c : Int) (hn : e.agrs.length ≤ 1000000000000) (he : ∀ a ∈ e.agrs, a.length ≤ 1000000000000 ∧ ∀ t ∈ a, t.length ≤ 1000000000000) : ACall Try.prog 21 [.agg (cEst e), .one (.lit (.int .i64 c))] (one (.bool (frA c e.agrs))) := by
 refine acall_of Try.func21 rfl (by decide) (N := 38) rfl (by simp) (R := [.tmp 4]) rfl fun en k0 => ?_
 refine awR [] [none, none] ?_
 simp only [(id F_lFree), seval, cEst]
 repeat refine ob ?_
 refine awR [] [none, none, none, none] ?_
 simp only [(id F_lFree), seval, cEst]
 repeat refine ob ?_
 refine awp_keep [1, 2, 12, 13, 14] [2] ?_
 try unfold Later
 try simp only [(id F_lFree), seval, cEst]
 repeat' first|apply awS|apply awB
 refine awp_loopw (fun n st => ∃ k0 nx, k0 ≤ e.agrs.length ∧ n = e.agrs.length - k0 ∧ frA c (e.agrs.drop k0) = frA c e.agrs ∧ st = ⟨mkT [(1, one (.int .i64 c)), (2, .val (.one (.ptr 2 0 0))), (12, .val (.one (.sh 1 e.agrs.length (flat cAgr e.agrs)))), (13, one (.int .i64 e.agrs.length)), (14, one (.int .i64 k0))], mkH [(2, ⟨0, 49, 5, 1, cEst e⟩)], nx, 0⟩) (e.agrs.length) ⟨0, _, by omega, by omega, by rfl, rfl⟩ ?_
 rintro n0 st ⟨k0, nx0, hk0, rfl, hL0, rfl⟩
 by_cases hlt0 : k0 < e.agrs.length
 ·
  have hI0 : (k0 : Int) < (e.agrs.length : Int) := by omega
  have hat0 := flat_at cAgr_len e.agrs k0 hlt0
  try rw [Nat.mul_one] at hat0
  rw [List.drop_eq_getElem_cons hlt0] at hL0
  have hA := he _ (List.getElem_mem hlt0)
  generalize e.agrs[k0] = a at *
  simp only [frA] at hL0
  refine awR [] [none] ?_
  simp only [(id F_lFree), seval, cEst, hI0, hat0]
  repeat refine ob ?_
  refine awT ?_
  refine awK ?_
  simp only [(id F_lFree), seval]
  refine awR [] [none, none, none, none] ?_
  simp only [(id F_lFree), seval, cEst, hI0, hat0, cAgr]
  repeat refine ob ?_
  refine awR [] [none, none, none, none] ?_
  simp only [(id F_lFree), seval, cEst, hI0, hat0, cAgr]
  repeat refine ob ?_
  refine awp_keep [1, 2, 12, 13, 14, 19, 20, 21] [2] ?_
  try unfold Later
  try simp only [(id F_lFree), seval, cEst, hI0, hat0]
  repeat' first|apply awS|apply awB
  refine awp_loopw (fun n st => ∃ k1 nx, k1 ≤ a.length ∧ n = a.length - k1 ∧ frT c (a.drop k1) = frT c a ∧ st = ⟨mkT [(1, one (.int .i64 c)), (2, .val (.one (.ptr 2 0 0))), (12, .val (.one (.sh 1 e.agrs.length (flat cAgr e.agrs)))), (13, one (.int .i64 e.agrs.length)), (14, one (.int .i64 k0)), (19, .val (.one (.sh 1 a.length (flat cTier a)))), (20, one (.int .i64 a.length)), (21, one (.int .i64 k1))], mkH [(2, ⟨0, 49, 5, 1, cEst e⟩)], nx, 0⟩) (a.length) ⟨0, _, by omega, by omega, by rfl, rfl⟩ ?_
  rintro n1 st ⟨k1, nx1, hk1, rfl, hL1, rfl⟩
  by_cases hlt1 : k1 < a.length
  ·
   have hI1 : (k1 : Int) < (a.length : Int) := by omega
   have hat1 := flat_at cTier_len a k1 hlt1
   try rw [Nat.mul_one] at hat1
   rw [List.drop_eq_getElem_cons hlt1] at hL1
   have hn3 := hA.2 _ (List.getElem_mem hlt1)
   generalize a[k1] = t at *
   simp only [frT] at hL1
   refine awR [] [none] ?_
   simp only [(id F_lFree), seval, cEst, hI0, hat0, hI1, hat1]
   repeat refine ob ?_
   refine awT ?_
   refine awK ?_
   simp only [(id F_lFree), seval]
   refine awR [] [none, none, none] ?_
   simp only [(id F_lFree), seval, cEst, hI0, hat0, hI1, hat1, cTier]
   repeat refine ob ?_
   refine awR [] [none, none, none] ?_
   simp only [(id F_lFree), seval, cEst, hI0, hat0, hI1, hat1]
   repeat refine ob ?_
   refine awp_keep [1, 2, 12, 13, 14, 19, 20, 21, 25, 26, 27] [2] ?_
   try unfold Later
   try simp only [(id F_lFree), seval, cEst, hI0, hat0, hI1, hat1]
   repeat' first|apply awS|apply awB
   refine awp_loopw (fun n st => ∃ k2 nx, k2 ≤ t.length ∧ n = t.length - k2 ∧ frP c (t.drop k2) = frP c t ∧ st = ⟨mkT [(1, one (.int .i64 c)), (2, .val (.one (.ptr 2 0 0))), (12, .val (.one (.sh 1 e.agrs.length (flat cAgr e.agrs)))), (13, one (.int .i64 e.agrs.length)), (14, one (.int .i64 k0)), (19, .val (.one (.sh 1 a.length (flat cTier a)))), (20, one (.int .i64 a.length)), (21, one (.int .i64 k1)), (25, .val (.one (.sh 5 t.length (flat cPart t)))), (26, one (.int .i64 t.length)), (27, one (.int .i64 k2))], mkH [(2, ⟨0, 49, 5, 1, cEst e⟩)], nx, 0⟩) (t.length) ⟨0, _, by omega, by omega, by rfl, rfl⟩ ?_
   rintro n2 st ⟨k2, nx2, hk2, rfl, hL2, rfl⟩
   by_cases hlt2 : k2 < t.length
   ·
    have hI2 : (k2 : Int) < (t.length : Int) := by omega
    have hat2 := flat_at cPart_len t k2 hlt2
    try rw [Nat.mul_one] at hat2
    rw [List.drop_eq_getElem_cons hlt2] at hL2
    generalize t[k2] = p at *
    simp only [frP] at hL2
    refine awR [] [none] ?_
    simp only [(id F_lFree), seval, cEst, hI0, hat0, hI1, hat1, hI2, hat2]
    repeat refine ob ?_
    refine awT ?_
    refine awK ?_
    simp only [(id F_lFree), seval]
    refine awR [] [none, none, none, none] ?_
    simp only [(id F_lFree), seval, cEst, hI0, hat0, hI1, hat1, hI2, hat2, cPart]
    repeat refine ob ?_
    by_cases h1 : p.claim = c
    ·
     refine awR [] [none, none, none, none] ?_
     simp only [(id F_lFree), seval, cEst, hI0, hat0, hI1, hat1, hI2, hat2, h1, cPart]
     repeat refine ob ?_
     refine awT ?_
     refine awR [] [none] ?_
     simp only [(id F_lFree), seval, cEst, hI0, hat0, hI1, hat1, hI2, hat2, h1]
     repeat refine ob ?_
     refine awX ?_
     (first | (simp only [(id F_lFree), seval, cEst, hI0, hat0, hI1, hat1, hI2, hat2, h1, ← hL0, ← hL1, ← hL2]; done) | (simp only [(id F_lFree), seval, cEst]; first | (simp [hI0, hat0, hI1, hat1, hI2, hat2, h1, ← hL0, ← hL1, ← hL2]; done) | (simp [hI0, hat0, hI1, hat1, hI2, hat2, h1]; done) | (rw [← hL0, ← hL1, ← hL2]; simp [hI0, hat0, hI1, hat1, hI2, hat2, h1]; done)))
    refine awR [] [none, none, none, none] ?_
    simp only [(id F_lFree), seval, cEst, hI0, hat0, hI1, hat1, hI2, hat2, h1, cPart]
    repeat refine ob ?_
    refine awF ?_
    refine awK ?_
    simp only [(id F_lFree), seval]
    refine awR [] [none, none] ?_
    simp only [(id F_lFree), seval, cEst, hI0, hat0, hI1, hat1, hI2, hat2, h1]
    repeat refine ob ?_
    repeat refine ob ?_
    refine ⟨_, wk_keep [1, 2, 12, 13, 14, 19, 20, 21, 25, 26, 27] [2], t.length - (k2 + 1), by omega, k2 + 1, ?a15_nx, by omega, rfl, ?i15_0, ?st15⟩
    case st15 => (simp only [(id F_lFree), seval, cEst]; first | rfl | (simp [Nat.add_mul]; done))
    case i15_0 => (first | exact hL2 | (rw [← hL2]; simp only [reduceIte, hI0, hat0, hI1, hat1, hI2, hat2, h1]; done) | (rw [← hL2]; simp [hI0, hat0, hI1, hat1, hI2, hat2, h1]; done) | (simp [hI0, hat0, hI1, hat1, hI2, hat2, h1] at hL2; simpa using hL2) | (rw [← hL2]; simp [*]; done))
   obtain rfl : k2 = t.length := by omega
   have hI2 : ¬ (t.length : Int) < (t.length : Int) := by omega
   rw [List.drop_length] at hL2
   simp only [frP] at hL2
   refine awR [] [none] ?_
   simp only [(id F_lFree), seval, cEst, hI0, hat0, hI1, hat1, hI2]
   repeat refine ob ?_
   refine awF ?_
   refine awQ ?_
   simp only [(id F_lFree), seval]
   refine awR [] [none, none] ?_
   simp only [(id F_lFree), seval, cEst, hI0, hat0, hI1, hat1, hI2]
   repeat refine ob ?_
   repeat refine ob ?_
   refine ⟨_, wk_keep [1, 2, 12, 13, 14, 19, 20, 21] [2], a.length - (k1 + 1), by omega, k1 + 1, ?a18_nx, by omega, rfl, ?i18_0, ?st18⟩
   case st18 => (simp only [(id F_lFree), seval, cEst]; first | rfl | (simp [Nat.add_mul]; done))
   case i18_0 => (first | exact hL1 | (rw [← hL1]; simp [hI0, hat0, hI1, hat1, hI2, ← hL2]; done) | (rw [← hL1]; simp only [reduceIte, hI0, hat0, hI1, hat1, hI2]; done) | (rw [← hL1]; simp [hI0, hat0, hI1, hat1, hI2]; done) | (simp [hI0, hat0, hI1, hat1, hI2] at hL1; simpa using hL1) | (rw [← hL1]; simp [*]; done))
  obtain rfl : k1 = a.length := by omega
  have hI1 : ¬ (a.length : Int) < (a.length : Int) := by omega
  rw [List.drop_length] at hL1
  simp only [frT] at hL1
  refine awR [] [none] ?_
  simp only [(id F_lFree), seval, cEst, hI0, hat0, hI1]
  repeat refine ob ?_
  refine awF ?_
  refine awQ ?_
  simp only [(id F_lFree), seval]
  refine awR [] [none, none] ?_
  simp only [(id F_lFree), seval, cEst, hI0, hat0, hI1]
  repeat refine ob ?_
  repeat refine ob ?_
  refine ⟨_, wk_keep [1, 2, 12, 13, 14] [2], e.agrs.length - (k0 + 1), by omega, k0 + 1, ?a21_nx, by omega, rfl, ?i21_0, ?st21⟩
  case st21 => (simp only [(id F_lFree), seval, cEst]; first | rfl | (simp [Nat.add_mul]; done))
  case i21_0 => (first | exact hL0 | (rw [← hL0]; simp [hI0, hat0, hI1, ← hL1]; done) | (rw [← hL0]; simp only [reduceIte, hI0, hat0, hI1]; done) | (rw [← hL0]; simp [hI0, hat0, hI1]; done) | (simp [hI0, hat0, hI1] at hL0; simpa using hL0) | (rw [← hL0]; simp [*]; done))
 obtain rfl : k0 = e.agrs.length := by omega
 have hI0 : ¬ (e.agrs.length : Int) < (e.agrs.length : Int) := by omega
 rw [List.drop_length] at hL0
 simp only [frA] at hL0
 refine awR [] [none] ?_
 simp only [(id F_lFree), seval, cEst, hI0]
 repeat refine ob ?_
 refine awF ?_
 refine awQ ?_
 simp only [(id F_lFree), seval]
 refine awR [] [none] ?_
 simp only [(id F_lFree), seval, cEst, hI0]
 repeat refine ob ?_
 refine awX ?_
 (first | (simp only [(id F_lFree), seval, cEst, hI0, ← hL0]; done) | (simp only [(id F_lFree), seval, cEst]; first | (simp [hI0, ← hL0]; done) | (simp [hI0]; done) | (rw [← hL0]; simp [hI0]; done)))
def F_lTkn := And.intro zS (And.intro tf24 (And.intro tf25 (And.intro tf26 (And.intro tf27 (And.intro tf28 (And.intro tf29 (And.intro tf30 (And.intro tf31 (And.intro tf32 (And.intro tf33 (And.intro tf34 (And.intro tf35 (And.intro tf21 (And.intro tf36 (tf37)))))))))))))))
set_option maxHeartbeats 4000000 in
theorem taken_A (g : GGrp) (i c : Int) (hn : g.debts.length ≤ 1000000000000) (he : ∀ d ∈ g.debts, d.legs.length ≤ 1000000000000) : ACall Try.prog 22 [.agg (cGrp g), .one (.lit (.int .i64 i)), .one (.lit (.int .i64 c))] (one (.bool (tkD i c g.debts))) := by
 refine acall_of Try.func22 rfl (by decide) (N := 37) rfl (by simp) (R := [.tmp 6]) rfl fun en k0 => ?_
 refine awR [] [none, none] ?_
 simp only [(id F_lTkn), seval, cGrp]
 repeat refine ob ?_
 refine awR [] [none, none, none, none] ?_
 simp only [(id F_lTkn), seval, cGrp]
 repeat refine ob ?_
 refine awp_keep [1, 2, 3, 12, 13, 14] [3] ?_
 try unfold Later
 try simp only [(id F_lTkn), seval, cGrp]
 repeat' first|apply awS|apply awB
 refine awp_loopw (fun n st => ∃ k0 nx, k0 ≤ g.debts.length ∧ n = g.debts.length - k0 ∧ tkD i c (g.debts.drop k0) = tkD i c g.debts ∧ st = ⟨mkT [(1, one (.int .i64 i)), (2, one (.int .i64 c)), (3, .val (.one (.ptr 3 0 0))), (12, .val (.one (.sh 4 g.debts.length (flat cDebt g.debts)))), (13, one (.int .i64 g.debts.length)), (14, one (.int .i64 k0))], mkH [(3, ⟨0, 28, 2, 1, cGrp g⟩)], nx, 0⟩) (g.debts.length) ⟨0, _, by omega, by omega, by rfl, rfl⟩ ?_
 rintro n0 st ⟨k0, nx0, hk0, rfl, hL0, rfl⟩
 by_cases hlt0 : k0 < g.debts.length
 ·
  have hI0 : (k0 : Int) < (g.debts.length : Int) := by omega
  have hat0 := flat_at cDebt_len g.debts k0 hlt0
  try rw [Nat.mul_one] at hat0
  rw [List.drop_eq_getElem_cons hlt0] at hL0
  have hA := he _ (List.getElem_mem hlt0)
  generalize g.debts[k0] = d at *
  simp only [tkD] at hL0
  refine awR [] [none] ?_
  simp only [(id F_lTkn), seval, cGrp, hI0, hat0]
  repeat refine ob ?_
  refine awT ?_
  refine awK ?_
  simp only [(id F_lTkn), seval]
  refine awR [] [none, none, none, none] ?_
  simp only [(id F_lTkn), seval, cGrp, hI0, hat0, cDebt]
  repeat refine ob ?_
  refine awR [] [none, none, none, none] ?_
  simp only [(id F_lTkn), seval, cGrp, hI0, hat0, cDebt]
  repeat refine ob ?_
  refine awp_keep [1, 2, 3, 12, 13, 14, 19, 20, 21] [3] ?_
  try unfold Later
  try simp only [(id F_lTkn), seval, cGrp, hI0, hat0]
  repeat' first|apply awS|apply awB
  refine awp_loopw (fun n st => ∃ k1 nx, k1 ≤ d.legs.length ∧ n = d.legs.length - k1 ∧ tkL i c (d.legs.drop k1) = tkL i c d.legs ∧ st = ⟨mkT [(1, one (.int .i64 i)), (2, one (.int .i64 c)), (3, .val (.one (.ptr 3 0 0))), (12, .val (.one (.sh 4 g.debts.length (flat cDebt g.debts)))), (13, one (.int .i64 g.debts.length)), (14, one (.int .i64 k0)), (19, .val (.one (.sh 2 d.legs.length (flat cLeg d.legs)))), (20, one (.int .i64 d.legs.length)), (21, one (.int .i64 k1))], mkH [(3, ⟨0, 28, 2, 1, cGrp g⟩)], nx, 0⟩) (d.legs.length) ⟨0, _, by omega, by omega, by rfl, rfl⟩ ?_
  rintro n1 st ⟨k1, nx1, hk1, rfl, hL1, rfl⟩
  by_cases hlt1 : k1 < d.legs.length
  ·
   have hI1 : (k1 : Int) < (d.legs.length : Int) := by omega
   have hat1 := flat_at cLeg_len d.legs k1 hlt1
   try rw [Nat.mul_one] at hat1
   rw [List.drop_eq_getElem_cons hlt1] at hL1
   generalize d.legs[k1] = x at *
   simp only [tkL] at hL1
   refine awR [] [none] ?_
   simp only [(id F_lTkn), seval, cGrp, hI0, hat0, hI1, hat1]
   repeat refine ob ?_
   refine awT ?_
   refine awK ?_
   simp only [(id F_lTkn), seval]
   refine awR [] [none, none, none, none] ?_
   simp only [(id F_lTkn), seval, cGrp, hI0, hat0, hI1, hat1, cLeg]
   repeat refine ob ?_
   by_cases h1 : x.1 = i
   ·
    by_cases h2 : x.2 = c
    ·
     refine awR [] [none, none, none, none, none, some (29, true), some (29, true), some (29, true), some (29, true), none] ?_
     simp only [(id F_lTkn), seval, cGrp, hI0, hat0, hI1, hat1, h1, h2, cLeg]
     repeat refine ob ?_
     refine awT ?_
     refine awR [] [none] ?_
     simp only [(id F_lTkn), seval, cGrp, hI0, hat0, hI1, hat1, h1, h2]
     repeat refine ob ?_
     refine awX ?_
     (first | (simp only [(id F_lTkn), seval, cGrp, hI0, hat0, hI1, hat1, h1, h2, ← hL0, ← hL1]; done) | (simp only [(id F_lTkn), seval, cGrp]; first | (simp [hI0, hat0, hI1, hat1, h1, h2, ← hL0, ← hL1]; done) | (simp [hI0, hat0, hI1, hat1, h1, h2]; done) | (rw [← hL0, ← hL1]; simp [hI0, hat0, hI1, hat1, h1, h2]; done)))
    refine awR [] [none, none, none, none, none, some (29, true), some (29, true), some (29, true), some (29, true), none] ?_
    simp only [(id F_lTkn), seval, cGrp, hI0, hat0, hI1, hat1, h1, h2, cLeg]
    repeat refine ob ?_
    refine awF ?_
    refine awK ?_
    simp only [(id F_lTkn), seval]
    refine awR [] [none, none] ?_
    simp only [(id F_lTkn), seval, cGrp, hI0, hat0, hI1, hat1, h1, h2]
    repeat refine ob ?_
    repeat refine ob ?_
    refine ⟨_, wk_keep [1, 2, 3, 12, 13, 14, 19, 20, 21] [3], d.legs.length - (k1 + 1), by omega, k1 + 1, ?a12_nx, by omega, rfl, ?i12_0, ?st12⟩
    case st12 => (simp only [(id F_lTkn), seval, cGrp]; first | rfl | (simp [Nat.add_mul]; done))
    case i12_0 => (first | exact hL1 | (rw [← hL1]; simp only [reduceIte, hI0, hat0, hI1, hat1, h1, h2]; done) | (rw [← hL1]; simp [hI0, hat0, hI1, hat1, h1, h2]; done) | (simp [hI0, hat0, hI1, hat1, h1, h2] at hL1; simpa using hL1) | (rw [← hL1]; simp [*]; done))
   refine awR [] [none, none, none, none, none, some (29, true), some (29, true), some (29, true), some (29, true), none] ?_
   simp only [(id F_lTkn), seval, cGrp, hI0, hat0, hI1, hat1, h1, cLeg]
   repeat refine ob ?_
   refine awF ?_
   refine awK ?_
   simp only [(id F_lTkn), seval]
   refine awR [] [none, none] ?_
   simp only [(id F_lTkn), seval, cGrp, hI0, hat0, hI1, hat1, h1]
   repeat refine ob ?_
   repeat refine ob ?_
   refine ⟨_, wk_keep [1, 2, 3, 12, 13, 14, 19, 20, 21] [3], d.legs.length - (k1 + 1), by omega, k1 + 1, ?a15_nx, by omega, rfl, ?i15_0, ?st15⟩
   case st15 => (simp only [(id F_lTkn), seval, cGrp]; first | rfl | (simp [Nat.add_mul]; done))
   case i15_0 => (first | exact hL1 | (rw [← hL1]; simp only [reduceIte, hI0, hat0, hI1, hat1, h1]; done) | (rw [← hL1]; simp [hI0, hat0, hI1, hat1, h1]; done) | (simp [hI0, hat0, hI1, hat1, h1] at hL1; simpa using hL1) | (rw [← hL1]; simp [*]; done))
  obtain rfl : k1 = d.legs.length := by omega
  have hI1 : ¬ (d.legs.length : Int) < (d.legs.length : Int) := by omega
  rw [List.drop_length] at hL1
  simp only [tkL] at hL1
  refine awR [] [none] ?_
  simp only [(id F_lTkn), seval, cGrp, hI0, hat0, hI1]
  repeat refine ob ?_
  refine awF ?_
  refine awQ ?_
  simp only [(id F_lTkn), seval]
  refine awR [] [none, none] ?_
  simp only [(id F_lTkn), seval, cGrp, hI0, hat0, hI1]
  repeat refine ob ?_
  repeat refine ob ?_
  refine ⟨_, wk_keep [1, 2, 3, 12, 13, 14] [3], g.debts.length - (k0 + 1), by omega, k0 + 1, ?a18_nx, by omega, rfl, ?i18_0, ?st18⟩
  case st18 => (simp only [(id F_lTkn), seval, cGrp]; first | rfl | (simp [Nat.add_mul]; done))
  case i18_0 => (first | exact hL0 | (rw [← hL0]; simp [hI0, hat0, hI1, ← hL1]; done) | (rw [← hL0]; simp only [reduceIte, hI0, hat0, hI1]; done) | (rw [← hL0]; simp [hI0, hat0, hI1]; done) | (simp [hI0, hat0, hI1] at hL0; simpa using hL0) | (rw [← hL0]; simp [*]; done))
 obtain rfl : k0 = g.debts.length := by omega
 have hI0 : ¬ (g.debts.length : Int) < (g.debts.length : Int) := by omega
 rw [List.drop_length] at hL0
 simp only [tkD] at hL0
 refine awR [] [none] ?_
 simp only [(id F_lTkn), seval, cGrp, hI0]
 repeat refine ob ?_
 refine awF ?_
 refine awQ ?_
 simp only [(id F_lTkn), seval]
 refine awR [] [none] ?_
 simp only [(id F_lTkn), seval, cGrp, hI0]
 repeat refine ob ?_
 refine awX ?_
 (first | (simp only [(id F_lTkn), seval, cGrp, hI0, ← hL0]; done) | (simp only [(id F_lTkn), seval, cGrp]; first | (simp [hI0, ← hL0]; done) | (simp [hI0]; done) | (rw [← hL0]; simp [hI0]; done)))
end Go.Proofs.Ytokmkopihhnggaa
end
