/- The builder's helpers: free, taken; walked by the abstract machine. -/
import Derived.Test.YtokmkopihhnggaaGreatDoorLawM
import Derived.Test.YtokmkopihhnggaaGreatDoorVal2M
set_option linter.unusedVariables false
set_option linter.unusedSimpArgs false
set_option linter.defProp false
namespace Go.Proofs.YtokmkopihhnggaaGreatDoor
open Go Go.RowKit
def frP (c : Int) : List GPart → Bool
 | [] => true
 | p :: l => if p.claim = c then false else frP c l
def frT (c : Int) : List (List GPart) → Bool
 | [] => true
 | t :: l => if frP c t = true then frT c l else false
def frA (c : Int) : List GAgr → Bool
 | [] => true
 | a :: l => if frT c a = true then frA c l else false
def tkL (i c : Int) : List Leg → Bool
 | [] => false
 | x :: l => if x.1 = i then (if x.2 = c then true else tkL i c l) else tkL i c l
def tkD (i c : Int) : List GDebt → Bool
 | [] => false
 | d :: l => if tkL i c d.legs = true then true else tkD i c l
def F7 := And.intro zS (And.intro tf1 (And.intro tf20 (And.intro tf6 (And.intro tf2 (And.intro tf23 (And.intro tf0 (And.intro tf8 (And.intro tf30 (And.intro tf9 (And.intro tf10 (And.intro tf31 (And.intro tf3 (And.intro tf33 (And.intro tf11 (And.intro tf12 (And.intro tf35 (tf5)))))))))))))))))
set_option maxHeartbeats 4000000 in
theorem free_A (e : GEst) (c : Int) (hn : e.agrs.length ≤ 1000000000000) (he : ∀ a ∈ e.agrs, a.length ≤ 1000000000000 ∧ ∀ t ∈ a, t.length ≤ 1000000000000) : ACall Tryz.prog 99 [.agg (cEst e), .one (.lit (.int .i64 c))] (one (.bool (frA c e.agrs))) := by
 refine acall_of Tryz.func99 rfl (by decide) (N := 38) rfl (by simp) (R := [.tmp 4]) rfl fun en k0 => ?_
 refine awN ?_
 simp only [(id F7), seval, cEst]
 repeat refine ob ?_
 refine awN ?_
 simp only [(id F7), seval, cEst]
 repeat refine ob ?_
 refine awp_keep [1, 2, 12, 13, 14] [2] ?_
 try unfold Later
 try simp only [(id F7), seval, cEst]
 repeat' first|apply awS|apply awB
 refine awp_loopw (fun n st => ∃ k0 nx, k0 ≤ e.agrs.length ∧ n = e.agrs.length - k0 ∧ frA c (e.agrs.drop k0) = frA c e.agrs ∧ st = ⟨mkT [(1, one (.int .i64 c)), (2, .val (.one (.ptr 2 0 0))), (12, .val (.one (.sh 1 e.agrs.length (flat cAgr e.agrs)))), (13, one (.int .i64 e.agrs.length)), (14, one (.int .i64 k0))], mkH [(2, ⟨0, 36, 5, 1, cEst e⟩)], nx, 0⟩) (e.agrs.length) ⟨0, _, by omega, by omega, by rfl, rfl⟩ ?_
 rintro n0 st ⟨k0, nx0, hk0, rfl, hL0, rfl⟩
 by_cases hlt0 : k0 < e.agrs.length
 ·skip
  have hI0 : (k0 : Int) < (e.agrs.length : Int) := by omega
  have hat0 := flat_at cAgr_len e.agrs k0 hlt0
  try rw [Nat.mul_one] at hat0
  rw [List.drop_eq_getElem_cons hlt0] at hL0
  have hA := he _ (List.getElem_mem hlt0)
  generalize e.agrs[k0] = a at *
  simp only [frA] at hL0
  refine awN ?_
  simp only [(id F7), seval, cEst, hI0, hat0]
  repeat refine ob ?_
  refine awT ?_
  refine awK ?_
  simp only [(id F7), seval]
  refine awN ?_
  simp only [(id F7), seval, cEst, hI0, hat0, cAgr]
  repeat refine ob ?_
  refine awN ?_
  simp only [(id F7), seval, cEst, hI0, hat0, cAgr]
  repeat refine ob ?_
  refine awp_keep [1, 2, 12, 13, 14, 19, 20, 21] [2] ?_
  try unfold Later
  try simp only [(id F7), seval, cEst, hI0, hat0]
  repeat' first|apply awS|apply awB
  refine awp_loopw (fun n st => ∃ k1 nx, k1 ≤ a.length ∧ n = a.length - k1 ∧ frT c (a.drop k1) = frT c a ∧ st = ⟨mkT [(1, one (.int .i64 c)), (2, .val (.one (.ptr 2 0 0))), (12, .val (.one (.sh 1 e.agrs.length (flat cAgr e.agrs)))), (13, one (.int .i64 e.agrs.length)), (14, one (.int .i64 k0)), (19, .val (.one (.sh 1 a.length (flat cTier a)))), (20, one (.int .i64 a.length)), (21, one (.int .i64 k1))], mkH [(2, ⟨0, 36, 5, 1, cEst e⟩)], nx, 0⟩) (a.length) ⟨0, _, by omega, by omega, by rfl, rfl⟩ ?_
  rintro n1 st ⟨k1, nx1, hk1, rfl, hL1, rfl⟩
  by_cases hlt1 : k1 < a.length
  ·skip
   have hI1 : (k1 : Int) < (a.length : Int) := by omega
   have hat1 := flat_at cTier_len a k1 hlt1
   try rw [Nat.mul_one] at hat1
   rw [List.drop_eq_getElem_cons hlt1] at hL1
   have hn3 := hA.2 _ (List.getElem_mem hlt1)
   generalize a[k1] = t at *
   simp only [frT] at hL1
   refine awN ?_
   simp only [(id F7), seval, cEst, hI0, hat0, hI1, hat1]
   repeat refine ob ?_
   refine awT ?_
   refine awK ?_
   simp only [(id F7), seval]
   refine awN ?_
   simp only [(id F7), seval, cEst, hI0, hat0, hI1, hat1, cTier]
   repeat refine ob ?_
   refine awN ?_
   simp only [(id F7), seval, cEst, hI0, hat0, hI1, hat1]
   repeat refine ob ?_
   refine awp_keep [1, 2, 12, 13, 14, 19, 20, 21, 25, 26, 27] [2] ?_
   try unfold Later
   try simp only [(id F7), seval, cEst, hI0, hat0, hI1, hat1]
   repeat' first|apply awS|apply awB
   refine awp_loopw (fun n st => ∃ k2 nx, k2 ≤ t.length ∧ n = t.length - k2 ∧ frP c (t.drop k2) = frP c t ∧ st = ⟨mkT [(1, one (.int .i64 c)), (2, .val (.one (.ptr 2 0 0))), (12, .val (.one (.sh 1 e.agrs.length (flat cAgr e.agrs)))), (13, one (.int .i64 e.agrs.length)), (14, one (.int .i64 k0)), (19, .val (.one (.sh 1 a.length (flat cTier a)))), (20, one (.int .i64 a.length)), (21, one (.int .i64 k1)), (25, .val (.one (.sh 5 t.length (flat cPart t)))), (26, one (.int .i64 t.length)), (27, one (.int .i64 k2))], mkH [(2, ⟨0, 36, 5, 1, cEst e⟩)], nx, 0⟩) (t.length) ⟨0, _, by omega, by omega, by rfl, rfl⟩ ?_
   rintro n2 st ⟨k2, nx2, hk2, rfl, hL2, rfl⟩
   by_cases hlt2 : k2 < t.length
   ·skip
    have hI2 : (k2 : Int) < (t.length : Int) := by omega
    have hat2 := flat_at cPart_len t k2 hlt2
    try rw [Nat.mul_one] at hat2
    rw [List.drop_eq_getElem_cons hlt2] at hL2
    generalize t[k2] = p at *
    simp only [frP] at hL2
    refine awN ?_
    simp only [(id F7), seval, cEst, hI0, hat0, hI1, hat1, hI2, hat2]
    repeat refine ob ?_
    refine awT ?_
    refine awK ?_
    simp only [(id F7), seval]
    refine awN ?_
    simp only [(id F7), seval, cEst, hI0, hat0, hI1, hat1, hI2, hat2, cPart]
    repeat refine ob ?_
    by_cases h1 : p.claim = c
    ·skip
     refine awN ?_
     simp only [(id F7), seval, cEst, hI0, hat0, hI1, hat1, hI2, hat2, h1, cPart]
     repeat refine ob ?_
     refine awT ?_
     refine awN ?_
     simp only [(id F7), seval, cEst, hI0, hat0, hI1, hat1, hI2, hat2, h1]
     repeat refine ob ?_
     refine awX ?_
     (first | (simp only [(id F7), seval, cEst, hI0, hat0, hI1, hat1, hI2, hat2, h1, ← hL0, ← hL1, ← hL2]; done) | (simp only [(id F7), seval, cEst]; first | (simp [hI0, hat0, hI1, hat1, hI2, hat2, h1, ← hL0, ← hL1, ← hL2]; done) | (simp [hI0, hat0, hI1, hat1, hI2, hat2, h1]; done) | (rw [← hL0, ← hL1, ← hL2]; simp [hI0, hat0, hI1, hat1, hI2, hat2, h1]; done)))
    skip
    refine awN ?_
    simp only [(id F7), seval, cEst, hI0, hat0, hI1, hat1, hI2, hat2, h1, cPart]
    repeat refine ob ?_
    refine awF ?_
    refine awK ?_
    simp only [(id F7), seval]
    refine awN ?_
    simp only [(id F7), seval, cEst, hI0, hat0, hI1, hat1, hI2, hat2, h1]
    repeat refine ob ?_
    repeat refine ob ?_
    refine ⟨_, wk_keep [1, 2, 12, 13, 14, 19, 20, 21, 25, 26, 27] [2], t.length - (k2 + 1), by omega, k2 + 1, ?a15_nx, by omega, rfl, ?i15_0, ?st15⟩
    case st15 => (simp only [(id F7), seval, cEst]; first | rfl | (simp [Nat.add_mul]; done))
    case i15_0 => (first | exact hL2 | (rw [← hL2]; simp only [reduceIte, hI0, hat0, hI1, hat1, hI2, hat2, h1]; done) | (rw [← hL2]; simp [hI0, hat0, hI1, hat1, hI2, hat2, h1]; done) | (simp [hI0, hat0, hI1, hat1, hI2, hat2, h1] at hL2; simpa using hL2) | (rw [← hL2]; simp [*]; done))
   skip
   obtain rfl : k2 = t.length := by omega
   have hI2 : ¬ (t.length : Int) < (t.length : Int) := by omega
   rw [List.drop_length] at hL2
   simp only [frP] at hL2
   refine awN ?_
   simp only [(id F7), seval, cEst, hI0, hat0, hI1, hat1, hI2]
   repeat refine ob ?_
   refine awF ?_
   refine awQ ?_
   simp only [(id F7), seval]
   refine awN ?_
   simp only [(id F7), seval, cEst, hI0, hat0, hI1, hat1, hI2]
   repeat refine ob ?_
   repeat refine ob ?_
   refine ⟨_, wk_keep [1, 2, 12, 13, 14, 19, 20, 21] [2], a.length - (k1 + 1), by omega, k1 + 1, ?a18_nx, by omega, rfl, ?i18_0, ?st18⟩
   case st18 => (simp only [(id F7), seval, cEst]; first | rfl | (simp [Nat.add_mul]; done))
   case i18_0 => (first | exact hL1 | (rw [← hL1]; simp [hI0, hat0, hI1, hat1, hI2, ← hL2]; done) | (rw [← hL1]; simp only [reduceIte, hI0, hat0, hI1, hat1, hI2]; done) | (rw [← hL1]; simp [hI0, hat0, hI1, hat1, hI2]; done) | (simp [hI0, hat0, hI1, hat1, hI2] at hL1; simpa using hL1) | (rw [← hL1]; simp [*]; done))
  skip
  obtain rfl : k1 = a.length := by omega
  have hI1 : ¬ (a.length : Int) < (a.length : Int) := by omega
  rw [List.drop_length] at hL1
  simp only [frT] at hL1
  refine awN ?_
  simp only [(id F7), seval, cEst, hI0, hat0, hI1]
  repeat refine ob ?_
  refine awF ?_
  refine awQ ?_
  simp only [(id F7), seval]
  refine awN ?_
  simp only [(id F7), seval, cEst, hI0, hat0, hI1]
  repeat refine ob ?_
  repeat refine ob ?_
  refine ⟨_, wk_keep [1, 2, 12, 13, 14] [2], e.agrs.length - (k0 + 1), by omega, k0 + 1, ?a21_nx, by omega, rfl, ?i21_0, ?st21⟩
  case st21 => (simp only [(id F7), seval, cEst]; first | rfl | (simp [Nat.add_mul]; done))
  case i21_0 => (first | exact hL0 | (rw [← hL0]; simp [hI0, hat0, hI1, ← hL1]; done) | (rw [← hL0]; simp only [reduceIte, hI0, hat0, hI1]; done) | (rw [← hL0]; simp [hI0, hat0, hI1]; done) | (simp [hI0, hat0, hI1] at hL0; simpa using hL0) | (rw [← hL0]; simp [*]; done))
 skip
 obtain rfl : k0 = e.agrs.length := by omega
 have hI0 : ¬ (e.agrs.length : Int) < (e.agrs.length : Int) := by omega
 rw [List.drop_length] at hL0
 simp only [frA] at hL0
 refine awN ?_
 simp only [(id F7), seval, cEst, hI0]
 repeat refine ob ?_
 refine awF ?_
 refine awQ ?_
 simp only [(id F7), seval]
 refine awN ?_
 simp only [(id F7), seval, cEst, hI0]
 repeat refine ob ?_
 refine awX ?_
 (first | (simp only [(id F7), seval, cEst, hI0, ← hL0]; done) | (simp only [(id F7), seval, cEst]; first | (simp [hI0, ← hL0]; done) | (simp [hI0]; done) | (rw [← hL0]; simp [hI0]; done)))
def F8 := And.intro zS (And.intro tf90 (And.intro tf91 (And.intro tf92 (And.intro tf93 (And.intro tf94 (And.intro tf95 (And.intro tf96 (And.intro tf97 (And.intro tf98 (And.intro tf99 (And.intro tf100 (And.intro tf101 (And.intro tf12 (And.intro tf102 (tf103)))))))))))))))
set_option maxHeartbeats 4000000 in
theorem taken_A (g : GGrp) (i c : Int) (hn : g.debts.length ≤ 1000000000000) (he : ∀ d ∈ g.debts, d.legs.length ≤ 1000000000000) : ACall Tryz.prog 100 [.agg (cGrp g), .one (.lit (.int .i64 i)), .one (.lit (.int .i64 c))] (one (.bool (tkD i c g.debts))) := by
 refine acall_of Tryz.func100 rfl (by decide) (N := 37) rfl (by simp) (R := [.tmp 6]) rfl fun en k0 => ?_
 refine awN ?_
 simp only [(id F8), seval, cGrp]
 repeat refine ob ?_
 refine awN ?_
 simp only [(id F8), seval, cGrp]
 repeat refine ob ?_
 refine awp_keep [1, 2, 3, 12, 13, 14] [3] ?_
 try unfold Later
 try simp only [(id F8), seval, cGrp]
 repeat' first|apply awS|apply awB
 refine awp_loopw (fun n st => ∃ k0 nx, k0 ≤ g.debts.length ∧ n = g.debts.length - k0 ∧ tkD i c (g.debts.drop k0) = tkD i c g.debts ∧ st = ⟨mkT [(1, one (.int .i64 i)), (2, one (.int .i64 c)), (3, .val (.one (.ptr 3 0 0))), (12, .val (.one (.sh 4 g.debts.length (flat cDebt g.debts)))), (13, one (.int .i64 g.debts.length)), (14, one (.int .i64 k0))], mkH [(3, ⟨0, 28, 2, 1, cGrp g⟩)], nx, 0⟩) (g.debts.length) ⟨0, _, by omega, by omega, by rfl, rfl⟩ ?_
 rintro n0 st ⟨k0, nx0, hk0, rfl, hL0, rfl⟩
 by_cases hlt0 : k0 < g.debts.length
 ·
  have hI0 : (k0 : Int) < (g.debts.length : Int) := by omega
  have hat0 := flat_at cDebt_len g.debts k0 hlt0
  try rw [Nat.mul_one] at hat0
  rw [List.drop_eq_getElem_cons hlt0] at hL0
  have hA := he _ (List.getElem_mem hlt0)
  generalize g.debts[k0] = d at *
  simp only [tkD] at hL0
  refine awN ?_
  simp only [(id F8), seval, cGrp, hI0, hat0]
  repeat refine ob ?_
  refine awT ?_
  refine awK ?_
  simp only [(id F8), seval]
  refine awN ?_
  simp only [(id F8), seval, cGrp, hI0, hat0, cDebt]
  repeat refine ob ?_
  refine awN ?_
  simp only [(id F8), seval, cGrp, hI0, hat0, cDebt]
  repeat refine ob ?_
  refine awp_keep [1, 2, 3, 12, 13, 14, 19, 20, 21] [3] ?_
  try unfold Later
  try simp only [(id F8), seval, cGrp, hI0, hat0]
  repeat' first|apply awS|apply awB
  refine awp_loopw (fun n st => ∃ k1 nx, k1 ≤ d.legs.length ∧ n = d.legs.length - k1 ∧ tkL i c (d.legs.drop k1) = tkL i c d.legs ∧ st = ⟨mkT [(1, one (.int .i64 i)), (2, one (.int .i64 c)), (3, .val (.one (.ptr 3 0 0))), (12, .val (.one (.sh 4 g.debts.length (flat cDebt g.debts)))), (13, one (.int .i64 g.debts.length)), (14, one (.int .i64 k0)), (19, .val (.one (.sh 2 d.legs.length (flat cLeg d.legs)))), (20, one (.int .i64 d.legs.length)), (21, one (.int .i64 k1))], mkH [(3, ⟨0, 28, 2, 1, cGrp g⟩)], nx, 0⟩) (d.legs.length) ⟨0, _, by omega, by omega, by rfl, rfl⟩ ?_
  rintro n1 st ⟨k1, nx1, hk1, rfl, hL1, rfl⟩
  by_cases hlt1 : k1 < d.legs.length
  ·
   have hI1 : (k1 : Int) < (d.legs.length : Int) := by omega
   have hat1 := flat_at cLeg_len d.legs k1 hlt1
   try rw [Nat.mul_one] at hat1
   rw [List.drop_eq_getElem_cons hlt1] at hL1
   generalize d.legs[k1] = x at *
   simp only [tkL] at hL1
   refine awN ?_
   simp only [(id F8), seval, cGrp, hI0, hat0, hI1, hat1]
   repeat refine ob ?_
   refine awT ?_
   refine awK ?_
   simp only [(id F8), seval]
   refine awN ?_
   simp only [(id F8), seval, cGrp, hI0, hat0, hI1, hat1, cLeg]
   repeat refine ob ?_
   by_cases h1 : x.1 = i
   ·
    by_cases h2 : x.2 = c
    ·
     refine awR [] [none, none, none, none, none, some (29, true), some (29, true), some (29, true), some (29, true), none] ?_
     simp only [(id F8), seval, cGrp, hI0, hat0, hI1, hat1, h1, h2, cLeg]
     repeat refine ob ?_
     refine awT ?_
     refine awN ?_
     simp only [(id F8), seval, cGrp, hI0, hat0, hI1, hat1, h1, h2]
     repeat refine ob ?_
     refine awX ?_
     (first | (simp only [(id F8), seval, cGrp, hI0, hat0, hI1, hat1, h1, h2, ← hL0, ← hL1]; done) | (simp only [(id F8), seval, cGrp]; first | (simp [hI0, hat0, hI1, hat1, h1, h2, ← hL0, ← hL1]; done) | (simp [hI0, hat0, hI1, hat1, h1, h2]; done) | (rw [← hL0, ← hL1]; simp [hI0, hat0, hI1, hat1, h1, h2]; done)))
    refine awR [] [none, none, none, none, none, some (29, true), some (29, true), some (29, true), some (29, true), none] ?_
    simp only [(id F8), seval, cGrp, hI0, hat0, hI1, hat1, h1, h2, cLeg]
    repeat refine ob ?_
    refine awF ?_
    refine awK ?_
    simp only [(id F8), seval]
    refine awN ?_
    simp only [(id F8), seval, cGrp, hI0, hat0, hI1, hat1, h1, h2]
    repeat refine ob ?_
    repeat refine ob ?_
    refine ⟨_, wk_keep [1, 2, 3, 12, 13, 14, 19, 20, 21] [3], d.legs.length - (k1 + 1), by omega, k1 + 1, ?a12_nx, by omega, rfl, ?i12_0, ?st12⟩
    case st12 => (simp only [(id F8), seval, cGrp]; first | rfl | (simp [Nat.add_mul]; done))
    case i12_0 => (first | exact hL1 | (rw [← hL1]; simp only [reduceIte, hI0, hat0, hI1, hat1, h1, h2]; done) | (rw [← hL1]; simp [hI0, hat0, hI1, hat1, h1, h2]; done) | (simp [hI0, hat0, hI1, hat1, h1, h2] at hL1; simpa using hL1) | (rw [← hL1]; simp [*]; done))
   refine awR [] [none, none, none, none, none, some (29, true), some (29, true), some (29, true), some (29, true), none] ?_
   simp only [(id F8), seval, cGrp, hI0, hat0, hI1, hat1, h1, cLeg]
   repeat refine ob ?_
   refine awF ?_
   refine awK ?_
   simp only [(id F8), seval]
   refine awN ?_
   simp only [(id F8), seval, cGrp, hI0, hat0, hI1, hat1, h1]
   repeat refine ob ?_
   repeat refine ob ?_
   refine ⟨_, wk_keep [1, 2, 3, 12, 13, 14, 19, 20, 21] [3], d.legs.length - (k1 + 1), by omega, k1 + 1, ?a15_nx, by omega, rfl, ?i15_0, ?st15⟩
   case st15 => (simp only [(id F8), seval, cGrp]; first | rfl | (simp [Nat.add_mul]; done))
   case i15_0 => (first | exact hL1 | (rw [← hL1]; simp only [reduceIte, hI0, hat0, hI1, hat1, h1]; done) | (rw [← hL1]; simp [hI0, hat0, hI1, hat1, h1]; done) | (simp [hI0, hat0, hI1, hat1, h1] at hL1; simpa using hL1) | (rw [← hL1]; simp [*]; done))
  obtain rfl : k1 = d.legs.length := by omega
  have hI1 : ¬ (d.legs.length : Int) < (d.legs.length : Int) := by omega
  rw [List.drop_length] at hL1
  simp only [tkL] at hL1
  refine awN ?_
  simp only [(id F8), seval, cGrp, hI0, hat0, hI1]
  repeat refine ob ?_
  refine awF ?_
  refine awQ ?_
  simp only [(id F8), seval]
  refine awN ?_
  simp only [(id F8), seval, cGrp, hI0, hat0, hI1]
  repeat refine ob ?_
  repeat refine ob ?_
  refine ⟨_, wk_keep [1, 2, 3, 12, 13, 14] [3], g.debts.length - (k0 + 1), by omega, k0 + 1, ?a18_nx, by omega, rfl, ?i18_0, ?st18⟩
  case st18 => (simp only [(id F8), seval, cGrp]; first | rfl | (simp [Nat.add_mul]; done))
  case i18_0 => (first | exact hL0 | (rw [← hL0]; simp [hI0, hat0, hI1, ← hL1]; done) | (rw [← hL0]; simp only [reduceIte, hI0, hat0, hI1]; done) | (rw [← hL0]; simp [hI0, hat0, hI1]; done) | (simp [hI0, hat0, hI1] at hL0; simpa using hL0) | (rw [← hL0]; simp [*]; done))
 obtain rfl : k0 = g.debts.length := by omega
 have hI0 : ¬ (g.debts.length : Int) < (g.debts.length : Int) := by omega
 rw [List.drop_length] at hL0
 simp only [tkD] at hL0
 refine awN ?_
 simp only [(id F8), seval, cGrp, hI0]
 repeat refine ob ?_
 refine awF ?_
 refine awQ ?_
 simp only [(id F8), seval]
 refine awN ?_
 simp only [(id F8), seval, cGrp, hI0]
 repeat refine ob ?_
 refine awX ?_
 (first | (simp only [(id F8), seval, cGrp, hI0, ← hL0]; done) | (simp only [(id F8), seval, cGrp]; first | (simp [hI0, ← hL0]; done) | (simp [hI0]; done) | (rw [← hL0]; simp [hI0]; done)))
end Go.Proofs.YtokmkopihhnggaaGreatDoor
namespace Go.Proofs.YtokmkopihhnggaaGreatDoor
open Go.RowKit
theorem qOf_gZ : qOf gZ = 0 := by rw [gZ_enc, qOf_enc]
theorem Whole_any (n : Int) (w : World) (h0 : -9223372036854775808 ≤ n) (h1 : n ≤ 9223372036854775807) : Calls Tryz.prog 14 #[.int .i64 n] w fun e w' => e = .returned (vRat (enc (n : Rat))) ∧ Below w.heap.size w w' := by
 have I := hid (fun w => rInt_any n w h0 h1)
 have HX := hid (Bx1.new w)
 generalize enc (n : Rat) = a at *
 unfold vRat at I
 unfold vRat
 go_enter Tryz.func14, Tryz.ntmps14
 go_wp2_with fail
 refine Calls.mono (I.out _) ?_
 rintro e w1 ⟨rfl, hb1⟩
 have hx := HX.out.next hb1
 obtain ⟨t0, t1, t2, t3, t4⟩ := hx.1.facts
 go_wp2
 refine ret_blk3 (hx.ret a).1 (fun W' c0 c1 c2 => by simp [results, Tryz.results14, go_sem, c0, c1, c2]) rfl ⟨rfl, (hx.ret a).2⟩
theorem Ratio_ok (a b : Nat) (w : World) (ha : a ≤ 9223372036854775807) (hb : b ≤ 9223372036854775807) (hd : 0 < b) :
  Calls Tryz.prog 40 #[.int .i64 a, .int .i64 b] w fun e w' => e = .returned (vRat (enc (mkRat (a : Int) b))) ∧ Below w.heap.size w w' := by
 have F := hid (fun w => rFraction_ok a b w ha hb hd)
 have HX := hid (Bx1.new w)
 generalize enc (mkRat (a : Int) b) = q at *
 unfold vRat at F
 unfold vRat
 go_enter Tryz.func40, Tryz.ntmps40
 go_wp2_with fail
 refine Calls.mono (F.out _) ?_
 rintro e w1 ⟨rfl, hb1⟩
 have hx := HX.out.next hb1
 obtain ⟨t0, t1, t2, t3, t4⟩ := hx.1.facts
 have S := hid (hx.1.put q)
 have hbx := hid (below_put hx.2 (Nat.le_refl _) q)
 go_wp2
 refine ret_blk3 (Blk3.alloc S.out _) (fun W' c0 c1 c2 => by simp [results, Tryz.results40, go_sem, c0, c1, c2]) rfl ⟨rfl, hbx.out.alloc (Below.size hbx.out) _⟩
set_option maxRecDepth 100000 in
theorem Amount_any (x : Nat) (w : World) (hx : x < 65536) : Calls Tryz.prog 30 #[.int .u16 x] w fun e w' => e = .returned (vRat (enc (qAmt x))) ∧ Below w.heap.size w w' := by
 have HX := hid (Bx1.new w)
 by_cases h0 : x % 5 = 0
 ·have e0 : ((x : Int) % 5 == 0) = true := by simp; omega
  have R := Ratio_ok (x / 5 % 23) (1 + x / 115 % 6)
  have hq : qAmt x = mkRat ((x / 5 % 23 : Nat) : Int) (1 + x / 115 % 6) := by unfold qAmt; rw [if_pos h0]
  rw [← hq] at R
  rw [show (((x / 5 % 23 : Nat)) : Int) = (x : Int) / 5 % 23 by omega, show (((1 + x / 115 % 6 : Nat)) : Int) = 1 + (x : Int) / 115 % 6 by omega] at R
  have RR := hid (fun w => R w (by omega) (by omega) (by omega))
  generalize enc (qAmt x) = q at *
  clear R hq
  unfold vRat at RR
  unfold vRat
  go_enter Tryz.func30, Tryz.ntmps30
  go_wp2_with fail
  refine Calls.mono (RR.out _) ?_
  rintro e w1 ⟨rfl, hb1⟩
  have hx := HX.out.next hb1
  obtain ⟨t0, t1, t2, t3, t4⟩ := hx.1.facts
  go_wp2
  refine ret_blk3 (hx.ret q).1 (fun W' c0 c1 c2 => by simp [results, Tryz.results30, go_sem, c0, c1, c2]) rfl ⟨rfl, (hx.ret q).2⟩
 have e0 : ((x : Int) % 5 == 0) = false := by simp; omega
 by_cases h1 : x % 5 = 1
 ·have e1 : ((x : Int) % 5 == 1) = true := by simp; omega
  have R := Whole_any (10 * ((x : Int) / 5 % 4))
  have hq : qAmt x = (((10 * ((x : Int) / 5 % 4)) : Int) : Rat) := by unfold qAmt; rw [if_neg h0, if_pos h1]; congr 1
  rw [← hq] at R
  have RR := hid (fun w => R w (by omega) (by omega))
  generalize enc (qAmt x) = q at *
  clear R hq
  unfold vRat at RR
  unfold vRat
  go_enter Tryz.func30, Tryz.ntmps30
  go_wp2_with fail
  refine Calls.mono (RR.out _) ?_
  rintro e w1 ⟨rfl, hb1⟩
  have hx := HX.out.next hb1
  obtain ⟨t0, t1, t2, t3, t4⟩ := hx.1.facts
  go_wp2
  refine ret_blk3 (hx.ret q).1 (fun W' c0 c1 c2 => by simp [results, Tryz.results30, go_sem, c0, c1, c2]) rfl ⟨rfl, (hx.ret q).2⟩
 have e1 : ((x : Int) % 5 == 1) = false := by simp; omega
 have R := Whole_any ((x : Int) / 5 % 13)
 have hq : qAmt x = ((((x : Int) / 5 % 13) : Int) : Rat) := by unfold qAmt; rw [if_neg h0, if_neg h1]; congr 1
 rw [← hq] at R
 have RR := hid (fun w => R w (by omega) (by omega))
 generalize enc (qAmt x) = q at *
 clear R hq
 unfold vRat at RR
 unfold vRat
 go_enter Tryz.func30, Tryz.ntmps30
 go_wp2_with fail
 refine Calls.mono (RR.out _) ?_
 rintro e w1 ⟨rfl, hb1⟩
 have hx := HX.out.next hb1
 obtain ⟨t0, t1, t2, t3, t4⟩ := hx.1.facts
 go_wp2
 refine ret_blk3 (hx.ret q).1 (fun W' c0 c1 c2 => by simp [results, Tryz.results30, go_sem, c0, c1, c2]) rfl ⟨rfl, (hx.ret q).2⟩
end Go.Proofs.YtokmkopihhnggaaGreatDoor
