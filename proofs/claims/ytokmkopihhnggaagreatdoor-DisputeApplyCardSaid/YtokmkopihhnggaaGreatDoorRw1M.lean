/- The reference: member, earlier; walked by the abstract machine. -/
import Derived.Test.YtokmkopihhnggaaGreatDoorWf6M
set_option linter.unusedVariables false
set_option linter.unusedSimpArgs false
set_option linter.defProp false
namespace Go.Proofs.YtokmkopihhnggaaGreatDoor
open Go Go.RowKit
def mbT (c : Int) : List GPart → Bool
 | [] => false
 | p :: l => decide (p.claim = c) || mbT c l
def mbA (c : Int) : GAgr → Bool
 | [] => false
 | t :: a => mbT c t || mbA c a
def mbE (c : Int) : List GAgr → Bool
 | [] => false
 | a :: l => mbA c a || mbE c l
def F50 := And.intro zS (And.intro tf1 (And.intro tf6 (And.intro tf2 (And.intro tf0 (And.intro tf8 (And.intro tf9 (And.intro tf10 (And.intro tf3 (tf12)))))))))
set_option maxHeartbeats 4000000 in
theorem member_A (a : GAgr) (c : Int) (hn : a.length ≤ 1000000000000) (ht : ∀ t ∈ a, t.length ≤ 1000000000000) : ACall Tryz.prog 183 [.agg (cAgr a), .one (.lit (.int .i64 c))] (one (.bool (mbA c a))) := by
 refine acall_of Tryz.func183 rfl (by decide) (N := 35) rfl (by simp) (R := [.tmp 4]) rfl fun en k0 => ?_
 refine awN ?_
 simp only [(id F50), seval, cAgr]
 refine awN ?_
 simp only [(id F50), seval]
 refine awp_keep [1, 2, 5] [2] ?_
 simp only [Later, (id F50), seval]
 repeat' first|apply awS|apply awB
 refine awp_loopw (fun n st => ∃ k nx, k ≤ a.length ∧ n = a.length - k ∧ mbA c (a.drop k) = mbA c a ∧ st = ⟨mkT [(1, one (.int .i64 c)), (2, .val (.one (.ptr 2 0 0))), (5, one (.int .i64 k))], mkH [(2, ⟨0, 50, 1, 1, cAgr a⟩)], nx, 0⟩) a.length ⟨0, _, by omega, by omega, rfl, rfl⟩ ?_
 rintro n st ⟨k, nx, hk, rfl, hL, rfl⟩
 by_cases hlt : k < a.length
 ·have hI : (k : Int) < (a.length : Int) := by omega
  have hat := flat_at cTier_len a k hlt
  rw [Nat.mul_one] at hat
  rw [List.drop_eq_getElem_cons hlt] at hL
  have htl := ht _ (List.getElem_mem hlt)
  generalize a[k] = t at *
  simp only [mbA] at hL
  refine awN ?_
  simp only [(id F50), seval, hI, cAgr]
  refine awT ?_
  refine awK ?_
  simp only [(id F50), seval]
  refine awN ?_
  simp only [(id F50), seval]
  refine awp_keep [1, 2, 5, 6] [2] ?_
  simp only [Later, (id F50), seval]
  repeat' first|apply awS|apply awB
  refine awp_loopw (fun n st => ∃ j nx, j ≤ t.length ∧ n = t.length - j ∧ mbT c (t.drop j) = mbT c t ∧ st = ⟨mkT [(1, one (.int .i64 c)), (2, .val (.one (.ptr 2 0 0))), (5, one (.int .i64 k)), (6, one (.int .i64 j))], mkH [(2, ⟨0, 50, 1, 1, cAgr a⟩)], nx, 0⟩) t.length ⟨0, _, by omega, by omega, rfl, rfl⟩ ?_
  rintro n2 st ⟨j, nx2, hj, rfl, hM, rfl⟩
  by_cases hjt : j < t.length
  ·have hJ : (j : Int) < (t.length : Int) := by omega
   have hat2 := flat_at cPart_len t j hjt
   rw [List.drop_eq_getElem_cons hjt] at hM
   generalize t[j] = p at *
   simp only [mbT] at hM
   by_cases hc : p.claim = c
   ·have hh : mbA c a = true := by rw [← hL, ← hM]; simp [hc]
    refine awN ?_
    simp only [(id F50), seval, hat, hJ, cAgr, cTier]
    repeat refine ob ?_
    refine awT ?_
    refine awK ?_
    simp only [(id F50), seval]
    refine awN ?_
    simp only [(id F50), seval, hat, hat2, cAgr, cTier, cPart, hc]
    repeat refine ob ?_
    refine awT ?_
    refine awN ?_
    simp only [(id F50), seval]
    refine awX ?_
    simp only [(id F50), seval, hh]
   skip
   refine awN ?_
   simp only [(id F50), seval, hat, hJ, cAgr, cTier]
   repeat refine ob ?_
   refine awT ?_
   refine awK ?_
   simp only [(id F50), seval]
   refine awN ?_
   simp only [(id F50), seval, hat, hat2, cAgr, cTier, cPart, hc]
   repeat refine ob ?_
   refine awF ?_
   refine awK ?_
   simp only [(id F50), seval]
   refine awN ?_
   simp only [(id F50), seval]
   repeat refine ob ?_
   refine ⟨_, wk_keep [1, 2, 5, 6] [2], t.length - (j + 1), by omega, j + 1, nx2, by omega, rfl, ?_, ?_⟩
   ·rw [← hM]; simp [hc]
   simp only [(id F50), seval]
   try rfl
  obtain rfl : j = t.length := by omega
  have hJ : ¬ (t.length : Int) < (t.length : Int) := by omega
  rw [List.drop_length] at hM
  simp only [mbT] at hM
  refine awN ?_
  simp only [(id F50), seval, hat, hJ, cAgr, cTier]
  repeat refine ob ?_
  refine awF ?_
  refine awQ ?_
  simp only [(id F50), seval]
  refine awN ?_
  simp only [(id F50), seval]
  repeat refine ob ?_
  refine ⟨_, wk_keep [1, 2, 5] [2], a.length - (k + 1), by omega, k + 1, nx2, by omega, rfl, ?_, ?_⟩
  ·rw [← hM] at hL; simpa using hL
  simp only [(id F50), seval]
  try rfl
 obtain rfl : k = a.length := by omega
 have hI : ¬ (a.length : Int) < (a.length : Int) := by omega
 rw [List.drop_length] at hL
 simp only [mbA] at hL
 refine awN ?_
 simp only [(id F50), seval, hI, cAgr]
 refine awF ?_
 refine awQ ?_
 simp only [(id F50), seval]
 refine awN ?_
 simp only [(id F50), seval]
 refine awX ?_
 simp only [(id F50), seval, ← hL]
def F51 := And.intro zS (And.intro tf20 (And.intro tf23 (And.intro tf30 (And.intro tf31 (tf33)))))
set_option maxHeartbeats 4000000 in
theorem earlier_A (g : GEst) (i : Nat) (c : Int) (hi : i ≤ g.agrs.length) (hi2 : i ≤ 1000000000000) (ha : ∀ a ∈ g.agrs, a.length ≤ 1000000000000 ∧ ∀ t ∈ a, t.length ≤ 1000000000000) : ACall Tryz.prog 154 [.agg (cEst g), .one (.lit (.int .i64 i)), .one (.lit (.int .i64 c))] (one (.bool (mbE c (g.agrs.take i)))) := by
 refine acall_of Tryz.func154 rfl (by decide) (N := 20) rfl (by simp) (R := [.tmp 6]) rfl fun en k0 => ?_
 refine awN ?_
 simp only [(id F51), seval, cEst]
 refine awN ?_
 simp only [(id F51), seval]
 refine awp_keep [1, 2, 3, 7] [3] ?_
 simp only [Later, (id F51), seval]
 repeat' first|apply awS|apply awB
 refine awp_loopw (fun n st => ∃ k nx, k ≤ i ∧ n = i - k ∧ mbE c ((g.agrs.take i).drop k) = mbE c (g.agrs.take i) ∧ st = ⟨mkT [(1, one (.int .i64 i)), (2, one (.int .i64 c)), (3, .val (.one (.ptr 3 0 0))), (7, one (.int .i64 k))], mkH [(3, ⟨0, 36, 5, 1, cEst g⟩)], nx, 0⟩) i ⟨0, _, by omega, by omega, rfl, rfl⟩ ?_
 rintro n st ⟨k, nx, hk, rfl, hL, rfl⟩
 by_cases hlt : k < i
 ·have hI : (k : Int) < (i : Int) := by omega
  have hlt2 : k < g.agrs.length := by omega
  have hlt3 : k < (g.agrs.take i).length := by simp; omega
  have hat := flat_at cAgr_len g.agrs k hlt2
  rw [Nat.mul_one] at hat
  rw [List.drop_eq_getElem_cons hlt3, List.getElem_take] at hL
  have hM := member_A g.agrs[k] c (ha _ (List.getElem_mem hlt2)).1 (ha _ (List.getElem_mem hlt2)).2
  generalize g.agrs[k] = a at *
  simp only [mbE] at hL
  cases hb : mbA c a
  ·rw [hb] at hM hL
   refine awN ?_
   simp only [(id F51), seval, hI]
   refine awT ?_
   refine awK ?_
   simp only [(id F51), seval]
   refine awN ?_
   simp only [(id F51), seval, hat, cEst, cAgr, flat_pure cTier_pure]
   repeat refine ob ?_
   refine ⟨_, hM, rfl, ?_⟩
   simp only [Later, (id F51), seval]
   refine awF ?_
   refine awK ?_
   simp only [(id F51), seval]
   refine awN ?_
   simp only [(id F51), seval]
   repeat refine ob ?_
   refine ⟨_, wk_keep [1, 2, 3, 7] [3], i - (k + 1), by omega, k + 1, nx, by omega, rfl, ?_, ?_⟩
   ·simpa using hL
   simp only [(id F51), seval]
   try rfl
  rw [hb] at hM hL
  have hh : mbE c (g.agrs.take i) = true := by rw [← hL]; simp
  refine awN ?_
  simp only [(id F51), seval, hI]
  refine awT ?_
  refine awK ?_
  simp only [(id F51), seval]
  refine awN ?_
  simp only [(id F51), seval, hat, cEst, cAgr, flat_pure cTier_pure]
  repeat refine ob ?_
  refine ⟨_, hM, rfl, ?_⟩
  simp only [Later, (id F51), seval]
  refine awT ?_
  refine awN ?_
  simp only [(id F51), seval]
  refine awX ?_
  simp only [(id F51), seval, hh]
 obtain rfl : k = i := by omega
 have hI : ¬ (k : Int) < (k : Int) := by omega
 rw [List.drop_eq_nil_of_le (by simp; omega)] at hL
 simp only [mbE] at hL
 refine awN ?_
 simp only [(id F51), seval, hI]
 refine awF ?_
 refine awQ ?_
 simp only [(id F51), seval]
 refine awN ?_
 simp only [(id F51), seval]
 refine awX ?_
 simp only [(id F51), seval, ← hL]
theorem aFix (r : GRat) (h1 : r.num.size ≤ 500000000000) (h2 : r.den.size ≤ 500000000000) : ACall Tryz.prog 116 [.agg (cRat r)] (.val (.agg (cRat (enc (qOf r))))) :=
 acall_flat (fnOK_of Tryz.func116 (by decide) (by kernel_rfl)) [vRat r] (vRat (enc (qOf r))) fun w => rFix_any r w h1 h2
theorem aSignum (r : GRat) : ACall Tryz.prog 153 [.agg (cRat r)] (one (.int .i64 (sgnZ r))) :=
 acall_flat (fnOK_of Tryz.func153 (by decide) (by kernel_rfl)) [vRat r] (.int .i64 (sgnZ r)) fun w => Signum_any r w
noncomputable def agT (n : Int) (E : Int → Bool) : List GPart → Int
 | [] => 0
 | p :: l => if p.claim < -1 ∨ n ≤ p.claim then 1 else if p.claim = -1 ∧ p.capped = false then 21 else if p.capped = true ∧ qSgn (qOf p.cap) < 0 then 7
  else if p.claim ≠ -1 ∧ E p.claim = true then 20 else agT n E l
noncomputable def agA (n : Int) (E : Int → Bool) : GAgr → Int
 | [] => 0
 | t :: a => if agT n E t ≠ 0 then agT n E t else agA n E a
noncomputable def agS (n : Int) (E : Int → Bool) (a : GAgr) : Int := if 24 < a.length then 2 else if a.any longT = true then 2 else agA n E a
def F52 := And.intro zS (tf18)
theorem bSign (r : GRat) (h1 : r.num.size ≤ 500000000000) (h2 : r.den.size ≤ 500000000000) : ACall Tryz.prog 106 [.agg (cRat r)] (one (.int .i64 (qSgn (qOf r)))) := by
 have hF := aFix r h1 h2
 have hS := aSignum (enc (qOf r))
 rw [sgnZ_enc] at hS
 refine acall_of Tryz.func106 rfl (by decide) (N := 6) rfl (by simp) (R := [.tmp 2]) rfl fun en k0 => ?_
 refine awN ?_
 simp only [(id F52), seval, cRat]
 refine awN ?_
 simp only [(id F52), seval]
 refine ⟨_, hF, rfl, ?_⟩
 simp only [Later, (id F52), seval, cRat]
 refine ⟨_, hS, rfl, ?_⟩
 refine awX ?_
 simp only [(id F52), seval]
def F53 := And.intro zS (And.intro tf1 (And.intro tf20 (And.intro tf6 (And.intro tf2 (And.intro tf23 (And.intro tf24 (And.intro tf0 (And.intro tf8 (And.intro tf29 (And.intro tf30 (And.intro tf9 (And.intro tf16 (And.intro tf17 (And.intro tf10 (And.intro tf31 (And.intro tf32 (And.intro tf3 (And.intro tf33 (And.intro tf75 (And.intro tf11 (And.intro tf18 (And.intro tf19 (And.intro tf12 (And.intro tf35 (tf5)))))))))))))))))))))))))
set_option maxHeartbeats 8000000 in
theorem agreement_A (g : GEst) (i : Nat) (hi : i < g.agrs.length) (hi2 : i ≤ 1000000000000) (ha0 : ∀ a ∈ g.agrs, a.length ≤ 1000000000000 ∧ ∀ t ∈ a, t.length ≤ 1000000000000) (hag : (∀ t ∈ g.agrs[i], t.length ≤ 1000000000000) ∧ ∀ p ∈ g.agrs[i].flatten, ratOK p.cap) :
  ACall Tryz.prog 107 [.agg (cEst g), .one (.lit (.int .i64 i))] (one (.int .i64 (agS g.claims.length (fun c => mbE c (g.agrs.take i)) g.agrs[i]))) := by
 have hEar := fun c => earlier_A g i c (by omega) hi2 ha0
 obtain ⟨ht, hcp⟩ := hag
 have hat0 := flat_at cAgr_len g.agrs i hi
 rw [Nat.mul_one] at hat0
 have hin : (i : Int) < (g.agrs.length : Int) := by omega
 generalize hE0 : (fun c => mbE c (g.agrs.take i)) = E at *
 have hEar : ∀ c, ACall Tryz.prog 154 [.agg (cEst g), .one (.lit (.int .i64 i)), .one (.lit (.int .i64 c))] (one (.bool (E c))) := fun c => by rw [← hE0]; exact hEar c
 generalize g.agrs[i] = a at *
 generalize hn : (g.claims.length : Int) = n at *
 refine acall_of Tryz.func107 rfl (by decide) (N := 99) rfl (by simp) (R := [.tmp 4]) rfl fun en k0 => ?_
 refine awN ?_
 simp only [(id F53), seval, cEst]
 refine awN ?_
 simp only [(id F53), seval, hat0, cAgr, cEst]
 repeat refine ob ?_
 unfold agS
 by_cases h24 : 24 < a.length
 ·
  have hI : (24 : Int) < (a.length : Int) := by omega
  refine awN ?_
  simp only [(id F53), seval, hI]
  refine awT ?_
  refine awN ?_
  simp only [(id F53), seval]
  refine awX ?_
  simp only [(id F53), seval, h24]
 have hI24 : ¬ (24 : Int) < (a.length : Int) := by omega
 simp only [h24, if_false]
 refine awN ?_
 simp only [(id F53), seval, hI24]
 refine awF ?_
 refine awK ?_
 simp only [(id F53), seval]
 refine awN ?_
 simp only [(id F53), seval]
 refine awp_keep [1, 2, 5, 6] [2, 5] ?_
 simp only [Later, (id F53), seval]
 refine awp_cutA (M := fun st => a.any longT = false ∧ ∃ nx, st = ⟨mkT [(1, one (.int .i64 i)), (2, .val (.one (.ptr 2 0 0))), (5, .val (.one (.ptr 5 1 0)))], mkH [(2, ⟨0, 36, 5, 1, cEst g⟩), (5, ⟨1, 50, 1, 1, cAgr a⟩)], nx, 0⟩) ?_ ?_
 ·
  repeat' first|apply awS|apply awB
  refine awp_loopw (fun n st => ∃ k nx, k ≤ a.length ∧ n = a.length - k ∧ (a.drop k).any longT = a.any longT ∧ st = ⟨mkT [(1, one (.int .i64 i)), (2, .val (.one (.ptr 2 0 0))), (5, .val (.one (.ptr 5 1 0))), (6, one (.int .i64 k))], mkH [(2, ⟨0, 36, 5, 1, cEst g⟩), (5, ⟨1, 50, 1, 1, cAgr a⟩)], nx, 0⟩) a.length ⟨0, _, by omega, by omega, rfl, rfl⟩ ?_
  rintro n st ⟨k, nx, hk, rfl, hL, rfl⟩
  by_cases hlt : k < a.length
  ·
   have hI : (k : Int) < (a.length : Int) := by omega
   have hat := flat_at cTier_len a k hlt
   rw [Nat.mul_one] at hat
   rw [List.drop_eq_getElem_cons hlt] at hL
   have htl := ht _ (List.getElem_mem hlt)
   generalize a[k] = t at *
   simp only [List.any_cons] at hL
   cases hl : longT t
   ·
    have hJ : ¬ (24 : Int) < (t.length : Int) := by have := of_decide_eq_false hl; omega
    refine awN ?_
    simp only [(id F53), seval, hI, cAgr]
    refine awT ?_
    refine awK ?_
    simp only [(id F53), seval]
    refine awN ?_
    simp only [(id F53), seval, hat, hJ, cAgr, cTier]
    repeat refine ob ?_
    refine awF ?_
    refine awK ?_
    simp only [(id F53), seval]
    refine awN ?_
    simp only [(id F53), seval]
    repeat refine ob ?_
    refine ⟨_, wk_keep [1, 2, 5, 6] [2, 5], a.length - (k + 1), by omega, k + 1, nx, by omega, rfl, ?_, ?_⟩
    ·
     rw [← hL, hl]; rfl
    simp only [(id F53), seval]
    try rfl
   have hJ : (24 : Int) < (t.length : Int) := by have := of_decide_eq_true hl; omega
   have hR : a.any longT = true := by rw [← hL, hl]; rfl
   refine awN ?_
   simp only [(id F53), seval, hI, cAgr]
   refine awT ?_
   refine awK ?_
   simp only [(id F53), seval]
   refine awN ?_
   simp only [(id F53), seval, hat, hJ, cAgr, cTier]
   repeat refine ob ?_
   refine awT ?_
   refine awN ?_
   simp only [(id F53), seval]
   refine awX ?_
   simp only [(id F53), seval, hR]
  obtain rfl : k = a.length := by omega
  have hI : ¬ (a.length : Int) < (a.length : Int) := by omega
  rw [List.drop_length] at hL
  refine awN ?_
  simp only [(id F53), seval, hI, cAgr]
  refine awF ?_
  refine awQ ?_
  simp only [(id F53), seval]
  refine ⟨_, wk_keep [1, 2, 5] [2, 5], hL.symm, nx, ?_⟩
  simp only [(id F53), seval]
 rintro st ⟨hlo, nx, rfl⟩
 simp only [hlo, Bool.false_eq_true, if_false]
 refine awN ?_
 simp only [(id F53), seval]
 refine awp_keep [1, 2, 5, 7] [2, 5] ?_
 simp only [Later, (id F53), seval]
 repeat' first|apply awS|apply awB
 refine awp_loopw (fun m st => ∃ k nx, k ≤ a.length ∧ m = a.length - k ∧ agA n E (a.drop k) = agA n E a ∧ st = ⟨mkT [(1, one (.int .i64 i)), (2, .val (.one (.ptr 2 0 0))), (5, .val (.one (.ptr 5 1 0))), (7, one (.int .i64 k))], mkH [(2, ⟨0, 36, 5, 1, cEst g⟩), (5, ⟨1, 50, 1, 1, cAgr a⟩)], nx, 0⟩) a.length ⟨0, _, by omega, by omega, rfl, rfl⟩ ?_
 rintro m st ⟨k, nx, hk, rfl, hL, rfl⟩
 by_cases hlt : k < a.length
 ·
  have hI : (k : Int) < (a.length : Int) := by omega
  have hat := flat_at cTier_len a k hlt
  rw [Nat.mul_one] at hat
  rw [List.drop_eq_getElem_cons hlt] at hL
  have htl := ht _ (List.getElem_mem hlt)
  have hcpt : ∀ p ∈ a[k], ratOK p.cap := fun p hp => hcp p (List.mem_flatten.2 ⟨_, List.getElem_mem hlt, hp⟩)
  generalize a[k] = t at *
  simp only [agA] at hL
  refine awN ?_
  simp only [(id F53), seval, hI, cAgr]
  refine awT ?_
  refine awK ?_
  simp only [(id F53), seval]
  refine awN ?_
  simp only [(id F53), seval]
  refine awp_keep [1, 2, 5, 7, 8] [2, 5] ?_
  simp only [Later, (id F53), seval]
  repeat' first|apply awS|apply awB
  refine awp_loopw (fun m st => ∃ j nx, j ≤ t.length ∧ m = t.length - j ∧ agT n E (t.drop j) = agT n E t ∧ st = ⟨mkT [(1, one (.int .i64 i)), (2, .val (.one (.ptr 2 0 0))), (5, .val (.one (.ptr 5 1 0))), (7, one (.int .i64 k)), (8, one (.int .i64 j))], mkH [(2, ⟨0, 36, 5, 1, cEst g⟩), (5, ⟨1, 50, 1, 1, cAgr a⟩)], nx, 0⟩) t.length ⟨0, _, by omega, by omega, rfl, rfl⟩ ?_
  rintro m2 st ⟨j, nx2, hj, rfl, hM, rfl⟩
  by_cases hjt : j < t.length
  ·
   have hJ : (j : Int) < (t.length : Int) := by omega
   have hat2 := flat_at cPart_len t j hjt
   rw [List.drop_eq_getElem_cons hjt] at hM
   have hS := bSign t[j].cap (hcpt _ (List.getElem_mem hjt)).1 (hcpt _ (List.getElem_mem hjt)).2
   generalize t[j] = p at *
   simp only [agT] at hM
   by_cases p1 : p.claim < -1
   ·
    repeat' first|apply awS|apply awB
    refine awN ?_
    simp only [(id F53), seval, hat, hJ, cAgr, cTier]
    repeat refine ob ?_
    refine awT ?_
    refine awK ?_
    simp only [(id F53), seval]
    refine awN ?_
    simp only [(id F53), seval, hat, hat2, cAgr, cTier, cPart]
    repeat refine ob ?_
    refine awR [] [none, none, none, none, some (62, false), some (62, false), some (62, false), some (62, false), some (62, false), some (62, false), none, none] ?_
    simp only [(id F53), seval, p1, cEst]
    refine awT ?_
    refine awN ?_
    simp only [(id F53), seval]
    have hR : agA n E a = 1 := by
     have h1 : agT n E t = 1 := by rw [← hM]; simp [p1]
     rw [← hL, h1]; rfl
    refine awX ?_
    simp only [(id F53), seval, hR]
   by_cases p2 : (g.claims.length : Int) ≤ p.claim
   ·
    have p2n : n ≤ p.claim := by rw [← hn]; exact p2
    refine awN ?_
    simp only [(id F53), seval, hat, hJ, cAgr, cTier]
    repeat refine ob ?_
    refine awT ?_
    refine awK ?_
    simp only [(id F53), seval]
    refine awN ?_
    simp only [(id F53), seval, hat, hat2, cAgr, cTier, cPart]
    repeat refine ob ?_
    refine awR [] [none, none, none, none, some (62, false), some (62, false), some (62, false), some (62, false), some (62, false), some (62, false), none, none] ?_
    simp only [(id F53), seval, p1, p2, cEst]
    refine awT ?_
    refine awN ?_
    simp only [(id F53), seval]
    have hR : agA n E a = 1 := by
     have h1 : agT n E t = 1 := by rw [← hM]; simp [p2n]
     rw [← hL, h1]; rfl
    refine awX ?_
    simp only [(id F53), seval, hR]
   have p2n : ¬ n ≤ p.claim := by rw [← hn]; exact p2
   by_cases hc : p.claim = -1
   ·
    have p2m : ¬ n ≤ -1 := by rw [← hc]; exact p2n
    cases hcap : p.capped
    ·
     repeat' first|apply awS|apply awB
     refine awN ?_
     simp only [(id F53), seval, hat, hJ, cAgr, cTier]
     repeat refine ob ?_
     refine awT ?_
     refine awK ?_
     simp only [(id F53), seval]
     refine awN ?_
     simp only [(id F53), seval, hat, hat2, cAgr, cTier, cPart]
     repeat refine ob ?_
     refine awR [] [none, none, none, none, some (62, false), some (62, false), some (62, false), some (62, false), some (62, false), some (62, false), none, none] ?_
     simp only [(id F53), seval, p1, p2, cEst]
     refine awF ?_
     refine awR [] [none, none, none, none, some (74, true), some (74, true), some (74, true), none, none] ?_
     simp only [(id F53), seval, hc, hcap]
     refine awT ?_
     refine awN ?_
     simp only [(id F53), seval]
     have hR : agA n E a = 21 := by
      have h1 : agT n E t = 21 := by rw [← hM]; simp [p1, p2m, hc, hcap]
      rw [← hL, h1]; rfl
     refine awX ?_
     simp only [(id F53), seval, hR]
    by_cases hsg : qSgn (qOf p.cap) < 0
    ·
     repeat' first|apply awS|apply awB
     refine awN ?_
     simp only [(id F53), seval, hat, hJ, cAgr, cTier]
     repeat refine ob ?_
     refine awT ?_
     refine awK ?_
     simp only [(id F53), seval]
     refine awN ?_
     simp only [(id F53), seval, hat, hat2, cAgr, cTier, cPart]
     repeat refine ob ?_
     refine awR [] [none, none, none, none, some (62, false), some (62, false), some (62, false), some (62, false), some (62, false), some (62, false), none, none] ?_
     simp only [(id F53), seval, p1, p2, cEst]
     refine awF ?_
     refine awR [] [none, none, none, none, some (74, true), some (74, true), some (74, true), none, none] ?_
     simp only [(id F53), seval, hc, hcap]
     refine awF ?_
     refine awR [] [none, none, none, some (82, true), some (82, true), some (82, true), some (82, true), none, none] ?_
     simp only [(id F53), seval, hcap]
     refine ⟨_, hS, rfl, ?_⟩
     simp only [Later, (id F53), seval, hsg]
     refine awT ?_
     refine awN ?_
     simp only [(id F53), seval]
     have hR : agA n E a = 7 := by
      have h1 : agT n E t = 7 := by rw [← hM]; simp [p1, p2m, hc, hcap, hsg]
      rw [← hL, h1]; rfl
     refine awX ?_
     simp only [(id F53), seval, hR]
    repeat' first|apply awS|apply awB
    refine awN ?_
    simp only [(id F53), seval, hat, hJ, cAgr, cTier]
    repeat refine ob ?_
    refine awT ?_
    refine awK ?_
    simp only [(id F53), seval]
    refine awN ?_
    simp only [(id F53), seval, hat, hat2, cAgr, cTier, cPart]
    repeat refine ob ?_
    refine awR [] [none, none, none, none, some (62, false), some (62, false), some (62, false), some (62, false), some (62, false), some (62, false), none, none] ?_
    simp only [(id F53), seval, p1, p2, cEst]
    refine awF ?_
    refine awR [] [none, none, none, none, some (74, true), some (74, true), some (74, true), none, none] ?_
    simp only [(id F53), seval, hc, hcap]
    refine awF ?_
    refine awR [] [none, none, none, some (82, true), some (82, true), some (82, true), some (82, true), none, none] ?_
    simp only [(id F53), seval, hcap]
    refine ⟨_, hS, rfl, ?_⟩
    simp only [Later, (id F53), seval, hsg]
    refine awF ?_
    refine awR [] [none, none, none, none, some (92, true), some (92, true), some (92, true), some (92, true), some (92, true), none, none] ?_
    simp only [(id F53), seval, hc]
    refine awF ?_
    refine awK ?_
    simp only [(id F53), seval]
    refine awN ?_
    simp only [(id F53), seval]
    repeat refine ob ?_
    refine ⟨_, wk_keep [1, 2, 5, 7, 8] [2, 5], t.length - (j + 1), by omega, j + 1, nx2 + 1, by omega, rfl, ?_, ?_⟩
    ·
     rw [← hM]; simp [p1, p2m, hc, hcap, hsg]
    simp only [(id F53), seval]
    try rfl
   have hE := hEar p.claim
   cases hcap : p.capped
   ·
    cases heb : E p.claim
    ·
     rw [heb] at hE
     refine awN ?_
     simp only [(id F53), seval, hat, hJ, cAgr, cTier]
     repeat refine ob ?_
     refine awT ?_
     refine awK ?_
     simp only [(id F53), seval]
     refine awN ?_
     simp only [(id F53), seval, hat, hat2, cAgr, cTier, cPart]
     repeat refine ob ?_
     refine awR [] [none, none, none, none, some (62, false), some (62, false), some (62, false), some (62, false), some (62, false), some (62, false), none, none] ?_
     simp only [(id F53), seval, p1, p2, cEst]
     refine awF ?_
     refine awR [] [none, none, none, none, some (74, true), some (74, true), some (74, true), none, none] ?_
     simp only [(id F53), seval, hc]
     refine awF ?_
     refine awR [] [none, none, none, some (82, true), some (82, true), some (82, true), some (82, true), none, none] ?_
     simp only [(id F53), seval, hcap]
     refine awF ?_
     refine awR [] [none, none, none, none, some (92, true), some (92, true), some (92, true), some (92, true), some (92, true), none, none] ?_
     simp only [(id F53), seval, cEst, hc, flat_pure cClaim_pure, flat_pure cAgr_pure]
     refine ⟨_, hE, rfl, ?_⟩
     simp only [Later, (id F53), seval]
     refine awF ?_
     refine awK ?_
     simp only [(id F53), seval]
     refine awN ?_
     simp only [(id F53), seval]
     repeat refine ob ?_
     refine ⟨_, wk_keep [1, 2, 5, 7, 8] [2, 5], t.length - (j + 1), by omega, j + 1, nx2 + 1, by omega, rfl, ?_, ?_⟩
     ·
      rw [← hM]; simp [p1, p2n, hc, heb, hcap]
     simp only [(id F53), seval]
     try rfl
    rw [heb] at hE
    refine awN ?_
    simp only [(id F53), seval, hat, hJ, cAgr, cTier]
    repeat refine ob ?_
    refine awT ?_
    refine awK ?_
    simp only [(id F53), seval]
    refine awN ?_
    simp only [(id F53), seval, hat, hat2, cAgr, cTier, cPart]
    repeat refine ob ?_
    refine awR [] [none, none, none, none, some (62, false), some (62, false), some (62, false), some (62, false), some (62, false), some (62, false), none, none] ?_
    simp only [(id F53), seval, p1, p2, cEst]
    refine awF ?_
    refine awR [] [none, none, none, none, some (74, true), some (74, true), some (74, true), none, none] ?_
    simp only [(id F53), seval, hc]
    refine awF ?_
    refine awR [] [none, none, none, some (82, true), some (82, true), some (82, true), some (82, true), none, none] ?_
    simp only [(id F53), seval, hcap]
    refine awF ?_
    refine awR [] [none, none, none, none, some (92, true), some (92, true), some (92, true), some (92, true), some (92, true), none, none] ?_
    simp only [(id F53), seval, cEst, hc, flat_pure cClaim_pure, flat_pure cAgr_pure]
    refine ⟨_, hE, rfl, ?_⟩
    simp only [Later, (id F53), seval]
    refine awT ?_
    refine awN ?_
    simp only [(id F53), seval]
    have hR : agA n E a = 20 := by
     have h1 : agT n E t = 20 := by rw [← hM]; simp [p1, p2n, hc, heb, hcap]
     rw [← hL, h1]; rfl
    refine awX ?_
    simp only [(id F53), seval, hR]
   by_cases hsg : qSgn (qOf p.cap) < 0
   ·
    repeat' first|apply awS|apply awB
    refine awN ?_
    simp only [(id F53), seval, hat, hJ, cAgr, cTier]
    repeat refine ob ?_
    refine awT ?_
    refine awK ?_
    simp only [(id F53), seval]
    refine awN ?_
    simp only [(id F53), seval, hat, hat2, cAgr, cTier, cPart]
    repeat refine ob ?_
    refine awR [] [none, none, none, none, some (62, false), some (62, false), some (62, false), some (62, false), some (62, false), some (62, false), none, none] ?_
    simp only [(id F53), seval, p1, p2, cEst]
    refine awF ?_
    refine awR [] [none, none, none, none, some (74, true), some (74, true), some (74, true), none, none] ?_
    simp only [(id F53), seval, hc]
    refine awF ?_
    refine awR [] [none, none, none, some (82, true), some (82, true), some (82, true), some (82, true), none, none] ?_
    simp only [(id F53), seval, hcap]
    refine ⟨_, hS, rfl, ?_⟩
    simp only [Later, (id F53), seval, hsg]
    refine awT ?_
    refine awN ?_
    simp only [(id F53), seval]
    have hR : agA n E a = 7 := by
     have h1 : agT n E t = 7 := by rw [← hM]; simp [p1, p2n, hc, hcap, hsg]
     rw [← hL, h1]; rfl
    refine awX ?_
    simp only [(id F53), seval, hR]
   cases heb : E p.claim
   ·
    rw [heb] at hE
    refine awN ?_
    simp only [(id F53), seval, hat, hJ, cAgr, cTier]
    repeat refine ob ?_
    refine awT ?_
    refine awK ?_
    simp only [(id F53), seval]
    refine awN ?_
    simp only [(id F53), seval, hat, hat2, cAgr, cTier, cPart]
    repeat refine ob ?_
    refine awR [] [none, none, none, none, some (62, false), some (62, false), some (62, false), some (62, false), some (62, false), some (62, false), none, none] ?_
    simp only [(id F53), seval, p1, p2, cEst]
    refine awF ?_
    refine awR [] [none, none, none, none, some (74, true), some (74, true), some (74, true), none, none] ?_
    simp only [(id F53), seval, hc]
    refine awF ?_
    refine awR [] [none, none, none, some (82, true), some (82, true), some (82, true), some (82, true), none, none] ?_
    simp only [(id F53), seval, hcap]
    refine ⟨_, hS, rfl, ?_⟩
    simp only [Later, (id F53), seval, hsg]
    refine awF ?_
    refine awR [] [none, none, none, none, some (92, true), some (92, true), some (92, true), some (92, true), some (92, true), none, none] ?_
    simp only [(id F53), seval, cEst, hc, flat_pure cClaim_pure, flat_pure cAgr_pure]
    refine ⟨_, hE, rfl, ?_⟩
    simp only [Later, (id F53), seval]
    refine awF ?_
    refine awK ?_
    simp only [(id F53), seval]
    refine awN ?_
    simp only [(id F53), seval]
    repeat refine ob ?_
    refine ⟨_, wk_keep [1, 2, 5, 7, 8] [2, 5], t.length - (j + 1), by omega, j + 1, nx2 + 1, by omega, rfl, ?_, ?_⟩
    ·
     rw [← hM]; simp [p1, p2n, hc, heb, hcap, hsg]
    simp only [(id F53), seval]
    try rfl
   rw [heb] at hE
   refine awN ?_
   simp only [(id F53), seval, hat, hJ, cAgr, cTier]
   repeat refine ob ?_
   refine awT ?_
   refine awK ?_
   simp only [(id F53), seval]
   refine awN ?_
   simp only [(id F53), seval, hat, hat2, cAgr, cTier, cPart]
   repeat refine ob ?_
   refine awR [] [none, none, none, none, some (62, false), some (62, false), some (62, false), some (62, false), some (62, false), some (62, false), none, none] ?_
   simp only [(id F53), seval, p1, p2, cEst]
   refine awF ?_
   refine awR [] [none, none, none, none, some (74, true), some (74, true), some (74, true), none, none] ?_
   simp only [(id F53), seval, hc]
   refine awF ?_
   refine awR [] [none, none, none, some (82, true), some (82, true), some (82, true), some (82, true), none, none] ?_
   simp only [(id F53), seval, hcap]
   refine ⟨_, hS, rfl, ?_⟩
   simp only [Later, (id F53), seval, hsg]
   refine awF ?_
   refine awR [] [none, none, none, none, some (92, true), some (92, true), some (92, true), some (92, true), some (92, true), none, none] ?_
   simp only [(id F53), seval, cEst, hc, flat_pure cClaim_pure, flat_pure cAgr_pure]
   refine ⟨_, hE, rfl, ?_⟩
   simp only [Later, (id F53), seval]
   refine awT ?_
   refine awN ?_
   simp only [(id F53), seval]
   have hR : agA n E a = 20 := by
    have h1 : agT n E t = 20 := by rw [← hM]; simp [p1, p2n, hc, heb, hcap, hsg]
    rw [← hL, h1]; rfl
   refine awX ?_
   simp only [(id F53), seval, hR]
  obtain rfl : j = t.length := by omega
  have hJ : ¬ (t.length : Int) < (t.length : Int) := by omega
  rw [List.drop_length] at hM
  simp only [agT] at hM
  refine awN ?_
  simp only [(id F53), seval, hat, hJ, cAgr, cTier]
  repeat refine ob ?_
  refine awF ?_
  refine awQ ?_
  simp only [(id F53), seval]
  refine awN ?_
  simp only [(id F53), seval]
  repeat refine ob ?_
  refine ⟨_, wk_keep [1, 2, 5, 7] [2, 5], a.length - (k + 1), by omega, k + 1, nx2, by omega, rfl, ?_, ?_⟩
  ·
   rw [← hM] at hL; simpa using hL
  simp only [(id F53), seval]
  try rfl
 obtain rfl : k = a.length := by omega
 have hI : ¬ (a.length : Int) < (a.length : Int) := by omega
 rw [List.drop_length] at hL
 simp only [agA] at hL
 refine awN ?_
 simp only [(id F53), seval, hI, cAgr]
 refine awF ?_
 refine awQ ?_
 simp only [(id F53), seval]
 refine awN ?_
 simp only [(id F53), seval]
 refine awX ?_
 simp only [(id F53), seval, ← hL]
end Go.Proofs.YtokmkopihhnggaaGreatDoor
