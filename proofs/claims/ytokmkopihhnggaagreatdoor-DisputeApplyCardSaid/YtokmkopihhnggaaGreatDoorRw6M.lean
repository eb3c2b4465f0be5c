/- The reference: CheckGroup, FindLeg; walked by the abstract machine. -/
import Derived.Test.YtokmkopihhnggaaGreatDoorRw5M
set_option linter.unusedVariables false
set_option linter.unusedSimpArgs false
set_option linter.defProp false
namespace Go.Proofs.YtokmkopihhnggaaGreatDoor
open Go Go.RowKit
noncomputable def cgEsts : List GEst → Int
 | [] => 0
 | e :: l => if ceSpec e ≠ 0 then ceSpec e else cgEsts l
noncomputable def cgDebts (g : GGrp) : List GDebt → Nat → Int
 | [], _ => 0
 | d :: l, i => if dbS g i d ≠ 0 then dbS g i d else cgDebts g l (i + 1)
noncomputable def cgSpec (g : GGrp) : Int := if 8 < g.ests.length ∨ 16 < g.debts.length then 2 else if cgEsts g.ests ≠ 0 then cgEsts g.ests
 else if gcHolds g.ests.length 0 g.ests = true then 19 else cgDebts g g.debts 0
def grpOK2 (g : GGrp) : Prop := (∀ e ∈ g.ests, estOK2 e) ∧ (∀ d ∈ g.debts, ratOK d.whole) ∧ ∀ d ∈ g.debts, d.legs.length ≤ 1000000000000
def F58 := And.intro zS (And.intro tf21 (And.intro tf109 (And.intro tf24 (And.intro tf92 (And.intro tf110 (And.intro tf25 (And.intro tf29 (And.intro tf111 (And.intro tf95 (And.intro tf32 (And.intro tf98 (And.intro tf112 (And.intro tf75 (And.intro tf113 (tf12)))))))))))))))
set_option maxHeartbeats 8000000 in
theorem rGroup_A (g : GGrp) (hg : grpOK2 g) : ACall Tryz.prog 17 [.agg (cGrp g)] (one (.int .i64 (cgSpec g))) := by
 obtain ⟨hge, hgd, hgl⟩ := hg
 unfold cgSpec
 refine acall_of Tryz.func17 rfl (by decide) (N := 87) rfl (by simp) (R := [.tmp 2]) rfl fun en k0 => ?_
 refine awN ?_
 simp only [(id F58), seval, cGrp]
 by_cases h8 : 8 < g.ests.length
 ·
  have hI : (8 : Int) < (g.ests.length : Int) := by omega
  refine awR [] [none, none, none, none, none, some (14, false), some (14, false), some (14, false), some (14, false), none] ?_
  simp only [(id F58), seval, hI, cGrp]
  refine awT ?_
  refine awN ?_
  simp only [(id F58), seval]
  refine awX ?_
  simp only [(id F58), seval, h8]
 have hI8 : ¬ (8 : Int) < (g.ests.length : Int) := by omega
 by_cases h16 : 16 < g.debts.length
 ·
  have hI : (16 : Int) < (g.debts.length : Int) := by omega
  refine awR [] [none, none, none, none, none, some (14, false), some (14, false), some (14, false), some (14, false), none] ?_
  simp only [(id F58), seval, hI8, hI, cGrp]
  refine awT ?_
  refine awN ?_
  simp only [(id F58), seval]
  refine awX ?_
  simp only [(id F58), seval, h16]
 have hI16 : ¬ (16 : Int) < (g.debts.length : Int) := by omega
 refine awR [] [none, none, none, none, none, some (14, false), some (14, false), some (14, false), some (14, false), none] ?_
 simp only [(id F58), seval, hI8, hI16, cGrp]
 refine awF ?_
 refine awK ?_
 simp only [(id F58), seval]
 refine awN ?_
 simp only [(id F58), seval]
 refine awp_keep [1, 3] [1] ?_
 simp only [Later, (id F58), seval]
 refine awp_cutA (M := fun st => cgEsts g.ests = 0 ∧ ∃ nx, st = ⟨mkT [(1, .val (.one (.ptr 1 0 0)))], mkH [(1, ⟨0, 28, 2, 1, cGrp g⟩)], nx, 0⟩) ?_ ?_
 ·
  repeat' first|apply awS|apply awB
  refine awp_loopw (fun n st => ∃ k nx, k ≤ g.ests.length ∧ n = g.ests.length - k ∧ cgEsts (g.ests.drop k) = cgEsts g.ests ∧ st = ⟨mkT [(1, .val (.one (.ptr 1 0 0))), (3, one (.int .i64 k))], mkH [(1, ⟨0, 28, 2, 1, cGrp g⟩)], nx, 0⟩) g.ests.length ⟨0, _, by omega, by omega, rfl, rfl⟩ ?_
  rintro n st ⟨k, nx, hk, rfl, hL, rfl⟩
  by_cases hlt : k < g.ests.length
  ·
   have hI : (k : Int) < (g.ests.length : Int) := by omega
   have hat := flat_at cEst_len g.ests k hlt
   rw [List.drop_eq_getElem_cons hlt] at hL
   have hW := rEstate_A g.ests[k] (hge _ (List.getElem_mem hlt))
   generalize g.ests[k] = e at *
   simp only [cgEsts] at hL
   by_cases he : ceSpec e = 0
   ·
    repeat' first|apply awS|apply awB
    refine awN ?_
    simp only [(id F58), seval, hI, cGrp]
    refine awT ?_
    refine awK ?_
    simp only [(id F58), seval]
    refine awN ?_
    simp only [(id F58), seval, hat, cEst, cGrp, flat_pure cClaim_pure, flat_pure cAgr_pure]
    repeat refine ob ?_
    refine ⟨_, hW, rfl, ?_⟩
    simp only [Later, (id F58), seval, he]
    refine awN ?_
    simp only [(id F58), seval]
    refine awF ?_
    refine awK ?_
    simp only [(id F58), seval]
    refine awN ?_
    simp only [(id F58), seval]
    repeat refine ob ?_
    refine ⟨_, wk_keep [1, 3] [1], g.ests.length - (k + 1), by omega, k + 1, nx, by omega, rfl, ?_, ?_⟩
    ·
     rw [if_neg (by simp [he])] at hL; exact hL
    simp only [(id F58), seval]
    try rfl
   repeat' first|apply awS|apply awB
   refine awN ?_
   simp only [(id F58), seval, hI, cGrp]
   refine awT ?_
   refine awK ?_
   simp only [(id F58), seval]
   refine awN ?_
   simp only [(id F58), seval, hat, cEst, cGrp, flat_pure cClaim_pure, flat_pure cAgr_pure]
   repeat refine ob ?_
   refine ⟨_, hW, rfl, ?_⟩
   simp only [Later, (id F58), seval, he]
   refine awN ?_
   simp only [(id F58), seval, he]
   refine awT ?_
   refine awN ?_
   simp only [(id F58), seval]
   rw [if_pos he] at hL
   refine awX ?_
   simp only [(id F58), seval, h8, h16, or_self, ← hL, he]
  obtain rfl : k = g.ests.length := by omega
  have hI : ¬ (g.ests.length : Int) < (g.ests.length : Int) := by omega
  rw [List.drop_length] at hL
  simp only [cgEsts] at hL
  refine awN ?_
  simp only [(id F58), seval, hI, cGrp]
  refine awF ?_
  refine awQ ?_
  simp only [(id F58), seval]
  refine ⟨_, wk_keep [1] [1], hL.symm, nx, ?_⟩
  simp only [(id F58), seval]
 rintro st ⟨hw0, nx, rfl⟩
 simp only [h8, h16, or_self, if_false, hw0, ne_eq, not_true_eq_false]
 refine awN ?_
 simp only [(id F58), seval]
 refine awp_keep [1, 5] [1] ?_
 simp only [Later, (id F58), seval]
 refine awp_cutA (M := fun st => gcHolds g.ests.length 0 g.ests = false ∧ ∃ nx, st = ⟨mkT [(1, .val (.one (.ptr 1 0 0)))], mkH [(1, ⟨0, 28, 2, 1, cGrp g⟩)], nx, 0⟩) ?_ ?_
 ·
  repeat' first|apply awS|apply awB
  refine awp_loopw (fun n st => ∃ k nx, k ≤ g.ests.length ∧ n = g.ests.length - k ∧ gcHolds g.ests.length k (g.ests.drop k) = gcHolds g.ests.length 0 g.ests ∧ st = ⟨mkT [(1, .val (.one (.ptr 1 0 0))), (5, one (.int .i64 k))], mkH [(1, ⟨0, 28, 2, 1, cGrp g⟩)], nx, 0⟩) g.ests.length ⟨0, _, by omega, by omega, rfl, rfl⟩ ?_
  rintro n st ⟨k, nx, hk, rfl, hL, rfl⟩
  by_cases hlt : k < g.ests.length
  ·
   have hI : (k : Int) < (g.ests.length : Int) := by omega
   have hat := flat_at cEst_len g.ests k hlt
   rw [List.drop_eq_getElem_cons hlt] at hL
   have hcn := (hge _ (List.getElem_mem hlt)).1.2.2.1
   generalize g.ests[k] = e at *
   simp only [gcHolds] at hL
   refine awN ?_
   simp only [(id F58), seval, hI, cGrp]
   refine awT ?_
   refine awK ?_
   simp only [(id F58), seval]
   refine awN ?_
   simp only [(id F58), seval]
   refine awp_keep [1, 5, 6] [1] ?_
   simp only [Later, (id F58), seval]
   repeat' first|apply awS|apply awB
   refine awp_loopw (fun n st => ∃ j nx, j ≤ e.claims.length ∧ n = e.claims.length - j ∧ gcHold g.ests.length k (e.claims.drop j) = gcHold g.ests.length k e.claims ∧ st = ⟨mkT [(1, .val (.one (.ptr 1 0 0))), (5, one (.int .i64 k)), (6, one (.int .i64 j))], mkH [(1, ⟨0, 28, 2, 1, cGrp g⟩)], nx, 0⟩) e.claims.length ⟨0, _, by omega, by omega, rfl, rfl⟩ ?_
   rintro n2 st ⟨j, nx2, hj, rfl, hM, rfl⟩
   by_cases hjt : j < e.claims.length
   ·
    have hJ : (j : Int) < (e.claims.length : Int) := by omega
    have hat2 := flat_at cClaim_len e.claims j hjt
    rw [List.drop_eq_getElem_cons hjt] at hM
    generalize e.claims[j] = c at *
    simp only [gcHold] at hM
    by_cases p2 : (g.ests.length : Int) ≤ c.holder
    ·
     have hh : gcHolds g.ests.length 0 g.ests = true := by rw [← hL, ← hM]; simp [p2]
     refine awN ?_
     simp only [(id F58), seval, hat, hJ, cGrp, cEst]
     repeat refine ob ?_
     refine awT ?_
     refine awK ?_
     simp only [(id F58), seval]
     refine awN ?_
     simp only [(id F58), seval, hat, hat2, cGrp, cEst, cClaim]
     repeat refine ob ?_
     refine awR [] [none, none, none, none, none, none, some (69, false), some (69, false), some (69, false), none] ?_
     simp only [(id F58), seval, p2, cGrp]
     refine awT ?_
     refine awN ?_
     simp only [(id F58), seval]
     refine awX ?_
     simp only [(id F58), seval, hh]
    by_cases p1 : c.holder = (k : Int)
    ·
     have hh : gcHolds g.ests.length 0 g.ests = true := by rw [← hL, ← hM]; simp [p1]
     have p3 : ¬ (g.ests.length : Int) ≤ (k : Int) := by omega
     refine awN ?_
     simp only [(id F58), seval, hat, hJ, cGrp, cEst]
     repeat refine ob ?_
     refine awT ?_
     refine awK ?_
     simp only [(id F58), seval]
     refine awN ?_
     simp only [(id F58), seval, hat, hat2, cGrp, cEst, cClaim]
     repeat refine ob ?_
     refine awR [] [none, none, none, none, none, none, some (69, false), some (69, false), some (69, false), none] ?_
     simp only [(id F58), seval, p1, p3, cGrp]
     refine awT ?_
     refine awN ?_
     simp only [(id F58), seval]
     refine awX ?_
     simp only [(id F58), seval, hh]
    refine awN ?_
    simp only [(id F58), seval, hat, hJ, cGrp, cEst]
    repeat refine ob ?_
    refine awT ?_
    refine awK ?_
    simp only [(id F58), seval]
    refine awN ?_
    simp only [(id F58), seval, hat, hat2, cGrp, cEst, cClaim]
    repeat refine ob ?_
    refine awR [] [none, none, none, none, none, none, some (69, false), some (69, false), some (69, false), none] ?_
    simp only [(id F58), seval, p1, p2, cGrp]
    refine awF ?_
    refine awK ?_
    simp only [(id F58), seval]
    refine awN ?_
    simp only [(id F58), seval]
    repeat refine ob ?_
    refine ⟨_, wk_keep [1, 5, 6] [1], e.claims.length - (j + 1), by omega, j + 1, nx2, by omega, rfl, ?_, ?_⟩
    ·
     rw [← hM]; simp [p1, p2]
    simp only [(id F58), seval]
    try rfl
   obtain rfl : j = e.claims.length := by omega
   have hJ : ¬ (e.claims.length : Int) < (e.claims.length : Int) := by omega
   rw [List.drop_length] at hM
   simp only [gcHold] at hM
   refine awN ?_
   simp only [(id F58), seval, hat, hJ, cGrp, cEst]
   repeat refine ob ?_
   refine awF ?_
   refine awQ ?_
   simp only [(id F58), seval]
   refine awN ?_
   simp only [(id F58), seval]
   repeat refine ob ?_
   refine ⟨_, wk_keep [1, 5] [1], g.ests.length - (k + 1), by omega, k + 1, nx2, by omega, rfl, ?_, ?_⟩
   ·
    rw [← hM] at hL; simpa using hL
   simp only [(id F58), seval]
   try rfl
  obtain rfl : k = g.ests.length := by omega
  have hI : ¬ (g.ests.length : Int) < (g.ests.length : Int) := by omega
  rw [List.drop_length] at hL
  simp only [gcHolds] at hL
  refine awN ?_
  simp only [(id F58), seval, hI, cGrp]
  refine awF ?_
  refine awQ ?_
  simp only [(id F58), seval]
  refine ⟨_, wk_keep [1] [1], hL.symm, nx, ?_⟩
  simp only [(id F58), seval]
 rintro st ⟨hh0, nx, rfl⟩
 simp only [hh0, Bool.false_eq_true, if_false]
 refine awN ?_
 simp only [(id F58), seval]
 refine awp_keep [1, 8] [1] ?_
 simp only [Later, (id F58), seval]
 repeat' first|apply awS|apply awB
 refine awp_loopw (fun n st => ∃ k nx, k ≤ g.debts.length ∧ n = g.debts.length - k ∧ cgDebts g (g.debts.drop k) k = cgDebts g g.debts 0 ∧ st = ⟨mkT [(1, .val (.one (.ptr 1 0 0))), (8, one (.int .i64 k))], mkH [(1, ⟨0, 28, 2, 1, cGrp g⟩)], nx, 0⟩) g.debts.length ⟨0, _, by omega, by omega, rfl, rfl⟩ ?_
 rintro n st ⟨k, nx, hk, rfl, hL, rfl⟩
 by_cases hlt : k < g.debts.length
 ·
  have hI : (k : Int) < (g.debts.length : Int) := by omega
  rw [List.drop_eq_getElem_cons hlt] at hL
  obtain ⟨hd1, hd2⟩ := hgd _ (List.getElem_mem hlt)
  have hD := debt_A g k hlt (by omega) hgl hd1 hd2
  simp only [cgDebts] at hL
  generalize dbS g k g.debts[k] = r at *
  by_cases he : r = 0
  ·
   rw [if_neg (by simp [he])] at hL
   refine awN ?_
   simp only [(id F58), seval, hI, cGrp]
   refine awT ?_
   refine awK ?_
   simp only [(id F58), seval]
   refine awN ?_
   simp only [(id F58), seval, cGrp, flat_pure cEst_pure, flat_pure cDebt_pure]
   refine ⟨_, hD, rfl, ?_⟩
   simp only [Later, (id F58), seval, he]
   refine awN ?_
   simp only [(id F58), seval]
   refine awF ?_
   refine awK ?_
   simp only [(id F58), seval]
   refine awN ?_
   simp only [(id F58), seval]
   repeat refine ob ?_
   refine ⟨_, wk_keep [1, 8] [1], g.debts.length - (k + 1), by omega, k + 1, nx, by omega, rfl, hL, ?_⟩
   simp only [(id F58), seval]
   try rfl
  rw [if_pos he] at hL
  refine awN ?_
  simp only [(id F58), seval, hI, cGrp]
  refine awT ?_
  refine awK ?_
  simp only [(id F58), seval]
  refine awN ?_
  simp only [(id F58), seval, cGrp, flat_pure cEst_pure, flat_pure cDebt_pure]
  refine ⟨_, hD, rfl, ?_⟩
  simp only [Later, (id F58), seval, he]
  refine awN ?_
  simp only [(id F58), seval, he]
  refine awT ?_
  refine awN ?_
  simp only [(id F58), seval]
  refine awX ?_
  simp only [(id F58), seval, hL]
 obtain rfl : k = g.debts.length := by omega
 have hI : ¬ (g.debts.length : Int) < (g.debts.length : Int) := by omega
 rw [List.drop_length] at hL
 simp only [cgDebts] at hL
 refine awN ?_
 simp only [(id F58), seval, hI, cGrp]
 refine awF ?_
 refine awQ ?_
 simp only [(id F58), seval]
 refine awN ?_
 simp only [(id F58), seval]
 refine awX ?_
 simp only [(id F58), seval, ← hL]

def marks (tk : List Bool) (E : Int → Bool) : Prop := ∀ c : Int, 0 ≤ c → c < tk.length → tk.getD c.toNat false = E c
theorem caLoop_agT {tk : List Bool} {E : Int → Bool} (hE : marks tk E) : ∀ l : List GPart, caLoop tk l = agT tk.length E l
 | [] => rfl
 | p :: l => by
  simp only [caLoop, agT]
  rw [caLoop_agT hE l]
  by_cases h1 : p.claim = -1
  ·have a1 : ¬ (p.claim < -1 ∨ (tk.length : Int) ≤ p.claim) := by omega
   rw [if_neg (by simp [h1]), if_neg a1]
   simp [h1]
  by_cases h2 : p.claim < 0 ∨ (tk.length : Int) ≤ p.claim
  ·rw [if_pos ⟨h1, h2⟩, if_pos (show p.claim < -1 ∨ (tk.length : Int) ≤ p.claim by omega)]
  rw [if_neg (fun h => h2 h.2), if_neg (show ¬ (p.claim < -1 ∨ (tk.length : Int) ≤ p.claim) by omega), hE p.claim (by omega) (by omega)]
theorem agT_append (n : Int) (E : Int → Bool) : ∀ l m : List GPart, agT n E (l ++ m) = if agT n E l ≠ 0 then agT n E l else agT n E m
 | [], m => by simp [agT]
 | p :: l, m => by
  simp only [List.cons_append, agT]
  rw [agT_append n E l m]
  split
  ·simp
  split
  ·simp
  split
  ·simp
  split <;> simp
theorem agA_flat (n : Int) (E : Int → Bool) : ∀ a : GAgr, agA n E a = agT n E a.flatten
 | [] => rfl
 | t :: a => by rw [List.flatten_cons, agT_append, agA, agA_flat n E a]
theorem caSpec_agS {tk : List Bool} {E : Int → Bool} (hE : marks tk E) (a : GAgr) : caSpec a tk = agS tk.length E a := by
 unfold caSpec agS
 rw [caLoop_agT hE, agA_flat]
 by_cases h1 : 24 < a.length <;> by_cases h2 : a.any longT = true <;> simp [h1, h2]
theorem compactUpTo_mem {d : Array Int} {x : Int} : ∀ m, m ≤ d.size → (∃ j, j < m ∧ d[j]! = x) → x ∈ Lib.compactUpTo d m
 | 0, _, ⟨j, h, _⟩ => by omega
 | m + 1, hm, ⟨j, hj, hx⟩ => by
  rw [Lib.compactUpTo_succ, List.mem_append]
  by_cases hjm : j < m
  ·exact .inl (compactUpTo_mem m (by omega) ⟨j, hjm, hx⟩)
  obtain rfl : j = m := by omega
  cases hk : Lib.keeps d j with
  | true => right; simp [hx]
  | false =>
   left
   have h2 : ¬ (j = 0 ∨ d[j]! ≠ d[j - 1]!) := by simpa [Lib.keeps] using hk
   have h3 : j ≠ 0 := fun h => h2 (.inl h)
   have h4 : d[j]! = d[j - 1]! := Classical.byContradiction fun h => h2 (.inr h)
   exact compactUpTo_mem j (by omega) ⟨j - 1, by omega, by rw [← h4]; exact hx⟩
theorem mem_iff {a : GAgr} {i : Int} : i ∈ mem a ↔ i ∈ idsOf a.flatten := by
 refine ⟨mem_mem, fun h => ?_⟩
 have h1 : i ∈ sorted (idsOf a.flatten) := by simpa [sorted] using h
 obtain ⟨j, hj, hx⟩ := List.getElem_of_mem h1
 exact compactUpTo_mem _ (by simp) ⟨j, hj, by rw [getElem!_pos _ j (by simpa using hj)]; simpa using hx⟩
theorem mark_get : ∀ (ms : List Int) (tk : List Bool), (∀ i ∈ ms, 0 ≤ i ∧ i < tk.length) → ∀ c : Int, 0 ≤ c → c < tk.length → (mark tk ms).getD c.toNat false = (tk.getD c.toNat false || decide (c ∈ ms))
 | [], tk, _, c, _, _ => by simp [mark]
 | i :: ms, tk, h, c, h0, h1 => by
  have hi := h i (by simp)
  rw [mark, mark_get ms _ (fun j hj => by rw [List.length_set]; exact h j (List.mem_cons_of_mem _ hj)) c h0 (by rw [List.length_set]; exact h1)]
  by_cases hci : c = i
  ·subst hci
   simp [List.getD, List.getElem?_set, show c.toNat < tk.length by omega]
  have : i.toNat ≠ c.toNat := by omega
  simp [List.getD, List.getElem?_set, this, hci]
theorem mbT_ids (c : Int) (hc : c ≠ -1) : ∀ l : List GPart, mbT c l = decide (c ∈ idsOf l)
 | [] => by simp [mbT, idsOf]
 | p :: l => by
  simp only [mbT, idsOf, mbT_ids c hc l]
  by_cases h : p.claim = -1
  ·have : p.claim ≠ c := fun e => hc (by rw [← e, h])
   simp [h, Ne.symm hc]
  by_cases h2 : p.claim = c
  ·simp [h, h2, hc]
  simp [h, h2, Ne.symm h2]
theorem mbT_append (c : Int) : ∀ l m : List GPart, mbT c (l ++ m) = (mbT c l || mbT c m)
 | [], m => by simp [mbT]
 | p :: l, m => by simp [mbT, mbT_append c l m, Bool.or_assoc]
theorem mbA_flat (c : Int) : ∀ a : GAgr, mbA c a = mbT c a.flatten
 | [] => rfl
 | t :: a => by rw [List.flatten_cons, mbT_append, mbA, mbA_flat c a]
theorem mbE_snoc (c : Int) (a : GAgr) : ∀ l : List GAgr, mbE c (l ++ [a]) = (mbE c l || mbA c a)
 | [] => by simp [mbE]
 | b :: l => by simp [mbE, mbE_snoc c a l, Bool.or_assoc]
theorem wcAgrs_ce (g : GEst) : ∀ (l : List GAgr) (i : Nat) (tk : List Bool), l = g.agrs.drop i → tk.length = g.claims.length → marks tk (fun c => mbE c (g.agrs.take i)) → wcAgrs tk l = ceAgrs g i l
 | [], _, _, _, _, _ => rfl
 | a :: l, i, tk, hl, hn, hE => by
  have h1 := caSpec_agS hE a
  rw [hn] at h1
  simp only [wcAgrs, ceAgrs, ← h1]
  by_cases h0 : caSpec a tk = 0
  ·rw [if_neg (by simp [h0]), if_neg (by simp [h0])]
   have hi : i < g.agrs.length := by
    rcases Nat.lt_or_ge i g.agrs.length with h | h
    ·exact h
    rw [List.drop_eq_nil_of_le h] at hl; cases hl
   rw [List.drop_eq_getElem_cons hi] at hl
   obtain ⟨rfl, hl'⟩ := List.cons.inj hl
   refine wcAgrs_ce g l (i + 1) _ hl' (by rw [mark_length]; exact hn) fun c c0 c1 => ?_
   rw [mark_length] at c1
   have hm := (caSpec_ok h0).2.2
   rw [mark_get _ _ hm c c0 c1, hE c c0 c1, List.take_succ_eq_append_getElem hi]
   show (mbE c (List.take i g.agrs) || decide (c ∈ mem g.agrs[i])) = mbE c (List.take i g.agrs ++ [g.agrs[i]])
   rw [mbE_snoc, mbA_flat, mbT_ids c (by omega)]
   congr 1
   simp [mem_iff]
  rw [if_pos h0, if_pos h0]
theorem wc_ce (e : GEst) : wcSpec e = ceSpec e := by
 unfold wcSpec ceSpec
 rw [wcAgrs_ce e e.agrs 0 _ (by simp) (by simp) fun c c0 c1 => by simp only [mbE, List.take_zero, List.getD, List.getElem?_replicate]; split <;> rfl]
theorem gcEsts_cg : ∀ l : List GEst, gcEsts l = cgEsts l
 | [] => rfl
 | e :: l => by simp only [gcEsts, cgEsts, wc_ce e, gcEsts_cg l]
theorem lgT_append (l0 : Leg) : ∀ (t u : List Leg) (j : Nat), lgT l0 (t ++ u) j = match lgT l0 t j with
  | some x => some x
  | none => lgT l0 u (j + t.length)
 | [], u, j => by simp [lgT]
 | x :: t, u, j => by
  simp only [List.cons_append, lgT]
  by_cases h : x.1 = l0.1 ∧ x.2 = l0.2
  ·simp [h]
  rw [if_neg h, if_neg h, lgT_append l0 t u (j + 1)]
  simp [Nat.add_assoc, Nat.add_comm 1]
theorem lgT_none (l0 : Leg) : ∀ (t : List Leg) (j : Nat), lgT l0 t j = none ↔ l0 ∉ t
 | [], j => by simp [lgT]
 | x :: t, j => by
  simp only [lgT]
  by_cases h : x.1 = l0.1 ∧ x.2 = l0.2
  ·have : x = l0 := Prod.ext h.1 h.2
   simp [h, this]
  have hx : l0 ≠ x := fun e => h (by rw [e]; exact ⟨rfl, rfl⟩)
  rw [if_neg h, lgT_none l0 t (j + 1)]
  simp [hx]
theorem lgD_append (l0 : Leg) : ∀ (ds es : List GDebt) (i : Nat), lgD l0 (ds ++ es) i = match lgD l0 ds i with
  | some x => some x
  | none => lgD l0 es (i + ds.length)
 | [], es, i => by simp [lgD]
 | d :: ds, es, i => by
  simp only [List.cons_append, lgD]
  cases lgT l0 d.legs 0 with
  | some j => rfl
  | none =>
   simp only
   rw [lgD_append l0 ds es (i + 1)]
   simp [Nat.add_assoc, Nat.add_comm 1]
theorem lgD_lt (l0 : Leg) : ∀ (ds : List GDebt) (i : Nat) (x : Nat × Nat), lgD l0 ds i = some x → x.1 < i + ds.length
 | d :: ds, i, x, h => by
  simp only [lgD] at h
  cases hh : lgT l0 d.legs 0 with
  | some j => rw [hh] at h; simp at h; subst h; simp
  | none => rw [hh] at h; have := lgD_lt l0 ds (i + 1) x h; simp only [List.length_cons]; omega
theorem lgT_lt (l0 : Leg) : ∀ (t : List Leg) (j x : Nat), lgT l0 t j = some x → x < j + t.length
 | y :: t, j, x, h => by
  simp only [lgT] at h
  split at h
  ·simp at h; subst h; simp
  have := lgT_lt l0 t (j + 1) x h; simp only [List.length_cons]; omega
theorem bad_iff (g : GGrp) (pre post : List GDebt) (d : GDebt) (dn ls : List Leg) (l : Leg) (hg : g.debts = pre ++ d :: post) (hd : d.legs = dn ++ l :: ls) :
  lgBad (lgD l g.debts 0) pre.length dn.length = true ↔ (lgD l pre 0 ≠ none ∨ l ∈ dn) := by
 rw [hg, lgD_append]
 cases h1 : lgD l pre 0 with
 | some x =>
  have := lgD_lt l pre 0 x h1
  simp only [lgBad, decide_eq_true_eq, ne_eq, reduceCtorEq, not_false_eq_true, true_or, iff_true]
  left; omega
 | none =>
  simp only [lgD, hd, lgT_append, Nat.zero_add]
  cases h2 : lgT l dn 0 with
  | some x =>
   have := lgT_lt l dn 0 x h2
   have hm : l ∈ dn := Classical.byContradiction fun h => by rw [(lgT_none l dn 0).2 h] at h2; cases h2
   simp only [lgBad, decide_eq_true_eq, hm, or_true, iff_true]
   right; omega
  | none =>
   have hm := (lgT_none l dn 0).1 h2
   simp [lgT, lgBad, hm]
theorem cd_db (g : GGrp) (pre post : List GDebt) (d : GDebt) (hg : g.debts = pre ++ d :: post) (h0 : Int) : ∀ (ls dn : List Leg) (T : List Leg), d.legs = dn ++ ls → (∀ l, l ∈ T ↔ (lgD l pre 0 ≠ none ∨ l ∈ dn)) →
  (cdLoop g.ests h0 ls T).1 = dbL g pre.length h0 ls dn.length ∧ ((cdLoop g.ests h0 ls T).1 = 0 → ∀ l, l ∈ (cdLoop g.ests h0 ls T).2 ↔ (lgD l pre 0 ≠ none ∨ l ∈ d.legs))
 | [], dn, T, hd, hT => by
  simp only [cdLoop, dbL]
  refine ⟨trivial, fun _ l => ?_⟩
  rw [hT l, hd, List.append_nil]
 | l :: ls, dn, T, hd, hT => by
  have hb := bad_iff g pre post d dn ls l hg hd
  rw [← hT l] at hb
  simp only [cdLoop, dbL, hb]
  by_cases c1 : inEsts g.ests l = false
  ·simp [c1]
  by_cases c2 : l ∈ T
  ·simp [c1, c2]
  by_cases c3 : (claimAt g.ests l).holder ≠ h0
  ·simp [c1, c2, c3]
  have ih := cd_db g pre post d hg h0 ls (dn ++ [l]) (T ++ [l]) (by simpa using hd) (fun x => by simp only [List.mem_append, List.mem_singleton]; rw [hT x]; exact or_assoc)
  rw [List.length_append, List.length_singleton] at ih
  simpa only [c1, c2, c3, if_false, reduceCtorEq, ite_false] using ih
theorem gcDebts_cg (g : GGrp) : ∀ (ds pre : List GDebt) (T : List Leg), g.debts = pre ++ ds → (∀ l, l ∈ T ↔ lgD l pre 0 ≠ none) → gcDebts g ds T = cgDebts g ds pre.length
 | [], _, _, _, _ => rfl
 | d :: ds, pre, T, hg, hT => by
  have h := cd_db g pre ds d hg (claimAt g.ests (d.legs.getD 0 (0, 0))).holder d.legs [] T rfl (fun l => by simpa using hT l)
  have h1 : (cdSpec g d T).1 = dbS g pre.length d := by
   unfold cdSpec dbS
   split
   ·rfl
   split
   ·rfl
   exact h.1
  simp only [gcDebts, cgDebts, ← h1]
  by_cases c : (cdSpec g d T).1 = 0
  ·rw [if_neg (by simp [c]), if_neg (by simp [c])]
   have := gcDebts_cg g ds (pre ++ [d]) (cdSpec g d T).2 (by simpa using hg) (fun l => ?_)
   ·simpa using this
   have h2 : (cdSpec g d T) = cdLoop g.ests (claimAt g.ests (d.legs.getD 0 (0, 0))).holder d.legs T := by
    unfold cdSpec at c ⊢
    split
    ·rename_i hh; rw [if_pos hh] at c; cases c
    rename_i hh
    rw [if_neg hh] at c
    split
    ·rename_i hh2; rw [if_pos hh2] at c; cases c
    rfl
   rw [h2] at c ⊢
   rw [h.2 c l, lgD_append]
   cases h3 : lgD l pre 0 with
   | some x => simp
   | none =>
    simp only [lgD]
    cases h4 : lgT l d.legs 0 with
    | some x =>
     have : l ∈ d.legs := Classical.byContradiction fun h => by rw [(lgT_none l _ 0).2 h] at h4; cases h4
     simp [this]
    | none => simp [(lgT_none l _ 0).1 h4]
  rw [if_pos c, if_pos c]
theorem gc_cg (g : GGrp) : gcSpec g = cgSpec g := by
 unfold gcSpec cgSpec
 rw [gcEsts_cg, gcDebts_cg g g.debts [] [] rfl (fun l => by simp [lgD])]
 rfl
end Go.Proofs.YtokmkopihhnggaaGreatDoor
