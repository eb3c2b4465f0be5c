/- waterfall.Check; walked by the abstract machine. -/
import Derived.Test.YtokmkopihhnggaaGreatDoorWf5M
set_option linter.unusedVariables false
set_option linter.unusedSimpArgs false
set_option linter.defProp false
namespace Go.Proofs.YtokmkopihhnggaaGreatDoor
open Go Go.RowKit
def ratOK (q : GRat) : Prop := q.num.size ≤ 500000000000 ∧ q.den.size ≤ 500000000000
def estOK (e : GEst) : Prop := ratOK e.cash ∧ (∀ c ∈ e.claims, ratOK c.amount) ∧ e.claims.length ≤ 1000000000000 ∧ ∀ a ∈ e.agrs, (∀ t ∈ a, t.length ≤ 1000000000000) ∧ ∀ p ∈ a.flatten, ratOK p.cap
noncomputable def wcClaims : List GClaim → Int
 | [] => 0
 | c :: l => if c.holder < -1 ∨ 8 ≤ c.holder then 19 else if c.rank < 0 ∨ 7 < c.rank then 1 else if qSgn (qOf c.amount) < 0 then 7 else wcClaims l
def mark (tk : List Bool) : List Int → List Bool
 | [] => tk
 | i :: l => mark (tk.set i.toNat true) l
theorem mark_length : ∀ (l : List Int) (tk : List Bool), (mark tk l).length = tk.length
 | [], _ => rfl
 | i :: l, tk => by rw [mark, mark_length l, List.length_set]
noncomputable def wcAgrs (tk : List Bool) : List GAgr → Int
 | [] => 0
 | a :: l => if caSpec a tk ≠ 0 then caSpec a tk else wcAgrs (mark tk (mem a)) l
noncomputable def wcSpec (e : GEst) : Int := if 24 < e.claims.length ∨ 12 < e.agrs.length then 2 else if qSgn (qOf e.cash) < 0 then 7 else if wcClaims e.claims ≠ 0 then wcClaims e.claims
 else wcAgrs (List.replicate e.claims.length false) e.agrs
theorem mem_compactUpTo {d : Array Int} {x : Int} : ∀ m, m ≤ d.size → x ∈ Lib.compactUpTo d m → x ∈ d.toList
 | 0, _, h => by simp [Lib.compactUpTo] at h
 | m + 1, hm, h => by
  rw [Lib.compactUpTo_succ, List.mem_append] at h
  rcases h with h | h
  ·exact mem_compactUpTo m (by omega) h
  split at h
  ·simp only [List.mem_singleton] at h
   subst h
   rw [getElem!_pos d m (by omega)]
   simp
  cases h
theorem mem_mem {a : GAgr} {i : Int} (h : i ∈ mem a) : i ∈ idsOf a.flatten := by
 have h1 := mem_compactUpTo _ (by simp) h
 simpa [sorted] using h1
theorem mem_ids : ∀ {l : List GPart} {i : Int}, i ∈ idsOf l → ∃ p ∈ l, p.claim = i ∧ p.claim ≠ -1
 | p :: l, i, h => by
  simp only [idsOf] at h
  by_cases hc : p.claim = -1
  ·rw [if_pos hc] at h
   obtain ⟨q, h1, h2⟩ := mem_ids h
   exact ⟨q, List.mem_cons_of_mem _ h1, h2⟩
  rw [if_neg hc] at h
  rcases List.mem_cons.1 h with rfl | h
  ·exact ⟨p, by simp, rfl, hc⟩
  obtain ⟨q, h1, h2⟩ := mem_ids h
  exact ⟨q, List.mem_cons_of_mem _ h1, h2⟩
theorem caLoop_ok {tk : List Bool} : ∀ {l : List GPart}, caLoop tk l = 0 → ∀ p ∈ l, p.claim ≠ -1 → 0 ≤ p.claim ∧ p.claim < tk.length
 | q :: l, h, p, hp, hc => by
  simp only [caLoop] at h
  split at h
  ·cases h
  rename_i h1
  split at h
  ·cases h
  split at h
  ·cases h
  split at h
  ·cases h
  rcases List.mem_cons.1 hp with rfl | hp
  ·have := fun h2 => h1 ⟨hc, h2⟩
   omega
  exact caLoop_ok h p hp hc
theorem caSpec_ok {a : GAgr} {tk : List Bool} (h : caSpec a tk = 0) : a.length ≤ 24 ∧ a.flatten.length ≤ 576 ∧ ∀ i ∈ mem a, 0 ≤ i ∧ i < tk.length := by
 unfold caSpec at h
 split at h
 ·cases h
 rename_i h1
 have h2 : a.any longT = false := by simpa using fun h => h1 (.inr h)
 have h3 := flatten_short a h2
 refine ⟨by omega, by omega, fun i hi => ?_⟩
 obtain ⟨p, k1, k2, k3⟩ := mem_ids (mem_mem hi)
 subst k2
 exact caLoop_ok h p k1 k3
theorem mem_length (a : GAgr) : (mem a).length ≤ a.flatten.length := by
 have h1 := Lib.compact_length_le (sorted (idsOf a.flatten))
 have h2 : ∀ l : List GPart, (idsOf l).length ≤ l.length := fun l => by
  induction l with
  | nil => simp [idsOf]
  | cons p l ih => simp only [idsOf]; split <;> simp <;> omega
 have h3 := h2 a.flatten
 rw [sorted_length] at h1
 exact Nat.le_trans h1 h3
theorem cB_set (tk : List Bool) (k : Nat) (h : k < tk.length) : spl (flat cB tk) k [.lit (.bool true)] = flat cB (tk.set k true) := by
 induction tk generalizing k with
 | nil => simp at h
 | cons b tk ih =>
  cases k with
  | zero => simp [flat_cons, cB, spl_cons0, spl_nil]
  | succ k => simp only [flat_cons, cB, List.cons_append, List.nil_append, spl_succ, List.set_cons_succ]; rw [ih k (by simpa using h)]
theorem repl_cB (n : Nat) : repl n [C.lit (.bool false)] = flat cB (List.replicate n false) := by
 induction n with
 | zero => rfl
 | succ n ih => rw [repl_succ, List.replicate_succ, flat_cons, ih]; rfl
def F6 := And.intro zS (And.intro tf20 (And.intro tf21 (And.intro tf14 (And.intro tf22 (And.intro tf23 (And.intro tf24 (And.intro tf15 (And.intro tf7 (And.intro tf25 (And.intro tf26 (And.intro tf27 (And.intro tf28 (And.intro tf29 (And.intro tf30 (And.intro tf31 (And.intro tf32 (And.intro tf33 (And.intro tf34 (And.intro tf18 (And.intro tf19 (And.intro tf12 (And.intro tf35 (And.intro tf36 (tf37))))))))))))))))))))))))
set_option maxHeartbeats 4000000 in
theorem wCheck_A (g : GEst) (hg : estOK g) : ACall Tryz.prog 28 [.agg (cEst g)] (one (.int .i64 (wcSpec g))) := by
 obtain ⟨⟨hq1, hq2⟩, hcl, hcn, hag⟩ := hg
 have hS0 := aSign g.cash hq1 hq2
 unfold wcSpec
 refine acall_of Tryz.func28 rfl (by decide) (N := 87) rfl (by simp) (R := [.tmp 2]) rfl fun en k0 => ?_
 refine awN ?_
 simp only [(id F6), seval, cEst]
 by_cases h24 : 24 < g.claims.length
 ·
  have hI : (24 : Int) < (g.claims.length : Int) := by omega
  refine awR [] [none, none, none, none, none, some (16, false), some (16, false), some (16, false), some (16, false), none, none] ?_
  simp only [(id F6), seval, hI, cEst]
  refine awT ?_
  refine awN ?_
  simp only [(id F6), seval]
  refine awX ?_
  simp only [(id F6), seval, h24]
 have hI24 : ¬ (24 : Int) < (g.claims.length : Int) := by omega
 by_cases h12 : 12 < g.agrs.length
 ·
  have hI : (12 : Int) < (g.agrs.length : Int) := by omega
  refine awR [] [none, none, none, none, none, some (16, false), some (16, false), some (16, false), some (16, false), none, none] ?_
  simp only [(id F6), seval, hI24, hI, cEst]
  refine awT ?_
  refine awN ?_
  simp only [(id F6), seval]
  refine awX ?_
  simp only [(id F6), seval, h12]
 have hI12 : ¬ (12 : Int) < (g.agrs.length : Int) := by omega
 by_cases hq : qSgn (qOf g.cash) < 0
 ·
  repeat' first|apply awS|apply awB
  refine awR [] [none, none, none, none, none, some (16, false), some (16, false), some (16, false), some (16, false), none, none] ?_
  simp only [(id F6), seval, hI24, hI12, cEst]
  refine awF ?_
  refine awN ?_
  simp only [(id F6), seval, cEst]
  refine ⟨_, hS0, rfl, ?_⟩
  simp only [Later, (id F6), seval, hq]
  refine awT ?_
  refine awN ?_
  simp only [(id F6), seval]
  refine awX ?_
  simp only [(id F6), seval, h24, h12, hq, or_self]
 refine awR [] [none, none, none, none, none, some (16, false), some (16, false), some (16, false), some (16, false), none, none] ?_
 simp only [(id F6), seval, hI24, hI12, cEst]
 refine awF ?_
 refine awN ?_
 simp only [(id F6), seval, cEst]
 refine ⟨_, hS0, rfl, ?_⟩
 simp only [Later, (id F6), seval, hq]
 refine awF ?_
 refine awK ?_
 simp only [(id F6), seval]
 refine awN ?_
 simp only [(id F6), seval, cEst]
 refine awp_keep [1, 28, 29, 30] [1] ?_
 simp only [Later, (id F6), seval]
 refine awp_cutA (M := fun st => wcClaims g.claims = 0 ∧ ∃ nx, st = ⟨mkT [(1, .val (.one (.ptr 1 0 0)))], mkH [(1, ⟨0, 36, 5, 1, cEst g⟩)], nx, 0⟩) ?_ ?_
 ·
  repeat' first|apply awS|apply awB
  refine awp_loopw (fun n st => ∃ k nx, k ≤ g.claims.length ∧ n = g.claims.length - k ∧ wcClaims (g.claims.drop k) = wcClaims g.claims ∧ st = ⟨mkT [(1, .val (.one (.ptr 1 0 0))), (28, .val (.one (.sh 5 g.claims.length (flat cClaim g.claims)))), (29, one (.int .i64 g.claims.length)), (30, one (.int .i64 k))], mkH [(1, ⟨0, 36, 5, 1, cEst g⟩)], nx, 0⟩) g.claims.length ⟨0, _, by omega, by omega, rfl, rfl⟩ ?_
  rintro n st ⟨k, nx, hk, rfl, hL, rfl⟩
  generalize hcc : g.claims = cl at *
  by_cases hlt : k < cl.length
  ·
   have hI : (k : Int) < (cl.length : Int) := by omega
   have hat := flat_at cClaim_len cl k hlt
   rw [List.drop_eq_getElem_cons hlt] at hL
   have hS := aSign cl[k].amount (hcl _ (List.getElem_mem hlt)).1 (hcl _ (List.getElem_mem hlt)).2
   generalize cl[k] = c at *
   simp only [wcClaims] at hL
   by_cases p1 : c.holder < -1
   ·
    repeat' first|apply awS|apply awB
    refine awN ?_
    simp only [(id F6), seval, hI]
    refine awT ?_
    refine awK ?_
    simp only [(id F6), seval]
    refine awN ?_
    simp only [(id F6), seval, hat, cClaim]
    repeat refine ob ?_
    refine awR [] [none, none, none, none, some (38, false), some (38, false), some (38, false), none, none] ?_
    simp only [(id F6), seval, p1]
    refine awT ?_
    refine awN ?_
    simp only [(id F6), seval]
    have hR : wcClaims cl = 19 := by rw [← hL]; simp [p1]
    refine awX ?_
    simp only [(id F6), seval, h24, h12, hq, if_false, or_self, hR, Int.reduceEq]
   by_cases p2 : 8 ≤ c.holder
   ·
    repeat' first|apply awS|apply awB
    refine awN ?_
    simp only [(id F6), seval, hI]
    refine awT ?_
    refine awK ?_
    simp only [(id F6), seval]
    refine awN ?_
    simp only [(id F6), seval, hat, cClaim]
    repeat refine ob ?_
    refine awR [] [none, none, none, none, some (38, false), some (38, false), some (38, false), none, none] ?_
    simp only [(id F6), seval, p1, p2]
    refine awT ?_
    refine awN ?_
    simp only [(id F6), seval]
    have hR : wcClaims cl = 19 := by rw [← hL]; simp [p2]
    refine awX ?_
    simp only [(id F6), seval, h24, h12, hq, if_false, or_self, hR, Int.reduceEq]
   by_cases p3 : c.rank < 0
   ·
    repeat' first|apply awS|apply awB
    refine awN ?_
    simp only [(id F6), seval, hI]
    refine awT ?_
    refine awK ?_
    simp only [(id F6), seval]
    refine awN ?_
    simp only [(id F6), seval, hat, cClaim]
    repeat refine ob ?_
    refine awR [] [none, none, none, none, some (38, false), some (38, false), some (38, false), none, none] ?_
    simp only [(id F6), seval, p1, p2]
    refine awF ?_
    refine awR [] [none, none, none, none, some (47, false), some (47, false), some (47, false), none, none] ?_
    simp only [(id F6), seval, p3]
    refine awT ?_
    refine awN ?_
    simp only [(id F6), seval]
    have hR : wcClaims cl = 1 := by rw [← hL]; simp [p1, p2, p3]
    refine awX ?_
    simp only [(id F6), seval, h24, h12, hq, if_false, or_self, hR, Int.reduceEq]
   by_cases p4 : 7 < c.rank
   ·
    repeat' first|apply awS|apply awB
    refine awN ?_
    simp only [(id F6), seval, hI]
    refine awT ?_
    refine awK ?_
    simp only [(id F6), seval]
    refine awN ?_
    simp only [(id F6), seval, hat, cClaim]
    repeat refine ob ?_
    refine awR [] [none, none, none, none, some (38, false), some (38, false), some (38, false), none, none] ?_
    simp only [(id F6), seval, p1, p2]
    refine awF ?_
    refine awR [] [none, none, none, none, some (47, false), some (47, false), some (47, false), none, none] ?_
    simp only [(id F6), seval, p3, p4]
    refine awT ?_
    refine awN ?_
    simp only [(id F6), seval]
    have hR : wcClaims cl = 1 := by rw [← hL]; simp [p1, p2, p4]
    refine awX ?_
    simp only [(id F6), seval, h24, h12, hq, if_false, or_self, hR, Int.reduceEq]
   by_cases hsg : qSgn (qOf c.amount) < 0
   ·
    repeat' first|apply awS|apply awB
    refine awN ?_
    simp only [(id F6), seval, hI]
    refine awT ?_
    refine awK ?_
    simp only [(id F6), seval]
    refine awN ?_
    simp only [(id F6), seval, hat, cClaim]
    repeat refine ob ?_
    refine awR [] [none, none, none, none, some (38, false), some (38, false), some (38, false), none, none] ?_
    simp only [(id F6), seval, p1, p2]
    refine awF ?_
    refine awR [] [none, none, none, none, some (47, false), some (47, false), some (47, false), none, none] ?_
    simp only [(id F6), seval, p3, p4]
    refine awF ?_
    refine awN ?_
    simp only [(id F6), seval]
    refine ⟨_, hS, rfl, ?_⟩
    simp only [Later, (id F6), seval, hsg]
    refine awT ?_
    refine awN ?_
    simp only [(id F6), seval]
    have hR : wcClaims cl = 7 := by rw [← hL]; simp [p1, p2, p3, p4, hsg]
    refine awX ?_
    simp only [(id F6), seval, h24, h12, hq, if_false, or_self, hR, Int.reduceEq]
   repeat' first|apply awS|apply awB
   refine awN ?_
   simp only [(id F6), seval, hI]
   refine awT ?_
   refine awK ?_
   simp only [(id F6), seval]
   refine awN ?_
   simp only [(id F6), seval, hat, cClaim]
   repeat refine ob ?_
   refine awR [] [none, none, none, none, some (38, false), some (38, false), some (38, false), none, none] ?_
   simp only [(id F6), seval, p1, p2]
   refine awF ?_
   refine awR [] [none, none, none, none, some (47, false), some (47, false), some (47, false), none, none] ?_
   simp only [(id F6), seval, p3, p4]
   refine awF ?_
   refine awN ?_
   simp only [(id F6), seval]
   refine ⟨_, hS, rfl, ?_⟩
   simp only [Later, (id F6), seval, hsg]
   refine awF ?_
   refine awK ?_
   simp only [(id F6), seval]
   refine awN ?_
   simp only [(id F6), seval]
   repeat refine ob ?_
   refine ⟨_, wk_keep [1, 28, 29, 30] [1], cl.length - (k + 1), by omega, k + 1, nx + 1, by omega, rfl, ?_, ?_⟩
   ·
    rw [← hL]; simp [p1, p2, p3, p4, hsg]
   simp only [(id F6), seval]
   try rfl
  obtain rfl : k = cl.length := by omega
  have hI : ¬ (cl.length : Int) < (cl.length : Int) := by omega
  rw [List.drop_length] at hL
  simp only [wcClaims] at hL
  refine awN ?_
  simp only [(id F6), seval, hI]
  refine awF ?_
  refine awQ ?_
  simp only [(id F6), seval]
  refine ⟨_, wk_keep [1] [1], hL.symm, nx, ?_⟩
  simp only [(id F6), seval]
 rintro st ⟨hw0, nx, rfl⟩
 simp only [h24, h12, hq, or_self, if_false, hw0, ne_eq, not_true_eq_false]
 refine awN ?_
 simp only [(id F6), seval, cEst]
 repeat refine ob ?_
 refine awN ?_
 simp only [(id F6), seval, cEst]
 refine awp_keep [5, 63, 64, 65] [61] ?_
 simp only [Later, (id F6), seval, repl_cB]
 repeat' first|apply awS|apply awB
 refine awp_loopw (fun n st => ∃ k nx s tk, k ≤ g.agrs.length ∧ n = g.agrs.length - k ∧ tk.length = g.claims.length ∧ wcAgrs tk (g.agrs.drop k) = wcAgrs (List.replicate g.claims.length false) g.agrs ∧ st = ⟨mkT [(5, .val (.one (.own 61 s tk.length 1))), (63, .val (.one (.sh 1 g.agrs.length (flat cAgr g.agrs)))), (64, one (.int .i64 g.agrs.length)), (65, one (.int .i64 k))], mkH [(61, ⟨s, 4, 1, tk.length, flat cB tk⟩)], nx, 0⟩) g.agrs.length ⟨0, _, _, List.replicate g.claims.length false, by omega, by omega, by simp, rfl, by simp only [List.length_replicate]; rfl⟩ ?_
 rintro n st ⟨k, nx, s, tk, hk, rfl, htk, hL, rfl⟩
 by_cases hlt : k < g.agrs.length
 ·
  have hI : (k : Int) < (g.agrs.length : Int) := by omega
  have hat := flat_at cAgr_len g.agrs k hlt
  rw [Nat.mul_one] at hat
  rw [List.drop_eq_getElem_cons hlt] at hL
  obtain ⟨ha1, ha2⟩ := hag g.agrs[k] (List.getElem_mem hlt)
  generalize g.agrs[k] = a at *
  have hCA := checkAgreement_A a tk ha1 (by omega) ha2
  simp only [wcAgrs] at hL
  by_cases he : caSpec a tk = 0
  ·
   obtain ⟨b1, b2, b3⟩ := caSpec_ok he
   have hM := members_A a (by omega) (by omega)
   have hml := mem_length a
   rw [if_neg (by simp [he])] at hL
   refine awN ?_
   simp only [(id F6), seval, hI]
   refine awT ?_
   refine awK ?_
   simp only [(id F6), seval]
   refine awN ?_
   simp only [(id F6), seval, hat, cAgr]
   repeat refine ob ?_
   refine awN ?_
   simp only [(id F6), seval, flat_pure cTier_pure, flat_pure cB_pure]
   refine ⟨_, hCA, rfl, ?_⟩
   simp only [Later, (id F6), seval, he]
   refine awN ?_
   simp only [(id F6), seval]
   refine awF ?_
   refine awK ?_
   simp only [(id F6), seval]
   refine awN ?_
   simp only [(id F6), seval, flat_pure cTier_pure]
   refine ⟨_, hM, by simp [pureCs, pureC, flat_pure cI_pure], ?_⟩
   simp only [Later, (id F6), seval]
   refine awp_keep [5, 63, 64, 65, 76, 77, 78] [61] ?_
   simp only [Later, (id F6), seval]
   repeat' first|apply awS|apply awB
   refine awp_loopw (fun n st => ∃ j nx tk2, j ≤ (mem a).length ∧ n = (mem a).length - j ∧ tk2.length = g.claims.length ∧ mark tk2 ((mem a).drop j) = mark tk (mem a) ∧ st = ⟨mkT [(5, .val (.one (.own 61 s tk2.length 1))), (63, .val (.one (.sh 1 g.agrs.length (flat cAgr g.agrs)))), (64, one (.int .i64 g.agrs.length)), (65, one (.int .i64 k)), (76, .val (.one (.sh 1 (mem a).length (flat cI (mem a))))), (77, one (.int .i64 (mem a).length)), (78, one (.int .i64 j))], mkH [(61, ⟨s, 4, 1, tk2.length, flat cB tk2⟩)], nx, 0⟩) (mem a).length ⟨0, _, tk, by omega, by omega, htk, rfl, rfl⟩ ?_
   rintro n2 st ⟨j, nx2, tk2, hj, rfl, htk2, hm, rfl⟩
   have hlen := flat_length cB_len tk2
   rw [Nat.mul_one] at hlen
   by_cases hjt : j < (mem a).length
   ·
    have hJ : (j : Int) < ((mem a).length : Int) := by omega
    have hat2 := flat_at cI_len (mem a) j hjt
    rw [Nat.mul_one] at hat2
    rw [List.drop_eq_getElem_cons hjt] at hm
    have hb := b3 _ (List.getElem_mem hjt)
    generalize (mem a)[j] = i at *
    have hset := cB_set tk2 i.toNat (by omega)
    refine awN ?_
    simp only [(id F6), seval, hJ]
    refine awT ?_
    refine awK ?_
    simp only [(id F6), seval]
    refine awN ?_
    simp only [(id F6), seval, hat2, cI]
    repeat refine ob ?_
    refine awN ?_
    simp only [(id F6), seval, hset, hlen]
    repeat refine ob ?_
    refine awN ?_
    simp only [(id F6), seval]
    repeat refine ob ?_
    refine ⟨_, wk_keep [5, 63, 64, 65, 76, 77, 78] [61], (mem a).length - (j + 1), by omega, j + 1, nx2, tk2.set i.toNat true, by omega, rfl, by simpa using htk2, hm, ?_⟩
    simp only [(id F6), seval, List.length_set]
    try rfl
   obtain rfl : j = (mem a).length := by omega
   have hJ : ¬ ((mem a).length : Int) < ((mem a).length : Int) := by omega
   rw [List.drop_length] at hm
   simp only [mark] at hm
   refine awN ?_
   simp only [(id F6), seval, hJ]
   refine awF ?_
   refine awQ ?_
   simp only [(id F6), seval]
   refine awN ?_
   simp only [(id F6), seval]
   repeat refine ob ?_
   refine ⟨_, wk_keep [5, 63, 64, 65] [61], g.agrs.length - (k + 1), by omega, k + 1, nx2, s, tk2, by omega, rfl, htk2, ?_, ?_⟩
   ·
    rw [hm]; exact hL
   simp only [(id F6), seval]
   try rfl
  rw [if_pos he] at hL
  refine awN ?_
  simp only [(id F6), seval, hI]
  refine awT ?_
  refine awK ?_
  simp only [(id F6), seval]
  refine awN ?_
  simp only [(id F6), seval, hat, cAgr]
  repeat refine ob ?_
  refine awN ?_
  simp only [(id F6), seval, flat_pure cTier_pure, flat_pure cB_pure]
  refine ⟨_, hCA, rfl, ?_⟩
  simp only [Later, (id F6), seval, he]
  refine awN ?_
  simp only [(id F6), seval, he]
  refine awT ?_
  refine awN ?_
  simp only [(id F6), seval]
  refine awX ?_
  simp only [(id F6), seval, hL]
 obtain rfl : k = g.agrs.length := by omega
 have hI : ¬ (g.agrs.length : Int) < (g.agrs.length : Int) := by omega
 rw [List.drop_length] at hL
 simp only [wcAgrs] at hL
 refine awN ?_
 simp only [(id F6), seval, hI]
 refine awF ?_
 refine awQ ?_
 simp only [(id F6), seval]
 refine awN ?_
 simp only [(id F6), seval]
 refine awX ?_
 simp only [(id F6), seval, ← hL]
noncomputable def gcEsts : List GEst → Int
 | [] => 0
 | e :: l => if wcSpec e ≠ 0 then wcSpec e else gcEsts l
def gcHold (n i : Int) : List GClaim → Bool
 | [] => false
 | c :: l => decide (c.holder = i) || decide (n ≤ c.holder) || gcHold n i l
def gcHolds (n : Int) (i : Int) : List GEst → Bool
 | [] => false
 | e :: l => gcHold n i e.claims || gcHolds n (i + 1) l
noncomputable def gcDebts (g : GGrp) : List GDebt → List Leg → Int
 | [], _ => 0
 | d :: l, T => if (cdSpec g d T).1 ≠ 0 then (cdSpec g d T).1 else gcDebts g l (cdSpec g d T).2
noncomputable def gcSpec (g : GGrp) : Int := if 8 < g.ests.length ∨ 16 < g.debts.length then 2 else if gcEsts g.ests ≠ 0 then gcEsts g.ests
 else if gcHolds g.ests.length 0 g.ests = true then 19 else gcDebts g g.debts []
def grpOK (g : GGrp) : Prop := (∀ e ∈ g.ests, estOK e) ∧ ∀ d ∈ g.debts, ratOK d.whole
def F49 := And.intro zS (And.intro tf21 (And.intro tf90 (And.intro tf109 (And.intro tf24 (And.intro tf92 (And.intro tf110 (And.intro tf25 (And.intro tf29 (And.intro tf111 (And.intro tf95 (And.intro tf32 (And.intro tf98 (And.intro tf112 (And.intro tf34 (And.intro tf100 (And.intro tf75 (And.intro tf113 (And.intro tf12 (And.intro tf36 (And.intro tf102 (tf86)))))))))))))))))))))
set_option maxHeartbeats 4000000 in
theorem gCheck_A (g : GGrp) (hg : grpOK g) : ACall Tryz.prog 16 [.agg (cGrp g)] (one (.int .i64 (gcSpec g))) := by
 obtain ⟨hge, hgd⟩ := hg
 unfold gcSpec
 refine acall_of Tryz.func16 rfl (by decide) (N := 82) rfl (by simp) (R := [.tmp 2]) rfl fun en k0 => ?_
 refine awN ?_
 simp only [(id F49), seval, cGrp]
 by_cases h8 : 8 < g.ests.length
 ·
  have hI : (8 : Int) < (g.ests.length : Int) := by omega
  refine awR [] [none, none, none, none, none, some (18, false), some (18, false), some (18, false), some (18, false), none] ?_
  simp only [(id F49), seval, hI, cGrp]
  refine awT ?_
  refine awN ?_
  simp only [(id F49), seval]
  refine awX ?_
  simp only [(id F49), seval, h8]
 have hI8 : ¬ (8 : Int) < (g.ests.length : Int) := by omega
 by_cases h16 : 16 < g.debts.length
 ·
  have hI : (16 : Int) < (g.debts.length : Int) := by omega
  refine awR [] [none, none, none, none, none, some (18, false), some (18, false), some (18, false), some (18, false), none] ?_
  simp only [(id F49), seval, hI8, hI, cGrp]
  refine awT ?_
  refine awN ?_
  simp only [(id F49), seval]
  refine awX ?_
  simp only [(id F49), seval, h16]
 have hI16 : ¬ (16 : Int) < (g.debts.length : Int) := by omega
 refine awR [] [none, none, none, none, none, some (18, false), some (18, false), some (18, false), some (18, false), none] ?_
 simp only [(id F49), seval, hI8, hI16, cGrp]
 refine awF ?_
 refine awK ?_
 simp only [(id F49), seval]
 refine awN ?_
 simp only [(id F49), seval, cGrp]
 refine awp_keep [1, 25, 26, 27] [1] ?_
 simp only [Later, (id F49), seval]
 refine awp_cutA (M := fun st => gcEsts g.ests = 0 ∧ ∃ nx, st = ⟨mkT [(1, .val (.one (.ptr 1 0 0)))], mkH [(1, ⟨0, 28, 2, 1, cGrp g⟩)], nx, 0⟩) ?_ ?_
 ·
  repeat' first|apply awS|apply awB
  refine awp_loopw (fun n st => ∃ k nx, k ≤ g.ests.length ∧ n = g.ests.length - k ∧ gcEsts (g.ests.drop k) = gcEsts g.ests ∧ st = ⟨mkT [(1, .val (.one (.ptr 1 0 0))), (25, .val (.one (.sh 5 g.ests.length (flat cEst g.ests)))), (26, one (.int .i64 g.ests.length)), (27, one (.int .i64 k))], mkH [(1, ⟨0, 28, 2, 1, cGrp g⟩)], nx, 0⟩) g.ests.length ⟨0, _, by omega, by omega, rfl, rfl⟩ ?_
  rintro n st ⟨k, nx, hk, rfl, hL, rfl⟩
  by_cases hlt : k < g.ests.length
  ·
   have hI : (k : Int) < (g.ests.length : Int) := by omega
   have hat := flat_at cEst_len g.ests k hlt
   rw [List.drop_eq_getElem_cons hlt] at hL
   have hW := wCheck_A g.ests[k] (hge _ (List.getElem_mem hlt))
   generalize g.ests[k] = e at *
   simp only [gcEsts] at hL
   by_cases he : wcSpec e = 0
   ·
    repeat' first|apply awS|apply awB
    refine awN ?_
    simp only [(id F49), seval, hI]
    refine awT ?_
    refine awK ?_
    simp only [(id F49), seval]
    refine awN ?_
    simp only [(id F49), seval, hat, cEst]
    repeat refine ob ?_
    refine awN ?_
    simp only [(id F49), seval, flat_pure cClaim_pure, flat_pure cAgr_pure]
    refine ⟨_, hW, rfl, ?_⟩
    simp only [Later, (id F49), seval, he]
    refine awN ?_
    simp only [(id F49), seval]
    refine awF ?_
    refine awK ?_
    simp only [(id F49), seval]
    refine awN ?_
    simp only [(id F49), seval]
    repeat refine ob ?_
    refine ⟨_, wk_keep [1, 25, 26, 27] [1], g.ests.length - (k + 1), by omega, k + 1, nx + 1, by omega, rfl, ?_, ?_⟩
    ·
     rw [if_neg (by simp [he])] at hL; exact hL
    simp only [(id F49), seval]
    try rfl
   repeat' first|apply awS|apply awB
   refine awN ?_
   simp only [(id F49), seval, hI]
   refine awT ?_
   refine awK ?_
   simp only [(id F49), seval]
   refine awN ?_
   simp only [(id F49), seval, hat, cEst]
   repeat refine ob ?_
   refine awN ?_
   simp only [(id F49), seval, flat_pure cClaim_pure, flat_pure cAgr_pure]
   refine ⟨_, hW, rfl, ?_⟩
   simp only [Later, (id F49), seval, he]
   refine awN ?_
   simp only [(id F49), seval, he]
   refine awT ?_
   refine awN ?_
   simp only [(id F49), seval]
   rw [if_pos he] at hL
   refine awX ?_
   simp only [(id F49), seval, h8, h16, or_self, ← hL, he]
  obtain rfl : k = g.ests.length := by omega
  have hI : ¬ (g.ests.length : Int) < (g.ests.length : Int) := by omega
  rw [List.drop_length] at hL
  simp only [gcEsts] at hL
  refine awN ?_
  simp only [(id F49), seval, hI]
  refine awF ?_
  refine awQ ?_
  simp only [(id F49), seval]
  refine ⟨_, wk_keep [1] [1], hL.symm, nx, ?_⟩
  simp only [(id F49), seval]
 rintro st ⟨hw0, nx, rfl⟩
 simp only [h8, h16, or_self, if_false, hw0, ne_eq, not_true_eq_false]
 refine awN ?_
 simp only [(id F49), seval, cGrp]
 refine awp_keep [1, 38, 39, 40] [1] ?_
 simp only [Later, (id F49), seval]
 refine awp_cutA (M := fun st => gcHolds g.ests.length 0 g.ests = false ∧ ∃ nx, st = ⟨mkT [(1, .val (.one (.ptr 1 0 0)))], mkH [(1, ⟨0, 28, 2, 1, cGrp g⟩)], nx, 0⟩) ?_ ?_
 ·
  repeat' first|apply awS|apply awB
  refine awp_loopw (fun n st => ∃ k nx, k ≤ g.ests.length ∧ n = g.ests.length - k ∧ gcHolds g.ests.length k (g.ests.drop k) = gcHolds g.ests.length 0 g.ests ∧ st = ⟨mkT [(1, .val (.one (.ptr 1 0 0))), (38, .val (.one (.sh 5 g.ests.length (flat cEst g.ests)))), (39, one (.int .i64 g.ests.length)), (40, one (.int .i64 k))], mkH [(1, ⟨0, 28, 2, 1, cGrp g⟩)], nx, 0⟩) g.ests.length ⟨0, _, by omega, by omega, rfl, rfl⟩ ?_
  rintro n st ⟨k, nx, hk, rfl, hL, rfl⟩
  by_cases hlt : k < g.ests.length
  ·
   have hI : (k : Int) < (g.ests.length : Int) := by omega
   have hat := flat_at cEst_len g.ests k hlt
   rw [List.drop_eq_getElem_cons hlt] at hL
   have hcn := (hge _ (List.getElem_mem hlt)).2.2.1
   generalize g.ests[k] = e at *
   simp only [gcHolds] at hL
   refine awN ?_
   simp only [(id F49), seval, hI]
   refine awT ?_
   refine awK ?_
   simp only [(id F49), seval]
   refine awN ?_
   simp only [(id F49), seval, hat, cEst]
   repeat refine ob ?_
   refine awN ?_
   simp only [(id F49), seval]
   refine awp_keep [1, 6, 38, 39, 40, 46, 47, 48] [1] ?_
   simp only [Later, (id F49), seval]
   repeat' first|apply awS|apply awB
   refine awp_loopw (fun n st => ∃ j nx, j ≤ e.claims.length ∧ n = e.claims.length - j ∧ gcHold g.ests.length k (e.claims.drop j) = gcHold g.ests.length k e.claims ∧ st = ⟨mkT [(1, .val (.one (.ptr 1 0 0))), (6, one (.int .i64 k)), (38, .val (.one (.sh 5 g.ests.length (flat cEst g.ests)))), (39, one (.int .i64 g.ests.length)), (40, one (.int .i64 k)), (46, .val (.one (.sh 5 e.claims.length (flat cClaim e.claims)))), (47, one (.int .i64 e.claims.length)), (48, one (.int .i64 j))], mkH [(1, ⟨0, 28, 2, 1, cGrp g⟩)], nx, 0⟩) e.claims.length ⟨0, _, by omega, by omega, rfl, rfl⟩ ?_
   rintro n2 st ⟨j, nx2, hj, rfl, hM, rfl⟩
   generalize hecl : e.claims = cl at *
   by_cases hjt : j < cl.length
   ·
    have hJ : (j : Int) < (cl.length : Int) := by omega
    have hat2 := flat_at cClaim_len cl j hjt
    rw [List.drop_eq_getElem_cons hjt] at hM
    generalize cl[j] = c at *
    simp only [gcHold] at hM
    by_cases p1 : c.holder = (k : Int)
    ·
     have hh : gcHolds g.ests.length 0 g.ests = true := by rw [← hL, ← hM]; simp [p1]
     refine awN ?_
     simp only [(id F49), seval, hJ]
     refine awT ?_
     refine awK ?_
     simp only [(id F49), seval]
     refine awN ?_
     simp only [(id F49), seval, hat2, cClaim]
     repeat refine ob ?_
     refine awR [] [none, none, none, none, none, some (56, false), some (56, false), some (56, false), some (56, false), some (56, false), some (56, false), none] ?_
     simp only [(id F49), seval, p1, cGrp]
     refine awT ?_
     refine awN ?_
     simp only [(id F49), seval]
     refine awX ?_
     simp only [(id F49), seval, hh]
    by_cases p2 : (g.ests.length : Int) ≤ c.holder
    ·
     have hh : gcHolds g.ests.length 0 g.ests = true := by rw [← hL, ← hM]; simp [p2]
     refine awN ?_
     simp only [(id F49), seval, hJ]
     refine awT ?_
     refine awK ?_
     simp only [(id F49), seval]
     refine awN ?_
     simp only [(id F49), seval, hat2, cClaim]
     repeat refine ob ?_
     refine awR [] [none, none, none, none, none, some (56, false), some (56, false), some (56, false), some (56, false), some (56, false), some (56, false), none] ?_
     simp only [(id F49), seval, p1, p2, cGrp]
     refine awT ?_
     refine awN ?_
     simp only [(id F49), seval]
     refine awX ?_
     simp only [(id F49), seval, hh]
    refine awN ?_
    simp only [(id F49), seval, hJ]
    refine awT ?_
    refine awK ?_
    simp only [(id F49), seval]
    refine awN ?_
    simp only [(id F49), seval, hat2, cClaim]
    repeat refine ob ?_
    refine awR [] [none, none, none, none, none, some (56, false), some (56, false), some (56, false), some (56, false), some (56, false), some (56, false), none] ?_
    simp only [(id F49), seval, p1, p2, cGrp]
    refine awF ?_
    refine awK ?_
    simp only [(id F49), seval]
    refine awN ?_
    simp only [(id F49), seval]
    repeat refine ob ?_
    refine ⟨_, wk_keep [1, 6, 38, 39, 40, 46, 47, 48] [1], cl.length - (j + 1), by omega, j + 1, nx2 + 1, by omega, rfl, ?_, ?_⟩
    ·
     rw [← hM]; simp [p1, p2]
    simp only [(id F49), seval]
    try rfl
   obtain rfl : j = cl.length := by omega
   have hJ : ¬ (cl.length : Int) < (cl.length : Int) := by omega
   rw [List.drop_length] at hM
   simp only [gcHold] at hM
   refine awN ?_
   simp only [(id F49), seval, hJ]
   refine awF ?_
   refine awQ ?_
   simp only [(id F49), seval]
   refine awN ?_
   simp only [(id F49), seval]
   repeat refine ob ?_
   refine ⟨_, wk_keep [1, 38, 39, 40] [1], g.ests.length - (k + 1), by omega, k + 1, nx2, by omega, rfl, ?_, ?_⟩
   ·
    rw [← hM] at hL; simpa using hL
   simp only [(id F49), seval]
   try rfl
  obtain rfl : k = g.ests.length := by omega
  have hI : ¬ (g.ests.length : Int) < (g.ests.length : Int) := by omega
  rw [List.drop_length] at hL
  simp only [gcHolds] at hL
  refine awN ?_
  simp only [(id F49), seval, hI]
  refine awF ?_
  refine awQ ?_
  simp only [(id F49), seval]
  refine ⟨_, wk_keep [1] [1], hL.symm, nx, ?_⟩
  simp only [(id F49), seval]
 rintro st ⟨hh0, nx, rfl⟩
 simp only [hh0, Bool.false_eq_true, if_false]
 refine awN ?_
 simp only [(id F49), seval]
 refine awN ?_
 simp only [(id F49), seval, cGrp]
 refine awp_keep [1, 10, 68, 69, 70] [1, 66] ?_
 simp only [Later, (id F49), seval]
 repeat' first|apply awS|apply awB
 refine awp_loopw (fun n st => ∃ k nx s T, k ≤ g.debts.length ∧ n = g.debts.length - k ∧ gcDebts g (g.debts.drop k) T = gcDebts g g.debts [] ∧ st = ⟨mkT [(1, .val (.one (.ptr 1 0 0))), (10, .val (.one (.own 66 s 0 0))), (68, .val (.one (.sh 4 g.debts.length (flat cDebt g.debts)))), (69, one (.int .i64 g.debts.length)), (70, one (.int .i64 k))], mkH [(1, ⟨0, 28, 2, 1, cGrp g⟩), (66, mapB s T)], nx, 0⟩) g.debts.length ⟨0, _, _, [], by omega, by omega, rfl, rfl⟩ ?_
 rintro n st ⟨k, nx, s, T, hk, rfl, hL, rfl⟩
 by_cases hlt : k < g.debts.length
 ·
  have hI : (k : Int) < (g.debts.length : Int) := by omega
  have hat := flat_at cDebt_len g.debts k hlt
  rw [List.drop_eq_getElem_cons hlt] at hL
  obtain ⟨hd1, hd2⟩ := hgd g.debts[k] (List.getElem_mem hlt)
  generalize g.debts[k] = d at *
  simp only [gcDebts] at hL
  refine awN ?_
  simp only [(id F49), seval, hI]
  refine awT ?_
  refine awK ?_
  simp only [(id F49), seval]
  refine awN ?_
  simp only [(id F49), seval, hat, cDebt]
  repeat refine ob ?_
  refine awR [77] [none, none, none, none, none] ?_
  simp only [(id F49), seval, cGrp]
  refine ⟨_, checkDebt_I g d T _ _ s ?_ (by rfl) hd1 hd2, ?_⟩
  ·
   intro x B hB
   simp only [up_apply] at hB
   split at hB
   ·
    omega
   split at hB
   ·
    omega
   split at hB
   ·
    omega
   cases hB
  rintro res H' nx' ⟨rfl, h66, hrest⟩
  have hB1 := hrest 1 (by omega) (by omega)
  simp only [up_apply, (id F49), seval] at hB1
  by_cases he : (cdSpec g d T).1 = 0
  ·
   rw [if_neg (by simp [he])] at hL
   simp only [(id F49), seval]
   refine awN ?_
   simp only [(id F49), seval, he]
   refine awF ?_
   refine awK ?_
   simp only [(id F49), seval]
   refine awN ?_
   simp only [(id F49), seval]
   repeat refine ob ?_
   refine ⟨_, wk_keep [1, 10, 68, 69, 70] [1, 66], g.debts.length - (k + 1), by omega, k + 1, nx', s, (cdSpec g d T).2, by omega, rfl, hL, ?_⟩
   simp only [(id F49), seval, h66, hB1]
   try rfl
  rw [if_pos he] at hL
  simp only [(id F49), seval]
  refine awN ?_
  simp only [(id F49), seval, he]
  refine awT ?_
  refine awN ?_
  simp only [(id F49), seval]
  refine awX ?_
  simp only [(id F49), seval, hL]
 obtain rfl : k = g.debts.length := by omega
 have hI : ¬ (g.debts.length : Int) < (g.debts.length : Int) := by omega
 rw [List.drop_length] at hL
 simp only [gcDebts] at hL
 refine awN ?_
 simp only [(id F49), seval, hI]
 refine awF ?_
 refine awQ ?_
 simp only [(id F49), seval]
 refine awN ?_
 simp only [(id F49), seval]
 refine awX ?_
 simp only [(id F49), seval, ← hL]
end Go.Proofs.YtokmkopihhnggaaGreatDoor
