/- The builder's debts; walked by the abstract machine. -/
import Derived.Test.YtokmkopihhnggaaGreatDoorBl2M
set_option linter.unusedVariables false
set_option linter.unusedSimpArgs false
set_option linter.defProp false
set_option linter.unusedSectionVars false
namespace Go.Proofs.YtokmkopihhnggaaGreatDoor
open Go Go.RowKit
theorem flat_set {α : Type} {f : α → List C} {sz : Nat} (hf : ∀ a, (f a).length = sz) (l : List α) (k : Nat) (x : α) (h : k < l.length) : spl (flat f l) (k * sz) (f x) = flat f (l.set k x) := by
 have h1 : flat f l = flat f (l.take k) ++ (f l[k] ++ flat f (l.drop (k + 1))) := by
  conv => lhs; rw [← List.take_append_drop k l, flat_append, List.drop_eq_getElem_cons h, flat_cons]
 have h2 : flat f (l.set k x) = flat f (l.take k) ++ (f x ++ flat f (l.drop (k + 1))) := by
  have hk : k < (l.set k x).length := by simpa using h
  conv => lhs; rw [← List.take_append_drop k (l.set k x), flat_append, List.drop_eq_getElem_cons hk, flat_cons]
  rw [List.getElem_set_self, List.drop_set]
  have : (l.set k x).take k = l.take k := by rw [List.take_set]; exact List.set_eq_of_length_le (by rw [List.length_take]; omega)
  rw [this]; simp
 have h3 : (flat f (l.take k)).length = k * sz := by rw [flat_length hf, List.length_take, Nat.min_eq_left (Nat.le_of_lt h)]
 rw [h1, h2, ← h3]
 exact spl_mid _ _ _ _ (by rw [hf, hf])
structure OS where
 k : Nat
 h : Int
 l : List Leg
def owS (debts : List GDebt) (p : N3) (i c : Nat) (y : GClaim) (s : OS) : OS :=
 if tkD i c debts = true then s else if (4 : Int) ≤ (s.l.length : Int) then s else
 if p.a / 2 ^ (s.k % 16) % 2 = 1 then (if (s.l.length : Int) = 0 then ⟨s.k + 1, y.holder, s.l ++ [((i : Int), (c : Int))]⟩ else if y.holder = s.h then ⟨s.k + 1, y.holder, s.l ++ [((i : Int), (c : Int))]⟩ else ⟨s.k + 1, s.h, s.l⟩) else ⟨s.k + 1, s.h, s.l⟩
def owC (debts : List GDebt) (p : N3) (i : Nat) : List GClaim → Nat → OS → OS
 | [], _, s => s
 | y :: l, c, s => owC debts p i l (c + 1) (owS debts p i c y s)
def owE (debts : List GDebt) (p : N3) : List GEst → Nat → OS → OS
 | [], _, s => s
 | e :: l, i, s => owE debts p l (i + 1) (owC debts p i e.claims 0 s)
theorem owS_k (debts : List GDebt) (p : N3) (i c : Nat) (y : GClaim) (s : OS) : (owS debts p i c y s).k ≤ s.k + 1 ∧ (s.l.length ≤ 4 → (owS debts p i c y s).l.length ≤ 4) := by
 unfold owS
 split
 ·exact ⟨by omega, id⟩
 split
 ·exact ⟨by omega, id⟩
 repeat' split
 all_goals first | (simp; done) | (simp; omega)
def swp (l : List Leg) (i j : Nat) : List Leg := (l.set i (l.getD j (0, 0))).set j (l.getD i (0, 0))
def rvL (l : List Leg) : Nat → List Leg
 | 0 => l
 | m + 1 => swp (rvL l m) m (l.length - 1 - m)
theorem rvL_len (l : List Leg) : ∀ m, (rvL l m).length = l.length
 | 0 => rfl
 | m + 1 => by simp [rvL, swp, rvL_len l m]
noncomputable def owN (g : GGrp) (p : N3) : GDebt := ⟨enc (qAmt p.c), if p.b % 2 = 1 then rvL (owE g.debts p g.ests 0 ⟨0, 0, []⟩).l ((owE g.debts p g.ests 0 ⟨0, 0, []⟩).l.length / 2) else (owE g.debts p g.ests 0 ⟨0, 0, []⟩).l⟩
def F10 := And.intro zS (And.intro tf104 (And.intro tf21 (And.intro tf109 (And.intro tf91 (And.intro tf24 (And.intro tf92 (And.intro tf110 (And.intro tf93 (And.intro tf25 (And.intro tf94 (And.intro tf29 (And.intro tf111 (And.intro tf95 (And.intro tf32 (And.intro tf98 (And.intro tf112 (And.intro tf99 (And.intro tf34 (And.intro tf100 (And.intro tf113 (And.intro tf101 (And.intro tf12 (And.intro tf105 (And.intro tf106 (And.intro tf114 (And.intro tf115 (And.intro tf4 (And.intro tf107 (And.intro tf108 (And.intro tf36 (And.intro tf102 (tf103))))))))))))))))))))))))))))))))
set_option maxRecDepth 100000 in
set_option maxHeartbeats 4000000 in
theorem owe_A (g : GGrp) (p : N3) (hp : p.a < 65536 ∧ p.b < 65536 ∧ p.c < 65536) (hge : g.ests.length ≤ 1000) (hg : ∀ e ∈ g.ests, e.claims.length ≤ 1000) (hn : g.debts.length ≤ 1000000000000) (he : ∀ d ∈ g.debts, d.legs.length ≤ 1000000000000) : ACall Tryz.prog 49 [.agg (cGrp g), .agg (cN3 p)] (.val (.one (.sh 4 (g.debts ++ [owN g p]).length (flat cDebt (g.debts ++ [owN g p]))))) := by
 refine acall_of Tryz.func49 rfl (by decide) (N := 121) rfl (by simp) (R := [.tmp 4]) rfl fun en k0 => ?_
 refine awN ?_
 simp only [(id F10), seval, cGrp, cN3]
 repeat refine ob ?_
 refine awN ?_
 simp only [(id F10), seval, cGrp, cN3, cRat]
 repeat refine ob ?_
 refine ⟨_, (aAmount p.c hp.2.2), rfl, ?_⟩
 try unfold Later
 try simp only [(id F10), seval, cGrp, cN3, cRat]
 repeat refine ob ?_
 refine awN ?_
 simp only [(id F10), seval, cGrp, cN3]
 repeat refine ob ?_
 refine awN ?_
 simp only [(id F10), seval, cGrp, cN3]
 repeat refine ob ?_
 refine awN ?_
 simp only [(id F10), seval, cGrp, cN3]
 repeat refine ob ?_
 refine awp_nilc 5 3 78 _ 44 2 (by decide) (by rfl) (by decide) (by simp) (by rfl) ?_
 refine awp_keep [2, 3, 4, 5, 6, 7, 19, 20, 21] [2, 3, 5, 78] ?_
 try unfold Later
 try simp only [(id F10), seval, cGrp, cN3]
 repeat' first|apply awS|apply awB
 refine awp_loopw (fun n st => ∃ i0 s s1 nx, i0 ≤ g.ests.length ∧ n = g.ests.length - i0 ∧ owE g.debts p (g.ests.drop i0) i0 s = owE g.debts p g.ests 0 ⟨0, 0, []⟩ ∧ s.k ≤ i0 * 1000 ∧ s.l.length ≤ 4 ∧ st = ⟨mkT [(2, .val (.one (.ptr 2 0 0))), (3, .val (.one (.ptr 3 1 0))), (4, .val (.one (.lit (.slice none 0 0)))), (5, .val (.one (.ptr 5 2 0))), (6, one (.int .i64 s.k)), (7, one (.int .i64 s.h)), (19, .val (.one (.sh 5 g.ests.length (flat cEst g.ests)))), (20, one (.int .i64 g.ests.length)), (21, one (.int .i64 i0))], mkH [(2, ⟨0, 28, 2, 1, cGrp g⟩), (3, ⟨1, 98, 3, 1, cN3 p⟩), (5, ⟨2, 42, 4, 1, [.lit (.bool (enc (qAmt p.c)).neg), .lit (.string (enc (qAmt p.c)).num), .lit (.string (enc (qAmt p.c)).den), .own 78 s1 (s.l).length 2]⟩), (78, ⟨s1, 44, 2, (s.l).length, flat cLeg (s.l)⟩)], nx, 0⟩) (g.ests.length) ⟨0, ⟨0, 0, []⟩, _, _, by omega, by omega, by rfl, (by first | omega | assumption | rfl | simp | (simp; omega)), (by first | omega | assumption | rfl | simp | (simp; omega)), rfl⟩ ?_
 rintro n0 st ⟨i0, s, s1, nx0, hk0, rfl, hL0, hV0_1, hV0_2, rfl⟩
 by_cases hlt0 : i0 < g.ests.length
 ·
  have hI0 : (i0 : Int) < (g.ests.length : Int) := by omega
  have hat0 := flat_at cEst_len g.ests i0 hlt0
  try rw [Nat.mul_one] at hat0
  rw [List.drop_eq_getElem_cons hlt0] at hL0
  have hec := hg _ (List.getElem_mem hlt0)
  generalize g.ests[i0] = e at *
  simp only [owE] at hL0
  refine awN ?_
  simp only [(id F10), seval, cGrp, cN3, hI0, hat0, cEst]
  repeat refine ob ?_
  refine awT ?_
  refine awK ?_
  simp only [(id F10), seval]
  refine awN ?_
  simp only [(id F10), seval, cGrp, cN3, hI0, hat0, cEst]
  repeat refine ob ?_
  refine awN ?_
  simp only [(id F10), seval, cGrp, cN3, hI0, hat0, cEst]
  repeat refine ob ?_
  refine awp_keep [2, 3, 4, 5, 6, 7, 8, 19, 20, 21, 29, 30, 31] [2, 3, 5, 78] ?_
  try unfold Later
  try simp only [(id F10), seval, cGrp, cN3, hI0, hat0, cEst, owS, flat_snoc, cLeg, List.length_append, List.length_cons, List.length_nil]
  repeat' first|apply awS|apply awB
  refine awp_loopw (fun n st => ∃ c0 t s2 nx, c0 ≤ e.claims.length ∧ n = e.claims.length - c0 ∧ owC g.debts p i0 (e.claims.drop c0) c0 t = owC g.debts p i0 e.claims 0 s ∧ t.k ≤ i0 * 1000 + c0 ∧ t.l.length ≤ 4 ∧ st = ⟨mkT [(2, .val (.one (.ptr 2 0 0))), (3, .val (.one (.ptr 3 1 0))), (4, .val (.one (.lit (.slice none 0 0)))), (5, .val (.one (.ptr 5 2 0))), (6, one (.int .i64 t.k)), (7, one (.int .i64 t.h)), (8, one (.int .i64 i0)), (19, .val (.one (.sh 5 g.ests.length (flat cEst g.ests)))), (20, one (.int .i64 g.ests.length)), (21, one (.int .i64 i0)), (29, .val (.one (.sh 5 e.claims.length (flat cClaim e.claims)))), (30, one (.int .i64 e.claims.length)), (31, one (.int .i64 c0))], mkH [(2, ⟨0, 28, 2, 1, cGrp g⟩), (3, ⟨1, 98, 3, 1, cN3 p⟩), (5, ⟨2, 42, 4, 1, [.lit (.bool (enc (qAmt p.c)).neg), .lit (.string (enc (qAmt p.c)).num), .lit (.string (enc (qAmt p.c)).den), .own 78 s2 (t.l).length 2]⟩), (78, ⟨s2, 44, 2, (t.l).length, flat cLeg (t.l)⟩)], nx, 0⟩) (e.claims.length) ⟨0, s, _, _, by omega, by omega, by rfl, (by first | omega | assumption | rfl | simp | (simp; omega)), (by first | omega | assumption | rfl | simp | (simp; omega)), rfl⟩ ?_
  rintro n1 st ⟨c0, t, s2, nx1, hk1, rfl, hL1, hV1_1, hV1_2, rfl⟩
  by_cases hlt1 : c0 < e.claims.length
  ·
   have hI1 : (c0 : Int) < (e.claims.length : Int) := by omega
   have hat1 := flat_at cClaim_len e.claims c0 hlt1
   try rw [Nat.mul_one] at hat1
   rw [List.drop_eq_getElem_cons hlt1] at hL1
   have aL := owS_k g.debts p i0 c0 e.claims[c0] t
   generalize e.claims[c0] = y at *
   simp only [owC] at hL1
   refine awN ?_
   simp only [(id F10), seval, cGrp, cN3, hI0, hat0, cEst, hI1, hat1]
   repeat refine ob ?_
   refine awT ?_
   refine awK ?_
   simp only [(id F10), seval]
   refine awN ?_
   simp only [(id F10), seval, cGrp, cN3, hI0, hat0, cEst, hI1, hat1, cClaim]
   repeat refine ob ?_
   by_cases ht : tkD (i0 : Int) (c0 : Int) g.debts = true
   ·
    refine awR [] [none, none, none, none, none, some (40, false), some (40, false), some (40, false), some (40, false), none] ?_
    simp only [(id F10), seval, cGrp, cN3, hI0, hat0, cEst, hI1, hat1, ht, flat_pure cEst_pure, flat_pure cDebt_pure]
    repeat refine ob ?_
    refine ⟨_, (taken_A g i0 c0 hn he), rfl, ?_⟩
    try unfold Later
    try simp only [(id F10), seval, cGrp, cN3, hI0, hat0, cEst, hI1, hat1, ht, flat_pure cEst_pure, flat_pure cDebt_pure]
    repeat refine ob ?_
    refine awT ?_
    refine awQ ?_
    simp only [(id F10), seval]
    refine awN ?_
    simp only [(id F10), seval, cGrp, cN3, hI0, hat0, cEst, hI1, hat1, ht]
    repeat refine ob ?_
    repeat refine ob ?_
    refine ⟨_, wk_keep [2, 3, 4, 5, 6, 7, 8, 19, 20, 21, 29, 30, 31] [2, 3, 5, 78], e.claims.length - (c0 + 1), by omega, c0 + 1, (owS g.debts p i0 c0 y t), ?a12_s2, ?a12_nx, by omega, rfl, ?i12_0, ?i12_1, ?i12_2, ?st12⟩
    case st12 => (simp only [(id F10), seval, owS, flat_snoc, cLeg, List.length_append, List.length_cons, List.length_nil, cGrp, cN3, hI0, hat0, cEst, hI1, hat1, ht]; first | rfl | (simp [owS, flat_snoc, cLeg, List.length_append, List.length_cons, List.length_nil, hI0, hat0, cEst, hI1, hat1, ht, Nat.add_mul]; done))
    case i12_0 => (first | exact hL1 | (rw [← hL1]; simp only [reduceIte, hI0, hat0, cEst, hI1, hat1, ht]; done) | (rw [← hL1]; simp [hI0, hat0, cEst, hI1, hat1, ht]; done) | (simp [hI0, hat0, cEst, hI1, hat1, ht] at hL1; simpa using hL1) | (rw [← hL1]; simp [*]; done))
    case i12_1 => (first | omega | assumption | (simp; omega) | (simp_all; done))
    case i12_2 => (first | omega | assumption | (simp; omega) | (simp_all; done))
   by_cases h4 : (4 : Int) ≤ (t.l.length : Int)
   ·
    refine awR [] [none, none, none, none, none, some (40, false), some (40, false), some (40, false), some (40, false), none] ?_
    simp only [(id F10), seval, cGrp, cN3, hI0, hat0, cEst, hI1, hat1, ht, h4, flat_pure cEst_pure, flat_pure cDebt_pure]
    repeat refine ob ?_
    refine ⟨_, (taken_A g i0 c0 hn he), rfl, ?_⟩
    try unfold Later
    try simp only [(id F10), seval, cGrp, cN3, hI0, hat0, cEst, hI1, hat1, ht, h4, flat_pure cEst_pure, flat_pure cDebt_pure]
    repeat refine ob ?_
    refine awT ?_
    refine awQ ?_
    simp only [(id F10), seval]
    refine awN ?_
    simp only [(id F10), seval, cGrp, cN3, hI0, hat0, cEst, hI1, hat1, ht, h4]
    repeat refine ob ?_
    repeat refine ob ?_
    refine ⟨_, wk_keep [2, 3, 4, 5, 6, 7, 8, 19, 20, 21, 29, 30, 31] [2, 3, 5, 78], e.claims.length - (c0 + 1), by omega, c0 + 1, (owS g.debts p i0 c0 y t), ?a15_s2, ?a15_nx, by omega, rfl, ?i15_0, ?i15_1, ?i15_2, ?st15⟩
    case st15 => (simp only [(id F10), seval, owS, flat_snoc, cLeg, List.length_append, List.length_cons, List.length_nil, cGrp, cN3, hI0, hat0, cEst, hI1, hat1, ht, h4]; first | rfl | (simp [owS, flat_snoc, cLeg, List.length_append, List.length_cons, List.length_nil, hI0, hat0, cEst, hI1, hat1, ht, h4, Nat.add_mul]; done))
    case i15_0 => (first | exact hL1 | (rw [← hL1]; simp only [reduceIte, hI0, hat0, cEst, hI1, hat1, ht, h4]; done) | (rw [← hL1]; simp [hI0, hat0, cEst, hI1, hat1, ht, h4]; done) | (simp [hI0, hat0, cEst, hI1, hat1, ht, h4] at hL1; simpa using hL1) | (rw [← hL1]; simp [*]; done))
    case i15_1 => (first | omega | assumption | (simp; omega) | (simp_all; done))
    case i15_2 => (first | omega | assumption | (simp; omega) | (simp_all; done))
   refine awR [] [none, none, none, none, none, some (40, false), some (40, false), some (40, false), some (40, false), none] ?_
   simp only [(id F10), seval, cGrp, cN3, hI0, hat0, cEst, hI1, hat1, ht, h4, flat_pure cEst_pure, flat_pure cDebt_pure]
   repeat refine ob ?_
   refine ⟨_, (taken_A g i0 c0 hn he), rfl, ?_⟩
   try unfold Later
   try simp only [(id F10), seval, cGrp, cN3, hI0, hat0, cEst, hI1, hat1, ht, h4, flat_pure cEst_pure, flat_pure cDebt_pure]
   repeat refine ob ?_
   refine awF ?_
   refine awK ?_
   simp only [(id F10), seval]
   have w3 : ((t.k : Nat) : Int).tmod 16 = ((t.k % 16 : Nat) : Int) := by norm_cast
   have w4 : IntKind.u64.wrap ((t.k % 16 : Nat) : Int) = ((t.k % 16 : Nat) : Int) := wr64 (t.k % 16) (by omega)
   have w5 := shr1 p.a (t.k % 16) hp.1 (by omega)
   refine awN ?_
   simp only [(id F10), seval, cGrp, cN3, hI0, hat0, cEst, hI1, hat1, ht, h4, w3, w4, w5]
   repeat refine ob ?_
   refine awN ?_
   simp only [(id F10), seval, cGrp, cN3, hI0, hat0, cEst, hI1, hat1, ht, h4]
   repeat refine ob ?_
   by_cases hb : ((p.a / 2 ^ (t.k % 16) % 2 : Nat) : Int) = 1
   ·
    have yhb : p.a / 2 ^ (t.k % 16) % 2 = 1 := by omega
    by_cases hz : (t.l.length : Int) = 0
    ·
     refine awR [] [none, none, some (58, true), some (58, true), some (58, true), some (58, true), some (58, true), some (63, false), some (63, false), some (63, false), some (63, false), some (58, true), none] ?_
     simp only [(id F10), seval, cGrp, cN3, hI0, hat0, cEst, hI1, hat1, ht, h4, hb, yhb, hz, cClaim]
     repeat refine ob ?_
     refine awT ?_
     refine awN ?_
     simp only [(id F10), seval, cGrp, cN3, hI0, hat0, cEst, hI1, hat1, ht, h4, hb, yhb, hz, cClaim]
     repeat refine ob ?_
     refine awN ?_
     simp only [(id F10), seval, cGrp, cN3, hI0, hat0, cEst, hI1, hat1, ht, h4, hb, yhb, hz]
     repeat refine ob ?_
     refine awN ?_
     simp only [(id F10), seval, cGrp, cN3, hI0, hat0, cEst, hI1, hat1, ht, h4, hb, yhb, hz]
     repeat refine ob ?_
     repeat refine ob ?_
     refine ⟨_, wk_keep [2, 3, 4, 5, 6, 7, 8, 19, 20, 21, 29, 30, 31] [2, 3, 5, 78], e.claims.length - (c0 + 1), by omega, c0 + 1, (owS g.debts p i0 c0 y t), ?a23_s2, ?a23_nx, by omega, rfl, ?i23_0, ?i23_1, ?i23_2, ?st23⟩
     case st23 => (simp only [(id F10), seval, owS, flat_snoc, cLeg, List.length_append, List.length_cons, List.length_nil, cGrp, cN3, hI0, hat0, cEst, hI1, hat1, ht, h4, hb, yhb, hz]; first | rfl | (simp [owS, flat_snoc, cLeg, List.length_append, List.length_cons, List.length_nil, hI0, hat0, cEst, hI1, hat1, ht, h4, hb, yhb, hz, Nat.add_mul]; done))
     case i23_0 => (first | exact hL1 | (rw [← hL1]; simp only [reduceIte, hI0, hat0, cEst, hI1, hat1, ht, h4, hb, yhb, hz]; done) | (rw [← hL1]; simp [hI0, hat0, cEst, hI1, hat1, ht, h4, hb, yhb, hz]; done) | (simp [hI0, hat0, cEst, hI1, hat1, ht, h4, hb, yhb, hz] at hL1; simpa using hL1) | (rw [← hL1]; simp [*]; done))
     case i23_1 => (first | omega | assumption | (simp; omega) | (simp_all; done))
     case i23_2 => (first | omega | assumption | (simp; omega) | (simp_all; done))
    by_cases hh : y.holder = t.h
    ·
     refine awR [] [none, none, some (58, true), some (58, true), some (58, true), some (58, true), some (58, true), some (63, false), some (63, false), some (63, false), some (63, false), some (58, true), none] ?_
     simp only [(id F10), seval, cGrp, cN3, hI0, hat0, cEst, hI1, hat1, ht, h4, hb, yhb, hz, hh, cClaim]
     repeat refine ob ?_
     refine awT ?_
     refine awN ?_
     simp only [(id F10), seval, cGrp, cN3, hI0, hat0, cEst, hI1, hat1, ht, h4, hb, yhb, hz, hh, cClaim]
     repeat refine ob ?_
     refine awN ?_
     simp only [(id F10), seval, cGrp, cN3, hI0, hat0, cEst, hI1, hat1, ht, h4, hb, yhb, hz, hh]
     repeat refine ob ?_
     refine awN ?_
     simp only [(id F10), seval, cGrp, cN3, hI0, hat0, cEst, hI1, hat1, ht, h4, hb, yhb, hz, hh]
     repeat refine ob ?_
     repeat refine ob ?_
     refine ⟨_, wk_keep [2, 3, 4, 5, 6, 7, 8, 19, 20, 21, 29, 30, 31] [2, 3, 5, 78], e.claims.length - (c0 + 1), by omega, c0 + 1, (owS g.debts p i0 c0 y t), ?a28_s2, ?a28_nx, by omega, rfl, ?i28_0, ?i28_1, ?i28_2, ?st28⟩
     case st28 => (simp only [(id F10), seval, owS, flat_snoc, cLeg, List.length_append, List.length_cons, List.length_nil, cGrp, cN3, hI0, hat0, cEst, hI1, hat1, ht, h4, hb, yhb, hz, hh]; first | rfl | (simp [owS, flat_snoc, cLeg, List.length_append, List.length_cons, List.length_nil, hI0, hat0, cEst, hI1, hat1, ht, h4, hb, yhb, hz, hh, Nat.add_mul]; done))
     case i28_0 => (first | exact hL1 | (rw [← hL1]; simp only [reduceIte, hI0, hat0, cEst, hI1, hat1, ht, h4, hb, yhb, hz, hh]; done) | (rw [← hL1]; simp [hI0, hat0, cEst, hI1, hat1, ht, h4, hb, yhb, hz, hh]; done) | (simp [hI0, hat0, cEst, hI1, hat1, ht, h4, hb, yhb, hz, hh] at hL1; simpa using hL1) | (rw [← hL1]; simp [*]; done))
     case i28_1 => (first | omega | assumption | (simp; omega) | (simp_all; done))
     case i28_2 => (first | omega | assumption | (simp; omega) | (simp_all; done))
    refine awR [] [none, none, some (58, true), some (58, true), some (58, true), some (58, true), some (58, true), some (63, false), some (63, false), some (63, false), some (63, false), some (58, true), none] ?_
    simp only [(id F10), seval, cGrp, cN3, hI0, hat0, cEst, hI1, hat1, ht, h4, hb, yhb, hz, hh, cClaim]
    repeat refine ob ?_
    refine awF ?_
    refine awK ?_
    simp only [(id F10), seval]
    refine awN ?_
    simp only [(id F10), seval, cGrp, cN3, hI0, hat0, cEst, hI1, hat1, ht, h4, hb, yhb, hz, hh]
    repeat refine ob ?_
    repeat refine ob ?_
    refine ⟨_, wk_keep [2, 3, 4, 5, 6, 7, 8, 19, 20, 21, 29, 30, 31] [2, 3, 5, 78], e.claims.length - (c0 + 1), by omega, c0 + 1, (owS g.debts p i0 c0 y t), ?a31_s2, ?a31_nx, by omega, rfl, ?i31_0, ?i31_1, ?i31_2, ?st31⟩
    case st31 => (simp only [(id F10), seval, owS, flat_snoc, cLeg, List.length_append, List.length_cons, List.length_nil, cGrp, cN3, hI0, hat0, cEst, hI1, hat1, ht, h4, hb, yhb, hz, hh]; first | rfl | (simp [owS, flat_snoc, cLeg, List.length_append, List.length_cons, List.length_nil, hI0, hat0, cEst, hI1, hat1, ht, h4, hb, yhb, hz, hh, Nat.add_mul]; done))
    case i31_0 => (first | exact hL1 | (rw [← hL1]; simp only [reduceIte, hI0, hat0, cEst, hI1, hat1, ht, h4, hb, yhb, hz, hh]; done) | (rw [← hL1]; simp [hI0, hat0, cEst, hI1, hat1, ht, h4, hb, yhb, hz, hh]; done) | (simp [hI0, hat0, cEst, hI1, hat1, ht, h4, hb, yhb, hz, hh] at hL1; simpa using hL1) | (rw [← hL1]; simp [*]; done))
    case i31_1 => (first | omega | assumption | (simp; omega) | (simp_all; done))
    case i31_2 => (first | omega | assumption | (simp; omega) | (simp_all; done))
   have yhb : ¬ p.a / 2 ^ (t.k % 16) % 2 = 1 := by omega
   refine awR [] [none, none, some (58, true), some (58, true), some (58, true), some (58, true), some (58, true), some (63, false), some (63, false), some (63, false), some (63, false), some (58, true), none] ?_
   simp only [(id F10), seval, cGrp, cN3, hI0, hat0, cEst, hI1, hat1, ht, h4, hb, yhb, cClaim]
   repeat refine ob ?_
   refine awF ?_
   refine awK ?_
   simp only [(id F10), seval]
   refine awN ?_
   simp only [(id F10), seval, cGrp, cN3, hI0, hat0, cEst, hI1, hat1, ht, h4, hb, yhb]
   repeat refine ob ?_
   repeat refine ob ?_
   refine ⟨_, wk_keep [2, 3, 4, 5, 6, 7, 8, 19, 20, 21, 29, 30, 31] [2, 3, 5, 78], e.claims.length - (c0 + 1), by omega, c0 + 1, (owS g.debts p i0 c0 y t), ?a34_s2, ?a34_nx, by omega, rfl, ?i34_0, ?i34_1, ?i34_2, ?st34⟩
   case st34 => (simp only [(id F10), seval, owS, flat_snoc, cLeg, List.length_append, List.length_cons, List.length_nil, cGrp, cN3, hI0, hat0, cEst, hI1, hat1, ht, h4, hb, yhb]; first | rfl | (simp [owS, flat_snoc, cLeg, List.length_append, List.length_cons, List.length_nil, hI0, hat0, cEst, hI1, hat1, ht, h4, hb, yhb, Nat.add_mul]; done))
   case i34_0 => (first | exact hL1 | (rw [← hL1]; simp only [reduceIte, hI0, hat0, cEst, hI1, hat1, ht, h4, hb, yhb]; done) | (rw [← hL1]; simp [hI0, hat0, cEst, hI1, hat1, ht, h4, hb, yhb]; done) | (simp [hI0, hat0, cEst, hI1, hat1, ht, h4, hb, yhb] at hL1; simpa using hL1) | (rw [← hL1]; simp [*]; done))
   case i34_1 => (first | omega | assumption | (simp; omega) | (simp_all; done))
   case i34_2 => (first | omega | assumption | (simp; omega) | (simp_all; done))
  obtain rfl : c0 = e.claims.length := by omega
  have hI1 : ¬ (e.claims.length : Int) < (e.claims.length : Int) := by omega
  rw [List.drop_length] at hL1
  simp only [owC] at hL1
  refine awN ?_
  simp only [(id F10), seval, cGrp, cN3, hI0, hat0, cEst, hI1]
  repeat refine ob ?_
  refine awF ?_
  refine awQ ?_
  simp only [(id F10), seval]
  refine awN ?_
  simp only [(id F10), seval, cGrp, cN3, hI0, hat0, cEst, hI1]
  repeat refine ob ?_
  repeat refine ob ?_
  refine ⟨_, wk_keep [2, 3, 4, 5, 6, 7, 19, 20, 21] [2, 3, 5, 78], g.ests.length - (i0 + 1), by omega, i0 + 1, ?a37_s, ?a37_s1, ?a37_nx, by omega, rfl, ?i37_0, ?i37_1, ?i37_2, ?st37⟩
  case st37 => (simp only [(id F10), seval, cGrp, cN3, hI0, hat0, cEst, hI1]; first | rfl | (simp [hI0, hat0, cEst, hI1, Nat.add_mul]; done))
  case i37_0 => (rw [← hL0, ← hL1])
  case i37_1 => (first | omega | assumption | (simp; omega) | (simp_all; done))
  case i37_2 => (first | omega | assumption | (simp; omega) | (simp_all; done))
 obtain rfl : i0 = g.ests.length := by omega
 have hI0 : ¬ (g.ests.length : Int) < (g.ests.length : Int) := by omega
 rw [List.drop_length] at hL0
 simp only [owE] at hL0
 refine awN ?_
 simp only [(id F10), seval, cGrp, cN3, hI0]
 repeat refine ob ?_
 refine awF ?_
 refine awQ ?_
 simp only [(id F10), seval]
 by_cases hr : ((p.b % 2 : Nat) : Int) = 1
 ·
  have yhr : p.b % 2 = 1 := by omega
  have w6 : ((p.b : Nat) : Int).tmod 2 = ((p.b % 2 : Nat) : Int) := by norm_cast
  refine awN ?_
  simp only [(id F10), seval, cGrp, cN3, hI0, hr, yhr, w6]
  repeat refine ob ?_
  refine awT ?_
  refine awD (scT 0 6 .nil) [none, none, none, none, none, none] ?_
  simp only [(id F10), seval, cGrp, cN3, hI0, hr, yhr]
  repeat refine ob ?_
  generalize hLg : s.l = L at *
  have e0 : (L.length : Int) - 1 = (L.length : Int) - 1 - ((0 : Nat) : Int) := by omega
  rw [e0]
  refine awp_keep [2, 3, 4, 5, 12, 13] [2, 3, 5, 78] ?_
  try unfold Later
  try simp only [(id F10), seval, cGrp, cN3, hI0, hr, yhr]
  repeat' first|apply awS|apply awB
  refine awp_loopw (fun n st => ∃ m s1 nx, m ≤ L.length / 2 ∧ n = L.length - m ∧ st = ⟨mkT [(2, .val (.one (.ptr 2 0 0))), (3, .val (.one (.ptr 3 1 0))), (4, .val (.one (.lit (.slice none 0 0)))), (5, .val (.one (.ptr 5 2 0))), (12, one (.int .i64 m)), (13, one (.int .i64 ((L.length : Int) - 1 - m)))], mkH [(2, ⟨0, 28, 2, 1, cGrp g⟩), (3, ⟨1, 98, 3, 1, cN3 p⟩), (5, ⟨2, 42, 4, 1, [.lit (.bool (enc (qAmt p.c)).neg), .lit (.string (enc (qAmt p.c)).num), .lit (.string (enc (qAmt p.c)).den), .own 78 s1 (rvL L m).length 2]⟩), (78, ⟨s1, 44, 2, (rvL L m).length, flat cLeg (rvL L m)⟩)], nx, 0⟩) (L.length) ⟨0, _, _, by omega, by omega, rfl⟩ ?_
  rintro n2 st ⟨m, s1, nx2, hm, rfl, rfl⟩
  by_cases hlt : (m : Int) < (L.length : Int) - 1 - m
  ·
   refine awN ?_
   simp only [(id F10), seval, cGrp, cN3, hI0, hr, yhr, hlt]
   repeat refine ob ?_
   refine awT ?_
   refine awK ?_
   simp only [(id F10), seval]
   obtain ⟨j, hj⟩ : ∃ j : Nat, (L.length : Int) - 1 - m = j := ⟨L.length - 1 - m, by omega⟩
   have hjn : j = L.length - 1 - m := by omega
   simp only [hj]
   have hm1 : m < (rvL L m).length := by rw [rvL_len]; omega
   have hj1 : j < (rvL L m).length := by rw [rvL_len]; omega
   have hln := rvL_len L m
   have a1 := flat_at cLeg_len (rvL L m) m hm1
   have a2 := flat_at cLeg_len (rvL L m) j hj1
   have b1 := flat_set cLeg_len (rvL L m) m (rvL L m)[j] hm1
   have b2 := flat_set cLeg_len ((rvL L m).set m (rvL L m)[j]) j (rvL L m)[m] (by simpa using hj1)
   simp only [cLeg] at a1 a2 b1 b2
   have f1 := flat_length cLeg_len (rvL L m)
   have f2 := flat_length cLeg_len ((rvL L m).set m (rvL L m)[j])
   rw [List.length_set] at f2
   refine awD (scT 0 4 (scT 5 12 (.two 4 17 (scq [34, 37, 38] .nil) (scq [9, 37, 38] .nil)))) [none, none, none, none, none, none, none, none, none, none, none, none, none, none, none, none, none, none, none, none] ?_
   simp only [(id F10), seval, cGrp, cN3, hI0, hr, yhr, hlt, a1, a2, b1, b2, f1, f2]
   repeat refine ob ?_
   refine ⟨?_, ?_⟩
   ·
    repeat refine ob ?_
    refine awN ?_
    simp only [(id F10), seval, cGrp, cN3, hI0, hr, yhr, hlt]
    repeat refine ob ?_
    repeat refine ob ?_
    have hr1 : rvL L (m + 1) = ((rvL L m).set m (rvL L m)[j]).set j (rvL L m)[m] := by simp [rvL, swp, ← hjn, hm1, hj1]
    have e1 : (j : Int) - 1 = (L.length : Int) - 1 - ((m + 1 : Nat) : Int) := by omega
    refine ⟨_, wk_keep [2, 3, 4, 5, 12, 13] [2, 3, 5, 78], L.length - (m + 1), by omega, m + 1, s1, nx2, by omega, rfl, ?_⟩
    simp only [(id F10), seval, hr1, List.length_set, e1, Int.natCast_add]
    try rfl
   repeat refine ob ?_
   refine awN ?_
   simp only [(id F10), seval, cGrp, cN3, hI0, hr, yhr, hlt]
   repeat refine ob ?_
   repeat refine ob ?_
   have hr1 : rvL L (m + 1) = ((rvL L m).set m (rvL L m)[j]).set j (rvL L m)[m] := by simp [rvL, swp, ← hjn, hm1, hj1]
   have e1 : (j : Int) - 1 = (L.length : Int) - 1 - ((m + 1 : Nat) : Int) := by omega
   refine ⟨_, wk_keep [2, 3, 4, 5, 12, 13] [2, 3, 5, 78], L.length - (m + 1), by omega, m + 1, s1, nx2, by omega, rfl, ?_⟩
   simp only [(id F10), seval, hr1, List.length_set, e1, Int.natCast_add]
   try rfl
  refine awN ?_
  simp only [(id F10), seval, cGrp, cN3, hI0, hr, yhr, hlt]
  repeat refine ob ?_
  refine awF ?_
  refine awQ ?_
  simp only [(id F10), seval]
  refine awp_pubc 78 5 3 (by rfl) (by rfl) (by rfl) (by decide) (by show (2 : Nat) ≠ 0; decide) (by show (4 : Nat) ≠ 0; decide) rfl ?_
  simp only [(id F10), seval]
  refine awD (scq [1, 3] (.two 2 3 (scq [7, 8, 10, 13] .nil) (.two 2 4 (scq [8, 10, 13] .nil) (scq [4, 10, 13] .nil)))) [none, none, none, none, none, none, none] ?_
  simp only [(id F10), seval, cGrp, cN3, hI0, hr, yhr, hlt, flat_pure cDebt_pure, flat_pure cLeg_pure, pure_append]
  repeat refine ob ?_
  refine ⟨?_, ?_⟩
  ·
   repeat refine ob ?_
   have hm2 : m = L.length / 2 := by omega
   subst hm2
   refine awX ?_
   simp only [(id F10), seval, flat_pure cDebt_pure, flat_pure cLeg_pure]
   simp [owN, ← hL0, yhr, hLg, cDebt, flat_append, flat_cons, flat_nil, rvL_len, pure_append, pureCs, pureC, flat_pure cDebt_pure, flat_pure cLeg_pure]
  repeat refine ob ?_
  refine ⟨?_, ?_⟩
  ·
   repeat refine ob ?_
   have hm2 : m = L.length / 2 := by omega
   subst hm2
   refine awX ?_
   simp only [(id F10), seval, flat_pure cDebt_pure, flat_pure cLeg_pure]
   simp [owN, ← hL0, yhr, hLg, cDebt, flat_append, flat_cons, flat_nil, rvL_len, pure_append, pureCs, pureC, flat_pure cDebt_pure, flat_pure cLeg_pure]
  repeat refine ob ?_
  have hm2 : m = L.length / 2 := by omega
  subst hm2
  refine awX ?_
  simp only [(id F10), seval, flat_pure cDebt_pure, flat_pure cLeg_pure]
  simp [owN, ← hL0, yhr, hLg, cDebt, flat_append, flat_cons, flat_nil, rvL_len, pure_append, pureCs, pureC, flat_pure cDebt_pure, flat_pure cLeg_pure]
 have yhr : ¬ p.b % 2 = 1 := by omega
 have w6 : ((p.b : Nat) : Int).tmod 2 = ((p.b % 2 : Nat) : Int) := by norm_cast
 refine awN ?_
 simp only [(id F10), seval, cGrp, cN3, hI0, hr, yhr, w6]
 repeat refine ob ?_
 refine awF ?_
 refine awK ?_
 simp only [(id F10), seval]
 refine awp_pubc 78 5 3 (by rfl) (by rfl) (by rfl) (by decide) (by show (2 : Nat) ≠ 0; decide) (by show (4 : Nat) ≠ 0; decide) rfl ?_
 simp only [(id F10), seval]
 refine awD (scq [1, 3] (.two 2 3 (scq [7, 8, 10, 13] .nil) (.two 2 4 (scq [8, 10, 13] .nil) (scq [4, 10, 13] .nil)))) [none, none, none, none, none, none, none] ?_
 simp only [(id F10), seval, cGrp, cN3, hI0, hr, yhr, flat_pure cDebt_pure, flat_pure cLeg_pure, pure_append]
 repeat refine ob ?_
 refine ⟨?_, ?_⟩
 ·
  repeat refine ob ?_
  refine awX ?_
  simp only [(id F10), seval, flat_pure cDebt_pure, flat_pure cLeg_pure]
  simp [owN, ← hL0, yhr, cDebt, flat_append, flat_cons, flat_nil, rvL_len, pure_append, pureCs, pureC, flat_pure cDebt_pure, flat_pure cLeg_pure]
 repeat refine ob ?_
 refine ⟨?_, ?_⟩
 ·
  repeat refine ob ?_
  refine awX ?_
  simp only [(id F10), seval, flat_pure cDebt_pure, flat_pure cLeg_pure]
  simp [owN, ← hL0, yhr, cDebt, flat_append, flat_cons, flat_nil, rvL_len, pure_append, pureCs, pureC, flat_pure cDebt_pure, flat_pure cLeg_pure]
 repeat refine ob ?_
 refine awX ?_
 simp only [(id F10), seval, flat_pure cDebt_pure, flat_pure cLeg_pure]
 simp [owN, ← hL0, yhr, cDebt, flat_append, flat_cons, flat_nil, rvL_len, pure_append, pureCs, pureC, flat_pure cDebt_pure, flat_pure cLeg_pure]
section
variable {P : Program} {e : En} {k0 : Kx} {N : Nat} {st : St} {a : Act} {w : World} {Q : Exit → St → Prop} {c : Code}
theorem wk_cells (nm : Nat) {B : Blk} (cs' : List C) (hB : st.H nm = some B) (hsz : B.sz ≠ 0) (hl : cs'.length = B.cs.length) (h : ∀ (κ : Kx) (vs : List Value), denVs κ vs B.cs → denVs κ vs cs') :
  Wk e k0 N st ⟨st.tm, up st.H nm (some { B with cs := cs' }), st.nx, st.nb⟩ := by
 intro a w hr
 obtain ⟨σ, h1, h2, h3⟩ := hr.ex
 obtain ⟨g1, g2, xs, g3, g4⟩ := h1.rowOf hB (.inl hsz)
 obtain ⟨m1, m2⟩ := h1.upd (w' := w) hB ⟨rfl, rfl, rfl, Nat.le_refl _, fun _ _ _ => rfl⟩ (cs := cs') hsz (by rw [hl]; exact g2) g3 (h _ _ g4)
 exact ⟨⟨_, m1, fun t' => denA_ext m2 (h2 t'), h3.trans m2⟩, hr.df, hr.sz⟩
end
theorem den_nilsh {κ : Kx} {v : Value} (sz : Nat) (h : den κ v (.lit (.slice none 0 0))) : den κ v (.sh sz 0 []) := by
 simp only [den] at h ⊢
 exact ⟨none, 0, h.1, Nat.le_refl _, by unfold maxLen; omega, fun _ => rfl, by simp, .inl trivial⟩
theorem denVs_cons {κ : Kx} {vs : List Value} {c : C} {cs : List C} (h : denVs κ vs (c :: cs)) : ∃ v vs', vs = v :: vs' ∧ den κ v c ∧ denVs κ vs' cs := by
 cases vs with
 | nil => exact h.elim
 | cons v vs => exact ⟨v, vs, rfl, h.1, h.2⟩
theorem eRow_est : ∀ (ps : List (GEst × Nat)) (i : Nat), (∀ p ∈ ps, p.1.agrs = []) → ∀ (κ : Kx) (vs : List Value), denVs κ vs (eRow fSh ps i) → denVs κ vs (flat cEst (ps.map (·.1)))
 | [], _, _, κ, vs, h => h
 | p :: ps, i, hp, κ, vs, h => by
  have ha := hp p (by simp)
  simp only [eRow, List.cons_append, List.nil_append] at h
  obtain ⟨v1, vs1, rfl, d1, h⟩ := denVs_cons h
  obtain ⟨v2, vs2, rfl, d2, h⟩ := denVs_cons h
  obtain ⟨v3, vs3, rfl, d3, h⟩ := denVs_cons h
  obtain ⟨v4, vs4, rfl, d4, h⟩ := denVs_cons h
  obtain ⟨v5, vs5, rfl, d5, h⟩ := denVs_cons h
  have ih := eRow_est ps (i + 1) (fun q hq => hp q (by simp [hq])) κ vs5 h
  rw [List.map_cons, flat_cons]
  simp only [cEst, ha]
  exact ⟨d1, d2, d3, d4, den_nilsh 1 d5, ih⟩
theorem eRow_fst {l m : List (GEst × Nat)} (i : Nat) (h : l.map (·.1) = m.map (·.1)) : eRow fNil l i = eRow fNil m i := by
 induction l generalizing m i with
 | nil =>
  cases m with
  | nil => rfl
  | cons q m => simp at h
 | cons p l ih =>
  cases m with
  | nil => simp at h
  | cons q m =>
   simp only [List.map_cons, List.cons.injEq] at h
   simp only [eRow, h.1, ih (i + 1) h.2, fNil]
theorem flat_setf {α : Type} {f : α → List C} {sz : Nat} (hf : ∀ a, (f a).length = sz) (l : List α) (k o : Nat) (ds : List C) (x : α) (h : k < l.length) (ho : o + ds.length ≤ sz) (hx : spl (f l[k]) o ds = f x) : spl (flat f l) (k * sz + o) ds = flat f (l.set k x) := by
 have h1 : flat f l = flat f (l.take k) ++ (f l[k] ++ flat f (l.drop (k + 1))) := by
  conv => lhs; rw [← List.take_append_drop k l, flat_append, List.drop_eq_getElem_cons h, flat_cons]
 have h2 : flat f (l.set k x) = flat f (l.take k) ++ (f x ++ flat f (l.drop (k + 1))) := by
  have hk : k < (l.set k x).length := by simpa using h
  conv => lhs; rw [← List.take_append_drop k (l.set k x), flat_append, List.drop_eq_getElem_cons hk, flat_cons]
  rw [List.getElem_set_self, List.drop_set]
  have : (l.set k x).take k = l.take k := by rw [List.take_set]; exact List.set_eq_of_length_le (by rw [List.length_take]; omega)
  rw [this]; simp
 have h3 : (flat f (l.take k)).length = k * sz := by rw [flat_length hf, List.length_take, Nat.min_eq_left (Nat.le_of_lt h)]
 have hlen := hf l[k]
 have e1 : f l[k] = (f l[k]).take o ++ (((f l[k]).drop o).take ds.length ++ (f l[k]).drop (o + ds.length)) := by
  rw [← List.drop_drop, List.take_append_drop, List.take_append_drop]
 have e2 : f x = (f l[k]).take o ++ (ds ++ (f l[k]).drop (o + ds.length)) := by
  rw [← hx]
  conv => lhs; rw [e1]
  have : o = ((f l[k]).take o).length := by rw [List.length_take, hlen]; omega
  conv => lhs; arg 2; rw [this]
  exact spl_mid _ _ _ _ (by rw [List.length_take, List.length_drop, hlen]; omega)
 have e4 : k * sz + o = (flat f (l.take k) ++ (f l[k]).take o).length := by
  rw [List.length_append, h3, List.length_take, hlen]; omega
 have e3 : flat f l = (flat f (l.take k) ++ (f l[k]).take o) ++ (((f l[k]).drop o).take ds.length ++ ((f l[k]).drop (o + ds.length) ++ flat f (l.drop (k + 1)))) := by
  conv => lhs; rw [h1, e1]
  simp only [List.append_assoc]
 rw [e3, e4, spl_mid _ _ _ _ (by rw [List.length_take, List.length_drop, hlen]; omega), h2, e2]
 simp only [List.append_assoc]
noncomputable def addAg (size : Nat) (es : List GEst) (p : N3) : List GEst :=
 if ((es.getD (p.a % size) ztEst).agrs.length : Int) < 2 then es.set (p.a % size) { es.getD (p.a % size) ztEst with agrs := (es.getD (p.a % size) ztEst).agrs ++ [bgN (es.getD (p.a % size) ztEst) p] } else es
noncomputable def addDb (es : List GEst) (ds : List GDebt) (d : N3) : List GDebt := if (ds.length : Int) < 3 then ds ++ [owN ⟨es, ds⟩ d] else ds
noncomputable def grpE (n : Nat) (cash : List Nat) (list : List N4) (pools : List N3) : List GEst := pools.foldl (addAg (1 + n % 4)) (list.foldl (addClaim (1 + n % 4)) ((List.range (1 + n % 4)).map (mkEst cash)))
noncomputable def grpN (n : Nat) (cash : List Nat) (list : List N4) (pools debts : List N3) : GGrp := ⟨grpE n cash list pools, debts.foldl (addDb (grpE n cash list pools)) []⟩
def okB (e : GEst) : Prop := e.claims.length ≤ 6 ∧ e.agrs.length ≤ 2 ∧ ∀ a ∈ e.agrs, a.length ≤ 3 ∧ ∀ t ∈ a, t.length ≤ 7
theorem T3put_len (T : T3) (x : Nat) (p : GPart) (n : Nat) (h : T.a.length ≤ n ∧ T.b.length ≤ n ∧ T.c.length ≤ n) : (T.put x p).a.length ≤ n + 1 ∧ (T.put x p).b.length ≤ n + 1 ∧ (T.put x p).c.length ≤ n + 1 := by
 unfold T3.put
 obtain ⟨h1, h2, h3⟩ := h
 repeat' split
 all_goals (simp only [List.length_append, List.length_cons, List.length_nil]; omega)
theorem bgL_len (agrs : List GAgr) (p : N3) : ∀ (l : List GClaim) (i : Nat) (T : T3) (n : Nat), (T.a.length ≤ n ∧ T.b.length ≤ n ∧ T.c.length ≤ n) → (bgL agrs p l i T).a.length ≤ n + l.length ∧ (bgL agrs p l i T).b.length ≤ n + l.length ∧ (bgL agrs p l i T).c.length ≤ n + l.length
 | [], _, _, _, h => h
 | _ :: l, i, T, n, h => by
  have h1 := bgS_len agrs p i T
  have := bgL_len agrs p l (i + 1) (bgS agrs p i T) (n + 1) (by omega)
  simp only [bgL, List.length_cons]
  omega
theorem bgN_ok (e : GEst) (p : N3) (h : e.claims.length ≤ 6) : (bgN e p).length ≤ 3 ∧ ∀ t ∈ bgN e p, t.length ≤ 7 := by
 refine ⟨by simp [bgN], fun t ht => ?_⟩
 have h1 := bgL_len e.agrs p e.claims 0 ⟨[], [], []⟩ 0 (by simp)
 have h2 : (bgT p (bgL e.agrs p e.claims 0 ⟨[], [], []⟩)).a.length ≤ 7 ∧ (bgT p (bgL e.agrs p e.claims 0 ⟨[], [], []⟩)).b.length ≤ 7 ∧ (bgT p (bgL e.agrs p e.claims 0 ⟨[], [], []⟩)).c.length ≤ 7 := by
  unfold bgT
  split
  ·have := T3put_len (bgL e.agrs p e.claims 0 ⟨[], [], []⟩) (p.a / 32 % 3 + 1) ⟨-1, true, enc (((p.a / 96 % 7 : Nat) : Int) : Rat)⟩ 6 (by omega)
   exact this
  omega
 simp only [bgN, List.mem_cons, List.not_mem_nil, or_false] at ht
 rcases ht with rfl | rfl | rfl
 ·exact h2.1
 ·exact h2.2.1
 exact h2.2.2
theorem okB_zt : okB ztEst := ⟨by simp [ztEst], by simp [ztEst], by simp [ztEst]⟩
theorem getD_ok {Pr : GEst → Prop} {es : List GEst} (h : ∀ e ∈ es, Pr e) (h0 : Pr ztEst) (i : Nat) : Pr (es.getD i ztEst) := by
 rw [List.getD_eq_getElem?_getD]
 cases hx : es[i]? with
 | none => exact h0
 | some e => exact h e (List.mem_of_getElem? hx)
theorem set_ok {Pr : GEst → Prop} {es : List GEst} (h : ∀ e ∈ es, Pr e) (i : Nat) {x : GEst} (hx : Pr x) : ∀ e ∈ es.set i x, Pr e := fun e he => by
 rcases List.mem_or_eq_of_mem_set he with h1 | rfl
 ·exact h e h1
 exact hx
theorem addAg_ok (size : Nat) (es : List GEst) (p : N3) (h : ∀ e ∈ es, okB e) : ∀ e ∈ addAg size es p, okB e := by
 unfold addAg
 split
 ·rename_i hlt
  have h0 := getD_ok h okB_zt (p.a % size)
  generalize es.getD (p.a % size) ztEst = e at *
  refine set_ok h _ ⟨h0.1, by simp only [List.length_append, List.length_cons, List.length_nil]; omega, fun a ha => ?_⟩
  rcases List.mem_append.1 ha with h1 | h1
  ·exact h0.2.2 a h1
  obtain rfl : a = bgN e p := by simpa using h1
  exact bgN_ok e p h0.1
 exact h
theorem addAg_length (size : Nat) (es : List GEst) (p : N3) : (addAg size es p).length = es.length := by unfold addAg; split <;> simp
theorem addClaim_length (size : Nat) (es : List GEst) (x : N4) : (addClaim size es x).length = es.length := by unfold addClaim; split <;> simp
def okC (e : GEst) : Prop := e.claims.length ≤ 6 ∧ e.agrs = []
theorem addClaim_ok (size : Nat) (es : List GEst) (x : N4) (h : ∀ e ∈ es, okC e) : ∀ e ∈ addClaim size es x, okC e := by
 unfold addClaim
 split
 ·exact h
 rename_i hlt
 have h0 := getD_ok h (show okC ztEst from ⟨by simp [ztEst], rfl⟩) (x.a % size)
 generalize es.getD (x.a % size) ztEst = e at *
 exact set_ok h _ ⟨by simp only [List.length_append, List.length_cons, List.length_nil]; omega, h0.2⟩
theorem owC_len (debts : List GDebt) (p : N3) (i : Nat) : ∀ (l : List GClaim) (c : Nat) (s : OS), s.l.length ≤ 4 → (owC debts p i l c s).l.length ≤ 4
 | [], _, _, h => h
 | y :: l, c, s, h => owC_len debts p i l (c + 1) _ ((owS_k debts p i c y s).2 h)
theorem owE_len (debts : List GDebt) (p : N3) : ∀ (l : List GEst) (i : Nat) (s : OS), s.l.length ≤ 4 → (owE debts p l i s).l.length ≤ 4
 | [], _, _, h => h
 | e :: l, i, s, h => owE_len debts p l (i + 1) _ (owC_len debts p i e.claims 0 s h)
theorem owN_len (g : GGrp) (p : N3) : (owN g p).legs.length ≤ 4 := by
 have := owE_len g.debts p g.ests 0 ⟨0, 0, []⟩ (by simp)
 unfold owN
 dsimp only
 split
 ·rw [rvL_len]; exact this
 exact this
theorem addDb_ok (es : List GEst) (ds : List GDebt) (d : N3) (h : ∀ x ∈ ds, x.legs.length ≤ 4) (hl : ds.length ≤ 3) : (∀ x ∈ addDb es ds d, x.legs.length ≤ 4) ∧ (addDb es ds d).length ≤ 3 := by
 unfold addDb
 split
 ·refine ⟨fun x hx => ?_, by simp only [List.length_append, List.length_cons, List.length_nil]; omega⟩
  rcases List.mem_append.1 hx with h1 | h1
  ·exact h x h1
  obtain rfl : x = owN ⟨es, ds⟩ d := by simpa using h1
  exact owN_len _ _
 exact ⟨h, hl⟩
def cU16 (n : Nat) : List C := [.lit (.int .u16 n)]
theorem cU16_len (n : Nat) : (cU16 n).length = 1 := rfl
def cN4 (x : N4) : List C := [.lit (.int .u16 x.a), .lit (.int .u16 x.b), .lit (.int .u16 x.c), .lit (.int .u16 x.d)]
theorem cN4_len (x : N4) : (cN4 x).length = 4 := rfl
theorem cN3_len (x : N3) : (cN3 x).length = 3 := rfl
theorem cU16_pure (n : Nat) : pureCs (cU16 n) = true := rfl
theorem cN4_pure (x : N4) : pureCs (cN4 x) = true := rfl
theorem cN3_pure (x : N3) : pureCs (cN3 x) = true := rfl
end Go.Proofs.YtokmkopihhnggaaGreatDoor
