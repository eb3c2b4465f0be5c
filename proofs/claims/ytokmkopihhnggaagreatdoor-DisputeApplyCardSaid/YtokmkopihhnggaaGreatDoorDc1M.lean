/- Disputes: exists, options, count, Check, on both sides; walked by the abstract machine. -/
import Derived.Test.YtokmkopihhnggaaGreatDoorLawM
import Derived.Test.YtokmkopihhnggaaGreatDoorRw6M
set_option linter.unusedVariables false
set_option linter.unusedSimpArgs false
set_option linter.defProp false
namespace Go.Proofs.YtokmkopihhnggaaGreatDoor
open Go Go.RowKit
def cOpt (x : GOpt) : List C := [.lit (.bool x.amount.neg), .lit (.string x.amount.num), .lit (.string x.amount.den), .lit (.int .i64 x.rank)]
def cDisp (d : GDisp) : List C := [.lit (.int .i64 d.est), .lit (.int .i64 d.cl), .sh 4 d.opts.length (flat cOpt d.opts)]
theorem cOpt_len (x : GOpt) : (cOpt x).length = 4 := rfl
theorem cDisp_len (x : GDisp) : (cDisp x).length = 3 := rfl
theorem cOpt_pure (x : GOpt) : pureCs (cOpt x) = true := rfl
theorem cDisp_pure (x : GDisp) : pureCs (cDisp x) = true := by simp [cDisp, pureCs, pureC, flat_pure cOpt_pure]
def exB (g : GGrp) (i c : Int) : Bool := if (0 : Int) ≤ i then (if i < (g.ests.length : Int) then (if (0 : Int) ≤ c then decide (c < ((g.ests.getD i.toNat ztEst).claims.length : Int)) else false) else false) else false
noncomputable def opL : List GOpt → Int
 | [] => 0
 | x :: l => if x.rank < 0 then 1 else if (7 : Int) < x.rank then 1 else if qSgn (qOf x.amount) < 0 then 7 else opL l
noncomputable def opE (l : List GOpt) : Int := if (l.length : Int) = 0 then 21 else if (4 : Int) < (l.length : Int) then 2 else opL l
def dLeg (d : GDisp) : Leg := (d.est, d.cl)
open Classical in
noncomputable def dChk (g : GGrp) (T : List Leg) (d : GDisp) : Int := if exB g d.est d.cl = true then (if dLeg d ∈ T then 12 else opE d.opts) else 1
noncomputable def dkL (g : GGrp) : List Leg → List GDisp → Int
 | _, [] => 0
 | T, d :: l => if dChk g T d = 0 then dkL g (T ++ [dLeg d]) l else dChk g T d
def cnL : List GDisp → Int → Int
 | [], n => n
 | d :: l, n => cnL l (min (n * min (d.opts.length : Int) 4097) 4097)
noncomputable def dcS (gc : Int) (g : GGrp) (l : List GDisp) : Int := if gc = 0 then (if (8 : Int) < (l.length : Int) then 2 else if dkL g [] l = 0 then (if (4096 : Int) < cnL l 1 then 2 else 0) else dkL g [] l) else gc
def dispsOK (l : List GDisp) : Prop := l.length ≤ 1000000 ∧ ∀ d ∈ l, d.opts.length ≤ 1000000 ∧ ∀ x ∈ d.opts, ratOK x.amount
def F59 := And.intro zS (And.intro tf109 (And.intro tf24 (And.intro tf110 (And.intro tf29 (And.intro tf111 (And.intro tf96 (And.intro tf97 (And.intro tf32 (And.intro tf112 (tf12))))))))))
set_option maxRecDepth 100000 in
set_option maxHeartbeats 4000000 in
theorem dExists_A (g : GGrp) (l : Leg) : ACall Tryz.prog 110 [.agg (cGrp g), .agg (cLeg l)] (one (.bool (exB g l.1 l.2))) := by
 refine acall_of Tryz.func110 rfl (by decide) (N := 34) rfl (by simp) (R := [.tmp 4]) rfl fun en k0 => ?_
 refine awN ?_
 simp only [(id F59), seval, cGrp, cLeg]
 repeat refine ob ?_
 by_cases h1 : (0 : Int) ≤ l.1
 ·
  by_cases h2 : l.1 < (g.ests.length : Int)
  ·
   by_cases h3 : (0 : Int) ≤ l.2
   ·
    obtain ⟨j, hj⟩ : ∃ j : Nat, l.1 = j := ⟨l.1.toNat, by omega⟩
    have hjl : j < g.ests.length := by omega
    have hat := flat_at cEst_len g.ests j hjl
    rw [hj] at h1 h2
    have hgd : g.ests[j]?.getD ztEst = g.ests[j] := by rw [List.getElem?_eq_getElem hjl]; rfl
    refine awD (scT 0 30 .nil) [none, none, none, none, some (8, true), some (8, true), some (8, true), some (8, true), some (8, true), some (8, true), none, none, some (16, true), some (16, true), some (16, true), none, none, some (21, true), some (21, true), some (21, true), some (21, true), some (21, true), some (21, true), some (21, true), some (21, true), some (21, true), some (21, true), some (21, true), none, none] ?_
    simp only [(id F59), seval, cGrp, cLeg, h1, h2, h3, hj, hat, cEst]
    repeat refine ob ?_
    refine awX ?_
    simp only [(id F59), seval]
    simp [exB, hj, hgd, h1, h2, h3]
   refine awD (scT 0 30 .nil) [none, none, none, none, some (8, true), some (8, true), some (8, true), some (8, true), some (8, true), some (8, true), none, none, some (16, true), some (16, true), some (16, true), none, none, some (21, true), some (21, true), some (21, true), some (21, true), some (21, true), some (21, true), some (21, true), some (21, true), some (21, true), some (21, true), some (21, true), none, none] ?_
   simp only [(id F59), seval, cGrp, cLeg, h1, h2, h3]
   repeat refine ob ?_
   refine awX ?_
   simp only [(id F59), seval]
   simp [exB, h1, h2, h3]
  refine awD (scT 0 30 .nil) [none, none, none, none, some (8, true), some (8, true), some (8, true), some (8, true), some (8, true), some (8, true), none, none, some (16, true), some (16, true), some (16, true), none, none, some (21, true), some (21, true), some (21, true), some (21, true), some (21, true), some (21, true), some (21, true), some (21, true), some (21, true), some (21, true), some (21, true), none, none] ?_
  simp only [(id F59), seval, cGrp, cLeg, h1, h2]
  repeat refine ob ?_
  refine awX ?_
  simp only [(id F59), seval]
  simp [exB, h1, h2]
 refine awD (scT 0 30 .nil) [none, none, none, none, some (8, true), some (8, true), some (8, true), some (8, true), some (8, true), some (8, true), none, none, some (16, true), some (16, true), some (16, true), none, none, some (21, true), some (21, true), some (21, true), some (21, true), some (21, true), some (21, true), some (21, true), some (21, true), some (21, true), some (21, true), some (21, true), none, none] ?_
 simp only [(id F59), seval, cGrp, cLeg, h1]
 repeat refine ob ?_
 refine awX ?_
 simp only [(id F59), seval]
 simp [exB, h1]
def F60 := And.intro zS (And.intro tf109 (And.intro tf24 (And.intro tf110 (And.intro tf29 (And.intro tf111 (And.intro tf96 (And.intro tf97 (And.intro tf32 (And.intro tf112 (tf12))))))))))
set_option maxRecDepth 100000 in
set_option maxHeartbeats 4000000 in
theorem rExists_A (g : GGrp) (l : Leg) : ACall Tryz.prog 155 [.agg (cGrp g), .agg (cLeg l)] (one (.bool (exB g l.1 l.2))) := by
 refine acall_of Tryz.func155 rfl (by decide) (N := 34) rfl (by simp) (R := [.tmp 4]) rfl fun en k0 => ?_
 refine awN ?_
 simp only [(id F60), seval, cGrp, cLeg]
 repeat refine ob ?_
 by_cases h1 : (0 : Int) ≤ l.1
 ·
  by_cases h2 : l.1 < (g.ests.length : Int)
  ·
   by_cases h3 : (0 : Int) ≤ l.2
   ·
    obtain ⟨j, hj⟩ : ∃ j : Nat, l.1 = j := ⟨l.1.toNat, by omega⟩
    have hjl : j < g.ests.length := by omega
    have hat := flat_at cEst_len g.ests j hjl
    rw [hj] at h1 h2
    have hgd : g.ests[j]?.getD ztEst = g.ests[j] := by rw [List.getElem?_eq_getElem hjl]; rfl
    refine awD (scT 0 30 .nil) [none, none, none, none, some (8, true), some (8, true), some (8, true), some (8, true), some (8, true), some (8, true), none, none, some (16, true), some (16, true), some (16, true), none, none, some (21, true), some (21, true), some (21, true), some (21, true), some (21, true), some (21, true), some (21, true), some (21, true), some (21, true), some (21, true), some (21, true), none, none] ?_
    simp only [(id F60), seval, cGrp, cLeg, h1, h2, h3, hj, hat, cEst]
    repeat refine ob ?_
    refine awX ?_
    simp only [(id F60), seval]
    simp [exB, hj, hgd, h1, h2, h3]
   refine awD (scT 0 30 .nil) [none, none, none, none, some (8, true), some (8, true), some (8, true), some (8, true), some (8, true), some (8, true), none, none, some (16, true), some (16, true), some (16, true), none, none, some (21, true), some (21, true), some (21, true), some (21, true), some (21, true), some (21, true), some (21, true), some (21, true), some (21, true), some (21, true), some (21, true), none, none] ?_
   simp only [(id F60), seval, cGrp, cLeg, h1, h2, h3]
   repeat refine ob ?_
   refine awX ?_
   simp only [(id F60), seval]
   simp [exB, h1, h2, h3]
  refine awD (scT 0 30 .nil) [none, none, none, none, some (8, true), some (8, true), some (8, true), some (8, true), some (8, true), some (8, true), none, none, some (16, true), some (16, true), some (16, true), none, none, some (21, true), some (21, true), some (21, true), some (21, true), some (21, true), some (21, true), some (21, true), some (21, true), some (21, true), some (21, true), some (21, true), none, none] ?_
  simp only [(id F60), seval, cGrp, cLeg, h1, h2]
  repeat refine ob ?_
  refine awX ?_
  simp only [(id F60), seval]
  simp [exB, h1, h2]
 refine awD (scT 0 30 .nil) [none, none, none, none, some (8, true), some (8, true), some (8, true), some (8, true), some (8, true), some (8, true), none, none, some (16, true), some (16, true), some (16, true), none, none, some (21, true), some (21, true), some (21, true), some (21, true), some (21, true), some (21, true), some (21, true), some (21, true), some (21, true), some (21, true), some (21, true), none, none] ?_
 simp only [(id F60), seval, cGrp, cLeg, h1]
 repeat refine ob ?_
 refine awX ?_
 simp only [(id F60), seval]
 simp [exB, h1]
def F61 := And.intro zS (And.intro tf133 (And.intro tf134 (And.intro tf135 (And.intro tf136 (And.intro tf137 (And.intro tf138 (And.intro tf139 (And.intro tf18 (And.intro tf12 (tf140))))))))))
set_option maxRecDepth 100000 in
set_option maxHeartbeats 4000000 in
theorem dOpts_A (d : GDisp) (hd : d.opts.length ≤ 1000000 ∧ ∀ x ∈ d.opts, ratOK x.amount) : ACall Tryz.prog 111 [.agg (cDisp d)] (one (.int .i64 (opE d.opts))) := by
 refine acall_of Tryz.func111 rfl (by decide) (N := 33) rfl (by simp) (R := [.tmp 2]) rfl fun en k0 => ?_
 refine awN ?_
 simp only [(id F61), seval, cDisp]
 repeat refine ob ?_
 by_cases h1 : (d.opts.length : Int) = 0
 ·
  refine awN ?_
  simp only [(id F61), seval, cDisp, h1]
  repeat refine ob ?_
  refine awT ?_
  refine awN ?_
  simp only [(id F61), seval, cDisp, h1]
  repeat refine ob ?_
  refine awX ?_
  (first | (simp only [(id F61), seval, cDisp, opE, h1]; done) | (simp only [(id F61), seval, cDisp]; first | (simp [opE, h1]; done)))
 refine awN ?_
 simp only [(id F61), seval, cDisp, h1]
 repeat refine ob ?_
 refine awF ?_
 refine awK ?_
 simp only [(id F61), seval]
 by_cases h2 : (4 : Int) < (d.opts.length : Int)
 ·
  refine awN ?_
  simp only [(id F61), seval, cDisp, h1, h2]
  repeat refine ob ?_
  refine awT ?_
  refine awN ?_
  simp only [(id F61), seval, cDisp, h1, h2]
  repeat refine ob ?_
  refine awX ?_
  (first | (simp only [(id F61), seval, cDisp, opE, h1, h2]; done) | (simp only [(id F61), seval, cDisp]; first | (simp [opE, h1, h2]; done)))
 refine awN ?_
 simp only [(id F61), seval, cDisp, h1, h2]
 repeat refine ob ?_
 refine awF ?_
 refine awK ?_
 simp only [(id F61), seval]
 refine awN ?_
 simp only [(id F61), seval, cDisp, h1, h2]
 repeat refine ob ?_
 refine awp_keep [1, 2, 14, 15, 16] [1] ?_
 try unfold Later
 try simp only [(id F61), seval, cDisp, h1, h2]
 repeat' first|apply awS|apply awB
 refine awp_loopw (fun n st => ∃ i0 nx, i0 ≤ d.opts.length ∧ n = d.opts.length - i0 ∧ opL (d.opts.drop i0) = opL d.opts ∧ st = ⟨mkT [(1, .val (.one (.ptr 1 0 0))), (2, one (.int .i64 0)), (14, .val (.one (.sh 4 d.opts.length (flat cOpt d.opts)))), (15, one (.int .i64 d.opts.length)), (16, one (.int .i64 i0))], mkH [(1, ⟨0, 109, 3, 1, cDisp d⟩)], nx, 0⟩) (d.opts.length) ⟨0, _, by omega, by omega, by rfl, rfl⟩ ?_
 rintro n0 st ⟨i0, nx0, hk0, rfl, hL0, rfl⟩
 by_cases hlt0 : i0 < d.opts.length
 ·
  have hI0 : (i0 : Int) < (d.opts.length : Int) := by omega
  have hat0 := flat_at cOpt_len d.opts i0 hlt0
  try rw [Nat.mul_one] at hat0
  rw [List.drop_eq_getElem_cons hlt0] at hL0
  have hr := hd.2 _ (List.getElem_mem hlt0)
  generalize d.opts[i0] = x at *
  simp only [opL] at hL0
  refine awN ?_
  simp only [(id F61), seval, cDisp, h1, h2, hI0, hat0]
  repeat refine ob ?_
  refine awT ?_
  refine awK ?_
  simp only [(id F61), seval]
  refine awN ?_
  simp only [(id F61), seval, cDisp, h1, h2, hI0, hat0, cOpt]
  repeat refine ob ?_
  by_cases h3 : x.rank < 0
  ·
   refine awR [] [none, none, none, none, some (23, false), some (23, false), some (23, false), none] ?_
   simp only [(id F61), seval, cDisp, h1, h2, hI0, hat0, h3, cOpt]
   repeat refine ob ?_
   refine awT ?_
   refine awN ?_
   simp only [(id F61), seval, cDisp, h1, h2, hI0, hat0, h3]
   repeat refine ob ?_
   refine awX ?_
   (first | (simp only [(id F61), seval, cDisp, opE, h1, h2, hI0, hat0, h3, ← hL0]; done) | (simp only [(id F61), seval, cDisp]; first | (simp [opE, h1, h2, hI0, hat0, h3, ← hL0]; done) | (simp [opE, h1, h2, hI0, hat0, h3]; done) | (rw [← hL0]; simp [opE, h1, h2, hI0, hat0, h3]; done)))
  by_cases h4 : (7 : Int) < x.rank
  ·
   refine awR [] [none, none, none, none, some (23, false), some (23, false), some (23, false), none] ?_
   simp only [(id F61), seval, cDisp, h1, h2, hI0, hat0, h3, h4, cOpt]
   repeat refine ob ?_
   refine awT ?_
   refine awN ?_
   simp only [(id F61), seval, cDisp, h1, h2, hI0, hat0, h3, h4]
   repeat refine ob ?_
   refine awX ?_
   (first | (simp only [(id F61), seval, cDisp, opE, h1, h2, hI0, hat0, h3, h4, ← hL0]; done) | (simp only [(id F61), seval, cDisp]; first | (simp [opE, h1, h2, hI0, hat0, h3, h4, ← hL0]; done) | (simp [opE, h1, h2, hI0, hat0, h3, h4]; done) | (rw [← hL0]; simp [opE, h1, h2, hI0, hat0, h3, h4]; done)))
  refine awR [] [none, none, none, none, some (23, false), some (23, false), some (23, false), none] ?_
  simp only [(id F61), seval, cDisp, h1, h2, hI0, hat0, h3, h4, cOpt]
  repeat refine ob ?_
  refine awF ?_
  refine awK ?_
  simp only [(id F61), seval]
  by_cases h5 : qSgn (qOf x.amount) < 0
  ·
   refine awN ?_
   simp only [(id F61), seval, cDisp, h1, h2, hI0, hat0, h3, h4, h5, cOpt]
   repeat refine ob ?_
   refine ⟨_, (aSign x.amount hr.1 hr.2), rfl, ?_⟩
   try unfold Later
   try simp only [(id F61), seval, cDisp, h1, h2, hI0, hat0, h3, h4, h5, cOpt]
   repeat refine ob ?_
   refine awT ?_
   refine awN ?_
   simp only [(id F61), seval, cDisp, h1, h2, hI0, hat0, h3, h4, h5]
   repeat refine ob ?_
   refine awX ?_
   (first | (simp only [(id F61), seval, cDisp, opE, h1, h2, hI0, hat0, h3, h4, h5, ← hL0]; done) | (simp only [(id F61), seval, cDisp]; first | (simp [opE, h1, h2, hI0, hat0, h3, h4, h5, ← hL0]; done) | (simp [opE, h1, h2, hI0, hat0, h3, h4, h5]; done) | (rw [← hL0]; simp [opE, h1, h2, hI0, hat0, h3, h4, h5]; done)))
  refine awN ?_
  simp only [(id F61), seval, cDisp, h1, h2, hI0, hat0, h3, h4, h5, cOpt]
  repeat refine ob ?_
  refine ⟨_, (aSign x.amount hr.1 hr.2), rfl, ?_⟩
  try unfold Later
  try simp only [(id F61), seval, cDisp, h1, h2, hI0, hat0, h3, h4, h5, cOpt]
  repeat refine ob ?_
  refine awF ?_
  refine awK ?_
  simp only [(id F61), seval]
  refine awN ?_
  simp only [(id F61), seval, cDisp, h1, h2, hI0, hat0, h3, h4, h5]
  repeat refine ob ?_
  repeat refine ob ?_
  refine ⟨_, wk_keep [1, 2, 14, 15, 16] [1], d.opts.length - (i0 + 1), by omega, i0 + 1, ?a24_nx, by omega, rfl, ?i24_0, ?st24⟩
  case st24 => (simp only [(id F61), seval, cDisp, h1, h2, hI0, hat0, h3, h4, h5]; first | rfl | (simp [h1, h2, hI0, hat0, h3, h4, h5, Nat.add_mul]; done))
  case i24_0 => (first | exact hL0 | (rw [← hL0]; simp only [reduceIte, h1, h2, hI0, hat0, h3, h4, h5]; done) | (rw [← hL0]; simp [h1, h2, hI0, hat0, h3, h4, h5]; done) | (simp [h1, h2, hI0, hat0, h3, h4, h5] at hL0; simpa using hL0) | (rw [← hL0]; simp [*]; done))
 obtain rfl : i0 = d.opts.length := by omega
 have hI0 : ¬ (d.opts.length : Int) < (d.opts.length : Int) := by omega
 rw [List.drop_length] at hL0
 simp only [opL] at hL0
 refine awN ?_
 simp only [(id F61), seval, cDisp, h1, h2, hI0]
 repeat refine ob ?_
 refine awF ?_
 refine awQ ?_
 simp only [(id F61), seval]
 refine awN ?_
 simp only [(id F61), seval, cDisp, h1, h2, hI0]
 repeat refine ob ?_
 refine awX ?_
 (first | (simp only [(id F61), seval, cDisp, opE, h1, h2, hI0, ← hL0]; done) | (simp only [(id F61), seval, cDisp]; first | (simp [opE, h1, h2, hI0, ← hL0]; done) | (simp [opE, h1, h2, hI0]; done) | (rw [← hL0]; simp [opE, h1, h2, hI0]; done)))
def F62 := And.intro zS (And.intro tf141 (And.intro tf142 (And.intro tf134 (And.intro tf135 (And.intro tf138 (And.intro tf143 (tf144)))))))
set_option maxRecDepth 100000 in
set_option maxHeartbeats 4000000 in
theorem dCount_A (l : List GDisp) (hl : dispsOK l) : ACall Tryz.prog 57 [.one (.sh 3 l.length (flat cDisp l))] (one (.int .i64 (cnL l 1))) := by
 have hl1 := hl.1
 refine acall_of Tryz.func57 rfl (by decide) (N := 21) rfl (by simp) (R := [.tmp 2]) rfl fun en k0 => ?_
 refine awN ?_
 simp only [(id F62), seval]
 repeat refine ob ?_
 refine awN ?_
 simp only [(id F62), seval]
 repeat refine ob ?_
 refine awN ?_
 simp only [(id F62), seval]
 repeat refine ob ?_
 refine awp_keep [2, 3, 6, 7, 8] [] ?_
 try unfold Later
 try simp only [(id F62), seval]
 repeat' first|apply awS|apply awB
 refine awp_loopw (fun n st => ∃ i0 a nx, i0 ≤ l.length ∧ n = l.length - i0 ∧ cnL (l.drop i0) a = cnL l 1 ∧ 0 ≤ a ∧ a ≤ 4097 ∧ st = ⟨mkT [(2, one (.int .i64 0)), (3, one (.int .i64 a)), (6, .val (.one (.sh 3 l.length (flat cDisp l)))), (7, one (.int .i64 l.length)), (8, one (.int .i64 i0))], mkH [], nx, 0⟩) (l.length) ⟨0, 1, _, by omega, by omega, by rfl, (by first | omega | assumption | rfl | simp | (simp; omega)), (by first | omega | assumption | rfl | simp | (simp; omega)), rfl⟩ ?_
 rintro n0 st ⟨i0, a, nx0, hk0, rfl, hL0, hV0_1, hV0_2, rfl⟩
 by_cases hlt0 : i0 < l.length
 ·skip
  have hI0 : (i0 : Int) < (l.length : Int) := by omega
  have hat0 := flat_at cDisp_len l i0 hlt0
  try rw [Nat.mul_one] at hat0
  rw [List.drop_eq_getElem_cons hlt0] at hL0
  have hd1 := hl.2 _ (List.getElem_mem hlt0)
  have hm0 : 0 ≤ a * min (l[i0].opts.length : Int) 4097 := Int.mul_nonneg hV0_1 (by omega)
  have hm1 : a * min (l[i0].opts.length : Int) 4097 ≤ 4097 * 4097 := Int.mul_le_mul hV0_2 (by omega) (by omega) (by omega)
  generalize l[i0] = d at *
  simp only [cnL] at hL0
  refine awN ?_
  simp only [(id F62), seval, hI0, hat0]
  repeat refine ob ?_
  refine awT ?_
  refine awK ?_
  simp only [(id F62), seval]
  refine awN ?_
  simp only [(id F62), seval, hI0, hat0, cDisp]
  repeat refine ob ?_
  refine awN ?_
  simp only [(id F62), seval, hI0, hat0, cDisp]
  repeat refine ob ?_
  refine awN ?_
  simp only [(id F62), seval, hI0, hat0]
  repeat refine ob ?_
  repeat refine ob ?_
  refine ⟨_, wk_keep [2, 3, 6, 7, 8] [], l.length - (i0 + 1), by omega, i0 + 1, (min (a * min (d.opts.length : Int) 4097) 4097), ?a7_nx, by omega, rfl, ?i7_0, ?i7_1, ?i7_2, ?st7⟩
  case st7 => (simp only [(id F62), seval, hI0, hat0]; first | rfl | (simp [hI0, hat0, Nat.add_mul]; done))
  case i7_0 => (first | exact hL0 | (rw [← hL0]; simp only [reduceIte, hI0, hat0]; done) | (rw [← hL0]; simp [hI0, hat0]; done) | (simp [hI0, hat0] at hL0; simpa using hL0) | (rw [← hL0]; simp [*]; done))
  case i7_1 => (first | omega | assumption | (simp; omega) | (simp_all; done))
  case i7_2 => (first | omega | assumption | (simp; omega) | (simp_all; done))
 skip
 obtain rfl : i0 = l.length := by omega
 have hI0 : ¬ (l.length : Int) < (l.length : Int) := by omega
 rw [List.drop_length] at hL0
 simp only [cnL] at hL0
 refine awN ?_
 simp only [(id F62), seval, hI0]
 repeat refine ob ?_
 refine awF ?_
 refine awQ ?_
 simp only [(id F62), seval]
 refine awN ?_
 simp only [(id F62), seval, hI0]
 repeat refine ob ?_
 refine awX ?_
 (first | (simp only [(id F62), seval, hI0, ← hL0]; done) | (simp only [(id F62), seval]; first | (simp [hI0, ← hL0]; done) | (simp [hI0]; done) | (rw [← hL0]; simp [hI0]; done)))
end Go.Proofs.YtokmkopihhnggaaGreatDoor
