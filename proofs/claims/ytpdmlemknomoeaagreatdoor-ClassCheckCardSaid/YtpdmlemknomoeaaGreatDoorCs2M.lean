/- Classes: Form on both sides; lists that are equal compared; walked by the abstract machine. -/
import Derived.Test.YtpdmlemknomoeaaGreatDoorCs1M
import Derived.Test.YtpdmlemknomoeaaGreatDoorAbYM
set_option linter.unusedVariables false
set_option linter.unusedSimpArgs false
set_option linter.defProp false
set_option linter.unnecessarySimpa false
/- Classes: Form on both sides; lists that are equal compared; walked by the abstract machine. -/
namespace Go.Proofs.YtpdmlemknomoeaaGreatDoor
open Go Go.RowKit
theorem blN_step (e : GEst) (i r : Int) (lim : GRat) (out : List GCls) (q : Nat) (h : q < 2) : blN e i r lim out (q + 1) = addCl (blN e i r lim out q) (fmS e i r (decide (q = 0)) lim) := by
  have : q = 0 ∨ q = 1 := by omega
  rcases this with rfl | rfl <;> rfl
def fmR (c : Int) (l : List GCls) : AV := .tup [.one (.sh 4 l.length (flat cCls l)), .one (.lit (.int .i64 c))]
def F_cFo := And.intro zS (And.intro tf67 (And.intro tf15 (And.intro tf68 (And.intro tf17 (And.intro tf7 (And.intro tf61 (And.intro tf20 (And.intro tf24 (And.intro tf62 (And.intro tf63 (And.intro tf58 (And.intro tf30 (And.intro tf32 (And.intro tf39 (And.intro tf69 (And.intro tf66 (tf60)))))))))))))))))
set_option maxRecDepth 100000 in
set_option maxHeartbeats 4000000 in
theorem cForms_A (g : GGrp) (lim : GRat) (hlim : bigOK lim) (hg : grpOK g) (hng : g.ests.length ≤ 1000000) (hcl : ∀ e ∈ g.ests, e.claims.length ≤ 1000000 ∧ ∀ c ∈ e.claims, bigOK c.amount) : ACall Tryz.prog 42 [.agg (cGrp g), .agg (cRat lim)] (fmR (foC (gcSpec g) lim g) (foL (gcSpec g) lim g)) := by
 refine acall_of Tryz.func42 rfl (by decide) (N := 55) rfl (by simp) (R := [.tmp 4, .tmp 5]) rfl fun en k0 => ?_
 refine awR [] [none, none, none, none] ?_
 simp only [(id F_cFo), seval, cGrp, cRat]
 repeat refine ob ?_
 have hG := gCheck_A g hg
 refine awR [] [none, none, none] ?_
 simp only [(id F_cFo), seval, cGrp, cRat, flat_pure cEst_pure, flat_pure cDebt_pure]
 repeat refine ob ?_
 refine ⟨_, hG, (by first | rfl | simp [allA, pure1, pureCs, pureC, A1.cells, cCls_pure, flat_pure cI_pure]), ?_⟩
 try unfold Later
 try simp only [(id F_cFo), seval, cGrp, cRat, flat_pure cEst_pure, flat_pure cDebt_pure]
 repeat refine ob ?_
 by_cases hg0 : gcSpec g = 0
 ·
  refine awR [] [none, none] ?_
  simp only [(id F_cFo), seval, cGrp, cRat, hg0]
  repeat refine ob ?_
  refine awF ?_
  refine awK ?_
  simp only [(id F_cFo), seval]
  refine awR [] [none] ?_
  simp only [(id F_cFo), seval, cGrp, cRat, hg0]
  repeat refine ob ?_
  refine awR [] [none, none, none, none] ?_
  simp only [(id F_cFo), seval, cGrp, cRat, hg0]
  repeat refine ob ?_
  refine awp_nil 7 47 58 4 (by decide) (by rfl) ?_
  refine awp_keep [2, 3, 7, 20, 21, 22] [2, 3, 47] ?_
  try unfold Later
  try simp only [(id F_cFo), seval, cGrp, cRat, hg0]
  repeat' first|apply awS|apply awB
  refine awp_loopw (fun n st => ∃ i0 out s nx, i0 ≤ g.ests.length ∧ n = g.ests.length - i0 ∧ foE lim (g.ests.drop i0) i0 out = foE lim g.ests 0 [] ∧ out.length ≤ 16 * i0 ∧ st = ⟨mkT [(2, .val (.one (.ptr 2 0 0))), (3, .val (.one (.ptr 3 1 0))), (7, .val (.one (.own 47 s (out).length 4))), (20, .val (.one (.sh 5 g.ests.length (flat cEst g.ests)))), (21, one (.int .i64 g.ests.length)), (22, one (.int .i64 i0))], mkH [(2, ⟨0, 27, 2, 1, cGrp g⟩), (3, ⟨1, 38, 3, 1, cRat lim⟩), (47, ⟨s, 58, 4, (out).length, flat cCls (out)⟩)], nx, 0⟩) (g.ests.length) ⟨0, [], _, _, by omega, by omega, by rfl, (by first | omega | assumption | rfl | simp | (simp; omega)), rfl⟩ ?_
  rintro n0 st ⟨i0, out, s, nx0, hk0, rfl, hL0, hV0_1, rfl⟩
  by_cases hlt0 : i0 < g.ests.length
  ·
   have hI0 : (i0 : Int) < (g.ests.length : Int) := by omega
   have hat0 := flat_at cEst_len g.ests i0 hlt0
   try rw [Nat.mul_one] at hat0
   rw [List.drop_eq_getElem_cons hlt0] at hL0
   have hce := hcl g.ests[i0] (List.getElem_mem hlt0)
   have hr8 := rkN_len g.ests[i0] i0 lim out 8
   generalize g.ests[i0] = e at *
   simp only [foE] at hL0
   refine awR [] [none] ?_
   simp only [(id F_cFo), seval, cGrp, cRat, hg0, hI0, hat0, cEst]
   repeat refine ob ?_
   refine awT ?_
   refine awK ?_
   simp only [(id F_cFo), seval]
   refine awR [] [none, none, none, none, none, none] ?_
   simp only [(id F_cFo), seval, cGrp, cRat, hg0, hI0, hat0, cEst]
   repeat refine ob ?_
   refine awR [] [none] ?_
   simp only [(id F_cFo), seval, cGrp, cRat, hg0, hI0, hat0, cEst]
   repeat refine ob ?_
   refine awp_keep [2, 3, 7, 8, 9, 20, 21, 22, 27] [2, 3, 9, 47] ?_
   try unfold Later
   try simp only [(id F_cFo), seval, cGrp, cRat, hg0, hI0, hat0, cEst]
   repeat' first|apply awS|apply awB
   refine awp_loopw (fun n st => ∃ r s nx, r ≤ 8 ∧ n = 8 - r ∧ st = ⟨mkT [(2, .val (.one (.ptr 2 0 0))), (3, .val (.one (.ptr 3 1 0))), (7, .val (.one (.own 47 s (rkN e i0 lim out r).length 4))), (8, one (.int .i64 i0)), (9, .val (.one (.ptr 9 nx0 0))), (20, .val (.one (.sh 5 g.ests.length (flat cEst g.ests)))), (21, one (.int .i64 g.ests.length)), (22, one (.int .i64 i0)), (27, one (.int .i64 r))], mkH [(2, ⟨0, 27, 2, 1, cGrp g⟩), (3, ⟨1, 38, 3, 1, cRat lim⟩), (9, ⟨nx0, 68, 5, 1, cEst e⟩), (47, ⟨s, 58, 4, (rkN e i0 lim out r).length, flat cCls (rkN e i0 lim out r)⟩)], nx, 0⟩) (8) ⟨0, _, _, by omega, by omega, rfl⟩ ?_
   rintro n1 st ⟨r, s, nx1, hr, rfl, rfl⟩
   by_cases hlt1 : (r : Int) < 8
   ·
    refine awR [] [none] ?_
    simp only [(id F_cFo), seval, cGrp, cRat, hg0, hI0, hat0, cEst, hlt1]
    repeat refine ob ?_
    refine awT ?_
    refine awK ?_
    simp only [(id F_cFo), seval]
    refine awR [] [none, none] ?_
    simp only [(id F_cFo), seval, cGrp, cRat, hg0, hI0, hat0, cEst, hlt1]
    repeat refine ob ?_
    repeat' first|apply awS|apply awB
    refine awp_const (I := []) (gs := [none]) (v := .agg #[.bool true, .bool false]) (x := .val (.agg [.lit (.bool true), .lit (.bool false)])) (d := 30) (by rfl) (by kernel_rfl) (by decide) (by rfl) (by decide) (fun a w => by kernel_rfl) (fun κ => ⟨[.bool true, .bool false], rfl, ⟨rfl, rfl⟩, ⟨rfl, rfl⟩, trivial⟩) ?_
    simp only [(id F_cFo), seval]
    repeat refine ob ?_
    refine awp_keep [2, 3, 7, 8, 9, 20, 21, 22, 27, 10, 30, 31] [2, 3, 9, 47] ?_
    try unfold Later
    try simp only [(id F_cFo), seval, cGrp, cRat, hg0, hI0, hat0, cEst, hlt1]
    repeat' first|apply awS|apply awB
    refine awp_loopw (fun n st => ∃ q s nx, q ≤ 2 ∧ n = 2 - q ∧ st = ⟨mkT [(2, .val (.one (.ptr 2 0 0))), (3, .val (.one (.ptr 3 1 0))), (7, .val (.one (.own 47 s (blN e i0 r lim (rkN e i0 lim out r) q).length 4))), (8, one (.int .i64 i0)), (9, .val (.one (.ptr 9 nx0 0))), (20, .val (.one (.sh 5 g.ests.length (flat cEst g.ests)))), (21, one (.int .i64 g.ests.length)), (22, one (.int .i64 i0)), (27, one (.int .i64 r)), (10, one (.int .i64 r)), (30, .val (.agg [.lit (.bool true), .lit (.bool false)])), (31, one (.int .i64 q))], mkH [(2, ⟨0, 27, 2, 1, cGrp g⟩), (3, ⟨1, 38, 3, 1, cRat lim⟩), (9, ⟨nx0, 68, 5, 1, cEst e⟩), (47, ⟨s, 58, 4, (blN e i0 r lim (rkN e i0 lim out r) q).length, flat cCls (blN e i0 r lim (rkN e i0 lim out r) q)⟩)], nx, 0⟩) (2) ⟨0, _, _, by omega, by omega, rfl⟩ ?_
    rintro n2 st ⟨q, s, nx2, hq, rfl, rfl⟩
    by_cases hlt2 : (q : Int) < 2
    ·
     refine awR [] [none] ?_
     simp only [(id F_cFo), seval, cGrp, cRat, hg0, hI0, hat0, cEst, hlt1, hlt2]
     repeat refine ob ?_
     refine awT ?_
     refine awK ?_
     simp only [(id F_cFo), seval]
     have hbq : [C.lit (.bool true), C.lit (.bool false)][q]? = some (.lit (.bool (decide (q = 0)))) := by
       have : q = 0 ∨ q = 1 := by omega
       rcases this with rfl | rfl <;> rfl
     refine awR [] [none, none] ?_
     simp only [(id F_cFo), seval, cGrp, cRat, hg0, hI0, hat0, cEst, hlt1, hlt2, hbq]
     repeat refine ob ?_
     obtain ⟨sm, hsm⟩ : ∃ sm, sm = decide (q = 0) := ⟨_, rfl⟩
     simp only [← hsm]
     have hq2 : q < 2 := by omega
     have hF := cForm_A e i0 r sm lim hlim hce.1 hce.2
     obtain ⟨c, hcg⟩ : ∃ c, fmS e (i0 : Int) (r : Int) sm lim = c := ⟨_, rfl⟩
     rw [hcg] at hF
     have hbl := blN_len e i0 r lim (rkN e i0 lim out r) q
     have hrl := rkN_len e i0 lim out r
     refine awR [] [none, none, none, none, none, none, none, none] ?_
     simp only [(id F_cFo), seval, cGrp, cRat, hg0, hI0, hat0, cEst, hlt1, hlt2, cCls, flat_pure cClaim_pure, flat_pure cAgr_pure, flat_pure cI_pure]
     repeat refine ob ?_
     refine ⟨_, hF, (by first | rfl | simp [allA, pure1, pureCs, pureC, A1.cells, cCls_pure, flat_pure cI_pure]), ?_⟩
     try unfold Later
     try simp only [(id F_cFo), seval, cGrp, cRat, hg0, hI0, hat0, cEst, hlt1, hlt2, cCls, flat_pure cClaim_pure, flat_pure cAgr_pure, flat_pure cI_pure]
     repeat refine ob ?_
     by_cases hp : (0 : Int) < (c.claims.length : Int)
     ·
      refine awR [] [none, none, none, none] ?_
      simp only [(id F_cFo), seval, cGrp, cRat, hg0, hI0, hat0, cEst, hlt1, hlt2, hp]
      repeat refine ob ?_
      refine awT ?_
      refine awR [] [none, none, none, none, none] ?_
      simp only [(id F_cFo), seval, cGrp, cRat, hg0, hI0, hat0, cEst, hlt1, hlt2, hp, cCls]
      repeat refine ob ?_
      refine awR [] [none, none] ?_
      simp only [(id F_cFo), seval, cGrp, cRat, hg0, hI0, hat0, cEst, hlt1, hlt2, hp]
      repeat refine ob ?_
      repeat refine ob ?_
      have hb : blN e i0 r lim (rkN e i0 lim out r) (q + 1) = blN e i0 r lim (rkN e i0 lim out r) q ++ [c] := by rw [blN_step e i0 r lim _ q hq2, ← hsm, hcg]; unfold addCl; rw [if_pos hp]
      refine ⟨_, wk_keep [2, 3, 7, 8, 9, 20, 21, 22, 27, 10, 30, 31] [2, 3, 9, 47], 2 - (q + 1), by omega, q + 1, ?sa18, ?na18, by omega, rfl, ?st18⟩
      case st18 => (simp only [(id F_cFo), seval, hb, flat_snoc, cCls, List.length_append, List.length_cons, List.length_nil]; first | rfl | (simp; done))
     refine awR [] [none, none, none, none] ?_
     simp only [(id F_cFo), seval, cGrp, cRat, hg0, hI0, hat0, cEst, hlt1, hlt2, hp]
     repeat refine ob ?_
     refine awF ?_
     refine awK ?_
     simp only [(id F_cFo), seval]
     refine awR [] [none, none] ?_
     simp only [(id F_cFo), seval, cGrp, cRat, hg0, hI0, hat0, cEst, hlt1, hlt2, hp]
     repeat refine ob ?_
     repeat refine ob ?_
     have hb : blN e i0 r lim (rkN e i0 lim out r) (q + 1) = blN e i0 r lim (rkN e i0 lim out r) q := by rw [blN_step e i0 r lim _ q hq2, ← hsm, hcg]; unfold addCl; rw [if_neg hp]
     refine ⟨_, wk_keep [2, 3, 7, 8, 9, 20, 21, 22, 27, 10, 30, 31] [2, 3, 9, 47], 2 - (q + 1), by omega, q + 1, ?sa21, ?na21, by omega, rfl, ?st21⟩
     case st21 => (simp only [(id F_cFo), seval, hb, flat_snoc, cCls, List.length_append, List.length_cons, List.length_nil]; first | rfl | (simp; done))
    refine awR [] [none] ?_
    simp only [(id F_cFo), seval, cGrp, cRat, hg0, hI0, hat0, cEst, hlt1, hlt2]
    repeat refine ob ?_
    refine awF ?_
    refine awQ ?_
    simp only [(id F_cFo), seval]
    obtain rfl : q = 2 := by omega
    refine awR [] [none, none] ?_
    simp only [(id F_cFo), seval, cGrp, cRat, hg0, hI0, hat0, cEst, hlt1, hlt2]
    repeat refine ob ?_
    repeat refine ob ?_
    have hr1 : rkN e i0 lim out (r + 1) = blN e i0 r lim (rkN e i0 lim out r) 2 := rfl
    refine ⟨_, wk_keep [2, 3, 7, 8, 9, 20, 21, 22, 27] [2, 3, 9, 47], 8 - (r + 1), by omega, r + 1, ?sa24, ?na24, by omega, rfl, ?st24⟩
    case st24 => (simp only [(id F_cFo), seval, hr1]; first | rfl | (simp; done))
   refine awR [] [none] ?_
   simp only [(id F_cFo), seval, cGrp, cRat, hg0, hI0, hat0, cEst, hlt1]
   repeat refine ob ?_
   refine awF ?_
   refine awQ ?_
   simp only [(id F_cFo), seval]
   obtain rfl : r = 8 := by omega
   refine awR [] [none, none] ?_
   simp only [(id F_cFo), seval, cGrp, cRat, hg0, hI0, hat0, cEst, hlt1]
   repeat refine ob ?_
   repeat refine ob ?_
   refine ⟨_, wk_keep [2, 3, 7, 20, 21, 22] [2, 3, 47], g.ests.length - (i0 + 1), by omega, i0 + 1, (rkN e i0 lim out 8), ?a26_s, ?a26_nx, by omega, rfl, ?i26_0, ?i26_1, ?st26⟩
   case st26 => (simp only [(id F_cFo), seval, cGrp, cRat, hg0, hI0, hat0, cEst, hlt1]; first | rfl | (simp [hg0, hI0, hat0, cEst, hlt1, Nat.add_mul]; done))
   case i26_0 => (first | exact hL0 | (rw [← hL0]; simp only [reduceIte, hg0, hI0, hat0, cEst, hlt1]; done) | (rw [← hL0]; simp [hg0, hI0, hat0, cEst, hlt1]; done) | (simp [hg0, hI0, hat0, cEst, hlt1] at hL0; simpa using hL0) | (rw [← hL0]; simp [*]; done))
   case i26_1 => (first | omega | assumption | (simp; omega) | (simp_all; done))
  obtain rfl : i0 = g.ests.length := by omega
  have hI0 : ¬ (g.ests.length : Int) < (g.ests.length : Int) := by omega
  rw [List.drop_length] at hL0
  simp only [foE] at hL0
  refine awR [] [none] ?_
  simp only [(id F_cFo), seval, cGrp, cRat, hg0, hI0]
  repeat refine ob ?_
  refine awF ?_
  refine awQ ?_
  simp only [(id F_cFo), seval]
  by_cases h64 : (64 : Int) < (out.length : Int)
  ·
   refine awR [] [none, none, none] ?_
   simp only [(id F_cFo), seval, cGrp, cRat, hg0, hI0, h64]
   repeat refine ob ?_
   refine awT ?_
   refine awR [] [none, none] ?_
   simp only [(id F_cFo), seval, cGrp, cRat, hg0, hI0, h64]
   repeat refine ob ?_
   refine awp_nil 4 48 58 4 (by decide) (by rfl) ?_
   refine awX ?_
   simp only [(id F_cFo), seval, pureCs, flat_pure cCls_pure]
   simp [fmR, foC, foL, hg0, flat_nil, ← hL0, h64]
  refine awR [] [none, none, none] ?_
  simp only [(id F_cFo), seval, cGrp, cRat, hg0, hI0, h64]
  repeat refine ob ?_
  refine awF ?_
  refine awK ?_
  simp only [(id F_cFo), seval]
  refine awR [] [none, none, none] ?_
  simp only [(id F_cFo), seval, cGrp, cRat, hg0, hI0, h64]
  repeat refine ob ?_
  refine awX ?_
  simp only [(id F_cFo), seval, flat_pure cCls_pure]
  simp [fmR, foC, foL, hg0, ← hL0, h64]
 refine awR [] [none, none] ?_
 simp only [(id F_cFo), seval, cGrp, cRat, hg0]
 repeat refine ob ?_
 refine awT ?_
 refine awR [] [none, none, none] ?_
 simp only [(id F_cFo), seval, cGrp, cRat, hg0]
 repeat refine ob ?_
 refine awp_nil 4 48 58 4 (by decide) (by rfl) ?_
 refine awX ?_
 simp only [(id F_cFo), seval]
 simp [fmR, foC, foL, hg0, flat_nil]
def F_rSI := And.intro zS (And.intro tf41 (And.intro tf7 (tf12)))
set_option maxRecDepth 100000 in
set_option maxHeartbeats 4000000 in
theorem SameInts_yes (l : List Int) (hl : l.length ≤ 1000000000000) : ACall Tryz.prog 76 [.one (.sh 1 l.length (flat cI l)), .one (.sh 1 l.length (flat cI l))] (one (.bool true)) := by
 refine acall_of Tryz.func76 rfl (by decide) (N := 26) rfl (by simp) (R := [.tmp 4]) rfl fun en k0 => ?_
 refine awR [] [none] ?_
 simp only [(id F_rSI), seval]
 repeat refine ob ?_
 refine awR [] [none, none, none, none, none] ?_
 simp only [(id F_rSI), seval, decide_true, Bool.not_true]
 repeat refine ob ?_
 refine awF ?_
 refine awK ?_
 simp only [(id F_rSI), seval]
 refine awR [] [none] ?_
 simp only [(id F_rSI), seval]
 repeat refine ob ?_
 refine awp_keep [0, 1, 5] [] ?_
 try unfold Later
 try simp only [(id F_rSI), seval]
 repeat' first|apply awS|apply awB
 refine awp_loopw (fun n st => ∃ k nx, k ≤ l.length ∧ n = l.length - k ∧ st = ⟨mkT [(0, .val (.one (.sh 1 l.length (flat cI l)))), (1, .val (.one (.sh 1 l.length (flat cI l)))), (5, one (.int .i64 k))], mkH [], nx, 0⟩) (l.length) ⟨0, _, by omega, by omega, rfl⟩ ?_
 rintro n0 st ⟨k, nx0, hk, rfl, rfl⟩
 by_cases hlt : (k : Int) < (l.length : Int)
 ·
  refine awR [] [none, none, none, none] ?_
  simp only [(id F_rSI), seval, hlt]
  repeat refine ob ?_
  refine awT ?_
  refine awK ?_
  simp only [(id F_rSI), seval]
  have hk2 : k < l.length := by omega
  have hat := flat_at cI_len l k hk2
  try rw [Nat.mul_one] at hat
  refine awD (scq [1, 3, 5, 7, 9, 11, 13, 15, 17] .nil) [none, none, none, none, none, none, none, none, none] ?_
  simp only [(id F_rSI), seval, hlt, hat, cI, decide_true, Bool.not_true, BEq.rfl]
  repeat refine ob ?_
  refine awF ?_
  refine awK ?_
  simp only [(id F_rSI), seval]
  refine awR [] [none, none, none] ?_
  simp only [(id F_rSI), seval, hlt]
  repeat refine ob ?_
  repeat refine ob ?_
  refine ⟨_, wk_keep [0, 1, 5] [], l.length - (k + 1), by omega, k + 1, ?na, by omega, rfl, ?st⟩
  case st => (simp only [(id F_rSI), seval]; first | rfl | (simp; done))
 refine awR [] [none, none, none, none] ?_
 simp only [(id F_rSI), seval, hlt]
 repeat refine ob ?_
 refine awF ?_
 refine awQ ?_
 simp only [(id F_rSI), seval]
 refine awR [] [none] ?_
 simp only [(id F_rSI), seval, hlt]
 repeat refine ob ?_
 refine awX ?_
 (first | (simp only [(id F_rSI), seval, hlt]; done) | (simp only [(id F_rSI), seval]; first | (simp [hlt]; done)))
def F_rSC := And.intro zS (And.intro tf70 (And.intro tf68 (And.intro tf71 (And.intro tf72 (And.intro tf73 (And.intro tf61 (And.intro tf62 (And.intro tf39 (And.intro tf12 (tf65))))))))))
set_option maxRecDepth 100000 in
set_option maxHeartbeats 4000000 in
theorem SameClasses_yes (l : List GCls) (hl : l.length ≤ 1000000000000) (hc : ∀ c ∈ l, c.claims.length ≤ 1000000000000) : ACall Tryz.prog 43 [.one (.sh 4 l.length (flat cCls l)), .one (.sh 4 l.length (flat cCls l))] (one (.bool true)) := by
 refine acall_of Tryz.func43 rfl (by decide) (N := 68) rfl (by simp) (R := [.tmp 4]) rfl fun en k0 => ?_
 refine awR [] [none] ?_
 simp only [(id F_rSC), seval]
 repeat refine ob ?_
 refine awR [] [none, none, none, none, none] ?_
 simp only [(id F_rSC), seval, decide_true, Bool.not_true]
 repeat refine ob ?_
 refine awF ?_
 refine awK ?_
 simp only [(id F_rSC), seval]
 refine awR [] [none] ?_
 simp only [(id F_rSC), seval]
 repeat refine ob ?_
 refine awp_keep [0, 1, 5] [] ?_
 try unfold Later
 try simp only [(id F_rSC), seval]
 repeat' first|apply awS|apply awB
 refine awp_loopw (fun n st => ∃ k nx, k ≤ l.length ∧ n = l.length - k ∧ st = ⟨mkT [(0, .val (.one (.sh 4 l.length (flat cCls l)))), (1, .val (.one (.sh 4 l.length (flat cCls l)))), (5, one (.int .i64 k))], mkH [], nx, 0⟩) (l.length) ⟨0, _, by omega, by omega, rfl⟩ ?_
 rintro n0 st ⟨k, nx0, hk, rfl, rfl⟩
 by_cases hlt : (k : Int) < (l.length : Int)
 ·
  refine awR [] [none, none, none, none] ?_
  simp only [(id F_rSC), seval, hlt]
  repeat refine ob ?_
  refine awT ?_
  refine awK ?_
  simp only [(id F_rSC), seval]
  have hk2 : k < l.length := by omega
  have hat := flat_at cCls_len l k hk2
  try rw [Nat.mul_one] at hat
  have hSI := SameInts_yes l[k].claims (hc _ (List.getElem_mem hk2))
  refine awD (scq [1, 3, 5, 7, 9, 11, 13, 15, 17, 19, 21, 23, 25, 27, 29, 31, 33, 35, 37, 39, 41, 43, 45, 47, 49, 51, 53, 55, 57, 59, 61, 63, 65, 67, 69, 71, 73, 75, 77, 79, 81, 83, 85, 87, 89, 91, 93, 95, 96, 99, 101] .nil) [none, none, none, none, none, none, none, none, none, none, none, none, some (28, false), some (28, false), some (28, false), some (28, false), some (28, false), some (28, false), some (28, false), some (28, false), some (28, false), some (28, false), some (28, false), none, none, some (41, false), some (41, false), some (41, false), some (41, false), some (41, false), some (41, false), some (41, false), some (41, false), some (41, false), some (41, false), some (41, false), none, none, some (54, false), some (54, false), some (54, false), some (54, false), some (54, false), some (54, false), some (54, false), some (54, false), some (54, false), some (54, false), some (54, false), some (54, false), none] ?_
  simp only [(id F_rSC), seval, hlt, hat, cCls, decide_true, Bool.not_true, BEq.rfl, flat_pure cI_pure]
  repeat refine ob ?_
  refine ⟨_, hSI, (by first | rfl | simp [allA, pure1, pureCs, pureC, A1.cells, flat_pure cI_pure]), ?_⟩
  try unfold Later
  try simp only [(id F_rSC), seval, hlt, hat, cCls, decide_true, Bool.not_true, BEq.rfl, flat_pure cI_pure]
  repeat refine ob ?_
  refine awF ?_
  refine awK ?_
  simp only [(id F_rSC), seval]
  refine awR [] [none, none, none] ?_
  simp only [(id F_rSC), seval, hlt]
  repeat refine ob ?_
  repeat refine ob ?_
  refine ⟨_, wk_keep [0, 1, 5] [], l.length - (k + 1), by omega, k + 1, ?na, by omega, rfl, ?st⟩
  case st => (simp only [(id F_rSC), seval]; first | rfl | (simp; done))
 refine awR [] [none, none, none, none] ?_
 simp only [(id F_rSC), seval, hlt]
 repeat refine ob ?_
 refine awF ?_
 refine awQ ?_
 simp only [(id F_rSC), seval]
 refine awR [] [none] ?_
 simp only [(id F_rSC), seval, hlt]
 repeat refine ob ?_
 refine awX ?_
 (first | (simp only [(id F_rSC), seval, hlt]; done) | (simp only [(id F_rSC), seval]; first | (simp [hlt]; done)))
end Go.Proofs.YtpdmlemknomoeaaGreatDoor
