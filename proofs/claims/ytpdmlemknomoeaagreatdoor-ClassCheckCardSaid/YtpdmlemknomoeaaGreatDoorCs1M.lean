/- Classes: eligible, form, on both sides; walked by the abstract machine. -/
import Derived.Test.YtpdmlemknomoeaaGreatDoorRw6M
import Derived.Test.YtpdmlemknomoeaaGreatDoorAbTM
set_option linter.unusedVariables false
set_option linter.unusedSimpArgs false
set_option linter.defProp false
set_option linter.unnecessarySimpa false
section
/- Classes: eligible, form, on both sides; walked by the abstract machine. -/
namespace Go.Proofs.YtpdmlemknomoeaaGreatDoor
open Go Go.RowKit
structure GCls where
  est : Int
  rank : Int
  small : Bool
  claims : List Int
def cCls (x : GCls) : List C := [.lit (.int .i64 x.est), .lit (.int .i64 x.rank), .lit (.bool x.small), .sh 1 x.claims.length (flat cI x.claims)]
theorem cCls_len (x : GCls) : (cCls x).length = 4 := rfl
theorem cCls_pure (x : GCls) : pureCs (cCls x) = true := by simp [cCls, pureCs, pureC, flat_pure cI_pure]
noncomputable def elB (c : GClaim) : Bool := if c.holder = -1 then decide (0 < qSgn (qOf c.amount)) else false
noncomputable def pkB (rank : Int) (small : Bool) (lim : GRat) (c : GClaim) : Bool := if elB c = true then (if c.rank = rank then (decide (qCmp (qOf c.amount) (qOf lim) ≤ 0) == small) else false) else false
noncomputable def fmL (rank : Int) (small : Bool) (lim : GRat) : List GClaim → Nat → List Int → List Int
  | [], _, out => out
  | c :: l, k, out => fmL rank small lim l (k + 1) (if pkB rank small lim c = true then out ++ [(k : Int)] else out)
noncomputable def fmS (e : GEst) (i rank : Int) (small : Bool) (lim : GRat) : GCls := ⟨i, rank, small, fmL rank small lim e.claims 0 []⟩
def bigOK (r : GRat) : Prop := sB 100000 r
theorem bigOK_rat {r : GRat} (h : bigOK r) : ratOK r := ⟨by have := h.1; omega, by have := h.2; omega⟩
theorem fmL_len (rank : Int) (small : Bool) (lim : GRat) : ∀ (l : List GClaim) (k : Nat) (out : List Int), (fmL rank small lim l k out).length ≤ out.length + l.length
  | [], _, _ => by simp [fmL]
  | c :: l, k, out => by
    simp only [fmL]
    have := fmL_len rank small lim l (k + 1) (if pkB rank small lim c = true then out ++ [(k : Int)] else out)
    split at this <;> simp_all <;> omega
def F_cEl := And.intro zS (And.intro tf18 (And.intro tf44 (And.intro tf32 (tf12))))
set_option maxRecDepth 100000 in
set_option maxHeartbeats 4000000 in
theorem cElig_A (c : GClaim) (hc : ratOK c.amount) : ACall Tryz.prog 47 [.agg (cClaim c)] (one (.bool (elB c))) := by
 refine acall_of Tryz.func47 rfl (by decide) (N := 12) rfl (by simp) (R := [.tmp 2]) rfl fun en k0 => ?_
 refine awR [] [none, none] ?_
 simp only [(id F_cEl), seval, cClaim]
 repeat refine ob ?_
 by_cases h1 : c.holder = -1
 ·
  refine awR [] [none, none, none, none, some (6, true), some (6, true), some (6, true), some (6, true), none, none] ?_
  simp only [(id F_cEl), seval, cClaim, h1]
  repeat refine ob ?_
  refine ⟨_, (aSign c.amount hc.1 hc.2), rfl, ?_⟩
  try unfold Later
  try simp only [(id F_cEl), seval, cClaim, h1]
  repeat refine ob ?_
  refine awX ?_
  (first | (simp only [(id F_cEl), seval, cClaim, elB, h1]; done) | (simp only [(id F_cEl), seval, cClaim]; first | (simp [elB, h1]; done)))
 refine awR [] [none, none, none, none, some (6, true), some (6, true), some (6, true), some (6, true), none, none] ?_
 simp only [(id F_cEl), seval, cClaim, h1]
 repeat refine ob ?_
 refine awX ?_
 (first | (simp only [(id F_cEl), seval, cClaim, elB, h1]; done) | (simp only [(id F_cEl), seval, cClaim]; first | (simp [elB, h1]; done)))
def F_rEl := And.intro zS (And.intro tf18 (And.intro tf44 (And.intro tf32 (tf12))))
set_option maxRecDepth 100000 in
set_option maxHeartbeats 4000000 in
theorem rElig_A (c : GClaim) (hc : ratOK c.amount) : ACall Tryz.prog 49 [.agg (cClaim c)] (one (.bool (elB c))) := by
 refine acall_of Tryz.func49 rfl (by decide) (N := 12) rfl (by simp) (R := [.tmp 2]) rfl fun en k0 => ?_
 refine awR [] [none, none] ?_
 simp only [(id F_rEl), seval, cClaim]
 repeat refine ob ?_
 by_cases h1 : c.holder = -1
 ·
  refine awR [] [none, none, none, none, some (6, true), some (6, true), some (6, true), some (6, true), none, none] ?_
  simp only [(id F_rEl), seval, cClaim, h1]
  repeat refine ob ?_
  refine ⟨_, (bSign c.amount hc.1 hc.2), rfl, ?_⟩
  try unfold Later
  try simp only [(id F_rEl), seval, cClaim, h1]
  repeat refine ob ?_
  refine awX ?_
  (first | (simp only [(id F_rEl), seval, cClaim, elB, h1]; done) | (simp only [(id F_rEl), seval, cClaim]; first | (simp [elB, h1]; done)))
 refine awR [] [none, none, none, none, some (6, true), some (6, true), some (6, true), some (6, true), none, none] ?_
 simp only [(id F_rEl), seval, cClaim, h1]
 repeat refine ob ?_
 refine awX ?_
 (first | (simp only [(id F_rEl), seval, cClaim, elB, h1]; done) | (simp only [(id F_rEl), seval, cClaim]; first | (simp [elB, h1]; done)))
def F_cFm := And.intro zS (And.intro tf14 (And.intro tf16 (And.intro tf7 (And.intro tf43 (And.intro tf44 (And.intro tf61 (And.intro tf19 (And.intro tf23 (And.intro tf62 (And.intro tf49 (And.intro tf63 (And.intro tf32 (And.intro tf12 (And.intro tf64 (And.intro tf65 (And.intro tf51 (And.intro tf66 (tf13))))))))))))))))))
set_option maxRecDepth 100000 in
set_option maxHeartbeats 4000000 in
theorem cForm_A (e : GEst) (i rank : Int) (small : Bool) (lim : GRat) (hlim : bigOK lim) (hn : e.claims.length ≤ 1000000) (hcl : ∀ c ∈ e.claims, bigOK c.amount) : ACall Tryz.prog 75 [.agg (cEst e), .one (.lit (.int .i64 i)), .one (.lit (.int .i64 rank)), .one (.lit (.bool small)), .agg (cRat lim)] (.val (.agg (cCls (fmS e i rank small lim)))) := by
 have hnn : e.claims.length ≤ 1000000 := hn
 refine acall_of Tryz.func75 rfl (by decide) (N := 51) rfl (by simp) (R := [.cell 10 58]) rfl fun en k0 => ?_
 refine awR [] [none, none, none] ?_
 simp only [(id F_cFm), seval, cEst, cRat]
 repeat refine ob ?_
 refine awR [] [none, none, none, none, none, none] ?_
 simp only [(id F_cFm), seval, cEst, cRat]
 repeat refine ob ?_
 refine awR [] [none, none, none, none] ?_
 simp only [(id F_cFm), seval, cEst, cRat]
 repeat refine ob ?_
 refine awp_nilc 11 3 47 _ 3 1 (by decide) (by rfl) (by decide) (by simp) (by rfl) ?_
 refine awp_keep [2, 3, 9, 10, 11, 19, 20, 21] [9, 10, 11, 47] ?_
 try unfold Later
 try simp only [(id F_cFm), seval, cEst, cRat, flat_snoc, cI, List.length_append, List.length_cons, List.length_nil]
 repeat' first|apply awS|apply awB
 refine awp_loopw (fun n st => ∃ i0 out s nx, i0 ≤ e.claims.length ∧ n = e.claims.length - i0 ∧ fmL rank small lim (e.claims.drop i0) i0 out = fmL rank small lim e.claims 0 [] ∧ out.length ≤ i0 ∧ st = ⟨mkT [(2, one (.int .i64 rank)), (3, one (.bool small)), (9, .val (.one (.ptr 9 1 0))), (10, .val (.one (.ptr 10 2 0))), (11, .val (.one (.ptr 11 3 0))), (19, .val (.one (.sh 5 e.claims.length (flat cClaim e.claims)))), (20, one (.int .i64 e.claims.length)), (21, one (.int .i64 i0))], mkH [(9, ⟨1, 38, 3, 1, cRat lim⟩), (10, ⟨2, 58, 4, 1, [.lit (.int .i64 0), .lit (.int .i64 0), .lit (.bool false), .lit (.slice none 0 0)]⟩), (11, ⟨3, 58, 4, 1, [.lit (.int .i64 i), .lit (.int .i64 rank), .lit (.bool small), .own 47 s out.length 1]⟩), (47, ⟨s, 3, 1, out.length, flat cI out⟩)], nx, 0⟩) (e.claims.length) ⟨0, [], _, _, by omega, by omega, by rfl, (by first | omega | assumption | rfl | simp | (simp; omega)), rfl⟩ ?_
 rintro n0 st ⟨i0, out, s, nx0, hk0, rfl, hL0, hV0_1, rfl⟩
 by_cases hlt0 : i0 < e.claims.length
 ·
  have hI0 : (i0 : Int) < (e.claims.length : Int) := by omega
  have hat0 := flat_at cClaim_len e.claims i0 hlt0
  try rw [Nat.mul_one] at hat0
  rw [List.drop_eq_getElem_cons hlt0] at hL0
  have hbc := hcl _ (List.getElem_mem hlt0)
  have hE : ∀ rk, ACall Tryz.prog 47 [.agg [.lit (.int .i64 e.claims[i0].holder), .lit (.int .i64 rk), .lit (.bool e.claims[i0].amount.neg), .lit (.string e.claims[i0].amount.num), .lit (.string e.claims[i0].amount.den)]] (one (.bool (elB e.claims[i0]))) := fun rk => cElig_A ⟨e.claims[i0].holder, rk, e.claims[i0].amount⟩ (bigOK_rat hbc)
  have hol : (if pkB rank small lim e.claims[i0] = true then out ++ [(i0 : Int)] else out).length ≤ out.length + 1 := by split <;> simp
  generalize e.claims[i0] = c at *
  simp only [fmL] at hL0
  refine awR [] [none] ?_
  simp only [(id F_cFm), seval, cEst, cRat, hI0, hat0, pkB]
  repeat refine ob ?_
  refine awT ?_
  refine awK ?_
  simp only [(id F_cFm), seval]
  refine awR [] [none, none, none, none, none, none] ?_
  simp only [(id F_cFm), seval, cEst, cRat, hI0, hat0, pkB, cClaim]
  repeat refine ob ?_
  by_cases he : elB c = true
  ·
   by_cases hr : c.rank = rank
   ·
    by_cases hc : (decide (qCmp (qOf c.amount) (qOf lim) ≤ 0) == small) = true
    ·
     refine awR [] [none, none, none, some (28, true), some (28, true), some (28, true), some (28, true), none, none, some (34, true), some (34, true), some (34, true), some (34, true), some (34, true), some (34, true), some (34, true), none] ?_
     simp only [(id F_cFm), seval, cEst, cRat, hI0, hat0, pkB, he, hr, hc, cClaim]
     repeat refine ob ?_
     refine ⟨_, (hE _), (by first | rfl | simp [allA, pure1, pureCs, pureC, A1.cells, flat_pure cClaim_pure]), ?_⟩
     try unfold Later
     try simp only [(id F_cFm), seval, cEst, cRat, hI0, hat0, pkB, he, hr, hc, cClaim]
     repeat refine ob ?_
     refine ⟨_, (aCompare c.amount lim 100000 100000 hbc hlim (by decide) (by decide) (by decide) (by decide)), (by first | rfl | simp [allA, pure1, pureCs, pureC, A1.cells, flat_pure cClaim_pure]), ?_⟩
     try unfold Later
     try simp only [(id F_cFm), seval, cEst, cRat, hI0, hat0, pkB, he, hr, hc, cClaim]
     repeat refine ob ?_
     refine awT ?_
     refine awR [] [none, none, none, none, none, none, none] ?_
     simp only [(id F_cFm), seval, cEst, cRat, hI0, hat0, pkB, he, hr, hc]
     repeat refine ob ?_
     refine awR [] [none, none] ?_
     simp only [(id F_cFm), seval, cEst, cRat, hI0, hat0, pkB, he, hr, hc]
     repeat refine ob ?_
     repeat refine ob ?_
     refine ⟨_, wk_keep [2, 3, 9, 10, 11, 19, 20, 21] [9, 10, 11, 47], e.claims.length - (i0 + 1), by omega, i0 + 1, ((if pkB rank small lim c = true then out ++ [(i0 : Int)] else out)), ?a8_s, ?a8_nx, by omega, rfl, ?i8_0, ?i8_1, ?st8⟩
     case st8 => (simp only [(id F_cFm), seval, flat_snoc, cI, List.length_append, List.length_cons, List.length_nil, cEst, cRat, hI0, hat0, pkB, he, hr, hc]; first | rfl | (simp [flat_snoc, cI, List.length_append, List.length_cons, List.length_nil, hI0, hat0, pkB, he, hr, hc, Nat.add_mul]; done))
     case i8_0 => (first | exact hL0 | (rw [← hL0]; simp only [reduceIte, hI0, hat0, pkB, he, hr, hc]; done) | (rw [← hL0]; simp [hI0, hat0, pkB, he, hr, hc]; done) | (simp [hI0, hat0, pkB, he, hr, hc] at hL0; simpa using hL0) | (rw [← hL0]; simp [*]; done))
     case i8_1 => (first | omega | assumption | (simp; omega) | (simp_all; done))
    refine awR [] [none, none, none, some (28, true), some (28, true), some (28, true), some (28, true), none, none, some (34, true), some (34, true), some (34, true), some (34, true), some (34, true), some (34, true), some (34, true), none] ?_
    simp only [(id F_cFm), seval, cEst, cRat, hI0, hat0, pkB, he, hr, hc, cClaim]
    repeat refine ob ?_
    refine ⟨_, (hE _), (by first | rfl | simp [allA, pure1, pureCs, pureC, A1.cells, flat_pure cClaim_pure]), ?_⟩
    try unfold Later
    try simp only [(id F_cFm), seval, cEst, cRat, hI0, hat0, pkB, he, hr, hc, cClaim]
    repeat refine ob ?_
    refine ⟨_, (aCompare c.amount lim 100000 100000 hbc hlim (by decide) (by decide) (by decide) (by decide)), (by first | rfl | simp [allA, pure1, pureCs, pureC, A1.cells, flat_pure cClaim_pure]), ?_⟩
    try unfold Later
    try simp only [(id F_cFm), seval, cEst, cRat, hI0, hat0, pkB, he, hr, hc, cClaim]
    repeat refine ob ?_
    refine awF ?_
    refine awK ?_
    simp only [(id F_cFm), seval]
    refine awR [] [none, none] ?_
    simp only [(id F_cFm), seval, cEst, cRat, hI0, hat0, pkB, he, hr, hc]
    repeat refine ob ?_
    repeat refine ob ?_
    refine ⟨_, wk_keep [2, 3, 9, 10, 11, 19, 20, 21] [9, 10, 11, 47], e.claims.length - (i0 + 1), by omega, i0 + 1, ((if pkB rank small lim c = true then out ++ [(i0 : Int)] else out)), ?a11_s, ?a11_nx, by omega, rfl, ?i11_0, ?i11_1, ?st11⟩
    case st11 => (simp only [(id F_cFm), seval, flat_snoc, cI, List.length_append, List.length_cons, List.length_nil, cEst, cRat, hI0, hat0, pkB, he, hr, hc]; first | rfl | (simp [flat_snoc, cI, List.length_append, List.length_cons, List.length_nil, hI0, hat0, pkB, he, hr, hc, Nat.add_mul]; done))
    case i11_0 => (first | exact hL0 | (rw [← hL0]; simp only [reduceIte, hI0, hat0, pkB, he, hr, hc]; done) | (rw [← hL0]; simp [hI0, hat0, pkB, he, hr, hc]; done) | (simp [hI0, hat0, pkB, he, hr, hc] at hL0; simpa using hL0) | (rw [← hL0]; simp [*]; done))
    case i11_1 => (first | omega | assumption | (simp; omega) | (simp_all; done))
   refine awR [] [none, none, none, some (28, true), some (28, true), some (28, true), some (28, true), none, none, some (34, true), some (34, true), some (34, true), some (34, true), some (34, true), some (34, true), some (34, true), none] ?_
   simp only [(id F_cFm), seval, cEst, cRat, hI0, hat0, pkB, he, hr, cClaim]
   repeat refine ob ?_
   refine ⟨_, (hE _), (by first | rfl | simp [allA, pure1, pureCs, pureC, A1.cells, flat_pure cClaim_pure]), ?_⟩
   try unfold Later
   try simp only [(id F_cFm), seval, cEst, cRat, hI0, hat0, pkB, he, hr, cClaim]
   repeat refine ob ?_
   refine awF ?_
   refine awK ?_
   simp only [(id F_cFm), seval]
   refine awR [] [none, none] ?_
   simp only [(id F_cFm), seval, cEst, cRat, hI0, hat0, pkB, he, hr]
   repeat refine ob ?_
   repeat refine ob ?_
   refine ⟨_, wk_keep [2, 3, 9, 10, 11, 19, 20, 21] [9, 10, 11, 47], e.claims.length - (i0 + 1), by omega, i0 + 1, ((if pkB rank small lim c = true then out ++ [(i0 : Int)] else out)), ?a14_s, ?a14_nx, by omega, rfl, ?i14_0, ?i14_1, ?st14⟩
   case st14 => (simp only [(id F_cFm), seval, flat_snoc, cI, List.length_append, List.length_cons, List.length_nil, cEst, cRat, hI0, hat0, pkB, he, hr]; first | rfl | (simp [flat_snoc, cI, List.length_append, List.length_cons, List.length_nil, hI0, hat0, pkB, he, hr, Nat.add_mul]; done))
   case i14_0 => (first | exact hL0 | (rw [← hL0]; simp only [reduceIte, hI0, hat0, pkB, he, hr]; done) | (rw [← hL0]; simp [hI0, hat0, pkB, he, hr]; done) | (simp [hI0, hat0, pkB, he, hr] at hL0; simpa using hL0) | (rw [← hL0]; simp [*]; done))
   case i14_1 => (first | omega | assumption | (simp; omega) | (simp_all; done))
  refine awR [] [none, none, none, some (28, true), some (28, true), some (28, true), some (28, true), none, none, some (34, true), some (34, true), some (34, true), some (34, true), some (34, true), some (34, true), some (34, true), none] ?_
  simp only [(id F_cFm), seval, cEst, cRat, hI0, hat0, pkB, he, cClaim]
  repeat refine ob ?_
  refine ⟨_, (hE _), (by first | rfl | simp [allA, pure1, pureCs, pureC, A1.cells, flat_pure cClaim_pure]), ?_⟩
  try unfold Later
  try simp only [(id F_cFm), seval, cEst, cRat, hI0, hat0, pkB, he, cClaim]
  repeat refine ob ?_
  refine awF ?_
  refine awK ?_
  simp only [(id F_cFm), seval]
  refine awR [] [none, none] ?_
  simp only [(id F_cFm), seval, cEst, cRat, hI0, hat0, pkB, he]
  repeat refine ob ?_
  repeat refine ob ?_
  refine ⟨_, wk_keep [2, 3, 9, 10, 11, 19, 20, 21] [9, 10, 11, 47], e.claims.length - (i0 + 1), by omega, i0 + 1, ((if pkB rank small lim c = true then out ++ [(i0 : Int)] else out)), ?a17_s, ?a17_nx, by omega, rfl, ?i17_0, ?i17_1, ?st17⟩
  case st17 => (simp only [(id F_cFm), seval, flat_snoc, cI, List.length_append, List.length_cons, List.length_nil, cEst, cRat, hI0, hat0, pkB, he]; first | rfl | (simp [flat_snoc, cI, List.length_append, List.length_cons, List.length_nil, hI0, hat0, pkB, he, Nat.add_mul]; done))
  case i17_0 => (first | exact hL0 | (rw [← hL0]; simp only [reduceIte, hI0, hat0, pkB, he]; done) | (rw [← hL0]; simp [hI0, hat0, pkB, he]; done) | (simp [hI0, hat0, pkB, he] at hL0; simpa using hL0) | (rw [← hL0]; simp [*]; done))
  case i17_1 => (first | omega | assumption | (simp; omega) | (simp_all; done))
 obtain rfl : i0 = e.claims.length := by omega
 have hI0 : ¬ (e.claims.length : Int) < (e.claims.length : Int) := by omega
 rw [List.drop_length] at hL0
 simp only [fmL] at hL0
 refine awR [] [none] ?_
 simp only [(id F_cFm), seval, cEst, cRat, hI0]
 repeat refine ob ?_
 refine awF ?_
 refine awQ ?_
 simp only [(id F_cFm), seval]
 refine awR [] [none, none] ?_
 simp only [(id F_cFm), seval, cEst, cRat, hI0]
 repeat refine ob ?_
 refine awX ?_
 simp only [(id F_cFm), seval]
 simp [cCls, fmS, ← hL0, flat_pure cI_pure, pureCs, pureC]
def F_rFm := And.intro zS (And.intro tf14 (And.intro tf15 (And.intro tf16 (And.intro tf17 (And.intro tf7 (And.intro tf43 (And.intro tf44 (And.intro tf61 (And.intro tf19 (And.intro tf20 (And.intro tf23 (And.intro tf24 (And.intro tf62 (And.intro tf49 (And.intro tf63 (And.intro tf32 (And.intro tf12 (And.intro tf64 (And.intro tf65 (And.intro tf66 (tf13)))))))))))))))))))))
set_option maxRecDepth 100000 in
set_option maxHeartbeats 4000000 in
theorem rClass_A (g : GGrp) (j : Nat) (e : GEst) (hj : g.ests[j]? = some e) (rank : Int) (small : Bool) (lim : GRat) (hlim : bigOK lim) (hn : e.claims.length ≤ 1000000) (hcl : ∀ c ∈ e.claims, bigOK c.amount) : ACall Tryz.prog 44 [.agg (cGrp g), .one (.lit (.int .i64 j)), .one (.lit (.int .i64 rank)), .one (.lit (.bool small)), .agg (cRat lim)] (.val (.agg (cCls (fmS e j rank small lim)))) := by
 have hnn : e.claims.length ≤ 1000000 := hn
 refine acall_of Tryz.func44 rfl (by decide) (N := 63) rfl (by simp) (R := [.cell 10 58]) rfl fun en k0 => ?_
 refine awR [] [none, none, none] ?_
 simp only [(id F_rFm), seval, cEst, cRat, cGrp]
 repeat refine ob ?_
 refine awR [] [none, none, none, none, none, none] ?_
 simp only [(id F_rFm), seval, cEst, cRat, cGrp]
 repeat refine ob ?_
 have hjl : j < g.ests.length := (List.getElem?_eq_some_iff.1 hj).1
 have hje : g.ests[j] = e := (List.getElem?_eq_some_iff.1 hj).2
 have hat := flat_at cEst_len g.ests j hjl
 rw [hje] at hat
 refine awR [] [none, none, none, none, none, none, none] ?_
 simp only [(id F_rFm), seval, cEst, cRat, cGrp, hat]
 repeat refine ob ?_
 refine awR [] [none] ?_
 simp only [(id F_rFm), seval, cEst, cRat, cGrp]
 repeat refine ob ?_
 refine awp_nilc 11 3 60 _ 3 1 (by decide) (by rfl) (by decide) (by simp) (by rfl) ?_
 refine awp_keep [2, 3, 9, 10, 11, 12, 13] [9, 10, 11, 60] ?_
 try unfold Later
 try simp only [(id F_rFm), seval, cEst, cRat, cGrp, flat_snoc, cI, List.length_append, List.length_cons, List.length_nil]
 repeat' first|apply awS|apply awB
 refine awp_loopw (fun n st => ∃ i0 out s nx, i0 ≤ e.claims.length ∧ n = e.claims.length - i0 ∧ fmL rank small lim (e.claims.drop i0) i0 out = fmL rank small lim e.claims 0 [] ∧ out.length ≤ i0 ∧ st = ⟨mkT [(2, one (.int .i64 rank)), (3, one (.bool small)), (9, .val (.one (.ptr 9 1 0))), (10, .val (.one (.ptr 10 2 0))), (11, .val (.one (.ptr 11 3 0))), (12, .val (.one (.sh 5 e.claims.length (flat cClaim e.claims)))), (13, one (.int .i64 i0))], mkH [(9, ⟨1, 38, 3, 1, cRat lim⟩), (10, ⟨2, 58, 4, 1, [.lit (.int .i64 0), .lit (.int .i64 0), .lit (.bool false), .lit (.slice none 0 0)]⟩), (11, ⟨3, 58, 4, 1, [.lit (.int .i64 j), .lit (.int .i64 rank), .lit (.bool small), .own 60 s out.length 1]⟩), (60, ⟨s, 3, 1, out.length, flat cI out⟩)], nx, 0⟩) (e.claims.length) ⟨0, [], _, _, by omega, by omega, by rfl, (by first | omega | assumption | rfl | simp | (simp; omega)), rfl⟩ ?_
 rintro n0 st ⟨i0, out, s, nx0, hk0, rfl, hL0, hV0_1, rfl⟩
 by_cases hlt0 : i0 < e.claims.length
 ·
  have hI0 : (i0 : Int) < (e.claims.length : Int) := by omega
  have hat0 := flat_at cClaim_len e.claims i0 hlt0
  try rw [Nat.mul_one] at hat0
  rw [List.drop_eq_getElem_cons hlt0] at hL0
  have hbc := hcl _ (List.getElem_mem hlt0)
  have hE : ∀ rk, ACall Tryz.prog 49 [.agg [.lit (.int .i64 e.claims[i0].holder), .lit (.int .i64 rk), .lit (.bool e.claims[i0].amount.neg), .lit (.string e.claims[i0].amount.num), .lit (.string e.claims[i0].amount.den)]] (one (.bool (elB e.claims[i0]))) := fun rk => rElig_A ⟨e.claims[i0].holder, rk, e.claims[i0].amount⟩ (bigOK_rat hbc)
  have hol : (if pkB rank small lim e.claims[i0] = true then out ++ [(i0 : Int)] else out).length ≤ out.length + 1 := by split <;> simp
  generalize e.claims[i0] = c at *
  simp only [fmL] at hL0
  refine awR [] [none, none, none, none] ?_
  simp only [(id F_rFm), seval, cEst, cRat, cGrp, hI0, hat0, pkB]
  repeat refine ob ?_
  refine awT ?_
  refine awK ?_
  simp only [(id F_rFm), seval]
  by_cases he : elB c = true
  ·
   by_cases hr : c.rank = rank
   ·
    by_cases hc : (decide (qCmp (qOf c.amount) (qOf lim) ≤ 0) == small) = true
    ·
     refine awD (scq [1, 3, 5, 7, 8, 11, 13, 15, 17, 19, 21, 23, 25, 27, 29, 31, 33, 35, 37, 39, 41, 47, 42, 45, 49, 51] .nil) [none, none, none, none, none, none, some (35, true), some (35, true), some (35, true), some (35, true), some (35, true), some (35, true), some (35, true), none, none, some (44, true), some (44, true), some (44, true), some (44, true), some (44, true), some (44, true), some (44, true), some (44, true), some (44, true), some (44, true), none] ?_
     simp only [(id F_rFm), seval, cEst, cRat, cGrp, hI0, hat0, pkB, he, hr, hc, cClaim]
     repeat refine ob ?_
     refine ⟨_, (hE _), (by first | rfl | simp [allA, pure1, pureCs, pureC, A1.cells, flat_pure cClaim_pure]), ?_⟩
     try unfold Later
     try simp only [(id F_rFm), seval, cEst, cRat, cGrp, hI0, hat0, pkB, he, hr, hc, cClaim]
     repeat refine ob ?_
     refine ⟨_, (bCompare c.amount lim 100000 100000 hbc hlim (by decide) (by decide) (by decide) (by decide)), (by first | rfl | simp [allA, pure1, pureCs, pureC, A1.cells, flat_pure cClaim_pure]), ?_⟩
     try unfold Later
     try simp only [(id F_rFm), seval, cEst, cRat, cGrp, hI0, hat0, pkB, he, hr, hc, cClaim]
     repeat refine ob ?_
     refine awT ?_
     refine awR [] [none, none, none, none, none, none, none] ?_
     simp only [(id F_rFm), seval, cEst, cRat, cGrp, hI0, hat0, pkB, he, hr, hc, cClaim]
     repeat refine ob ?_
     refine awR [] [none, none, none] ?_
     simp only [(id F_rFm), seval, cEst, cRat, cGrp, hI0, hat0, pkB, he, hr, hc]
     repeat refine ob ?_
     repeat refine ob ?_
     refine ⟨_, wk_keep [2, 3, 9, 10, 11, 12, 13] [9, 10, 11, 60], e.claims.length - (i0 + 1), by omega, i0 + 1, ((if pkB rank small lim c = true then out ++ [(i0 : Int)] else out)), ?a8_s, ?a8_nx, by omega, rfl, ?i8_0, ?i8_1, ?st8⟩
     case st8 => (simp only [(id F_rFm), seval, flat_snoc, cI, List.length_append, List.length_cons, List.length_nil, cEst, cRat, cGrp, hI0, hat0, pkB, he, hr, hc]; first | rfl | (simp [flat_snoc, cI, List.length_append, List.length_cons, List.length_nil, hI0, hat0, pkB, he, hr, hc, Nat.add_mul]; done))
     case i8_0 => (first | exact hL0 | (rw [← hL0]; simp only [reduceIte, hI0, hat0, pkB, he, hr, hc]; done) | (rw [← hL0]; simp [hI0, hat0, pkB, he, hr, hc]; done) | (simp [hI0, hat0, pkB, he, hr, hc] at hL0; simpa using hL0) | (rw [← hL0]; simp [*]; done))
     case i8_1 => (first | omega | assumption | (simp; omega) | (simp_all; done))
    refine awD (scq [1, 3, 5, 7, 8, 11, 13, 15, 17, 19, 21, 23, 25, 27, 29, 31, 33, 35, 37, 39, 41, 47, 42, 45, 49, 51] .nil) [none, none, none, none, none, none, some (35, true), some (35, true), some (35, true), some (35, true), some (35, true), some (35, true), some (35, true), none, none, some (44, true), some (44, true), some (44, true), some (44, true), some (44, true), some (44, true), some (44, true), some (44, true), some (44, true), some (44, true), none] ?_
    simp only [(id F_rFm), seval, cEst, cRat, cGrp, hI0, hat0, pkB, he, hr, hc, cClaim]
    repeat refine ob ?_
    refine ⟨_, (hE _), (by first | rfl | simp [allA, pure1, pureCs, pureC, A1.cells, flat_pure cClaim_pure]), ?_⟩
    try unfold Later
    try simp only [(id F_rFm), seval, cEst, cRat, cGrp, hI0, hat0, pkB, he, hr, hc, cClaim]
    repeat refine ob ?_
    refine ⟨_, (bCompare c.amount lim 100000 100000 hbc hlim (by decide) (by decide) (by decide) (by decide)), (by first | rfl | simp [allA, pure1, pureCs, pureC, A1.cells, flat_pure cClaim_pure]), ?_⟩
    try unfold Later
    try simp only [(id F_rFm), seval, cEst, cRat, cGrp, hI0, hat0, pkB, he, hr, hc, cClaim]
    repeat refine ob ?_
    refine awF ?_
    refine awK ?_
    simp only [(id F_rFm), seval]
    refine awR [] [none, none, none] ?_
    simp only [(id F_rFm), seval, cEst, cRat, cGrp, hI0, hat0, pkB, he, hr, hc]
    repeat refine ob ?_
    repeat refine ob ?_
    refine ⟨_, wk_keep [2, 3, 9, 10, 11, 12, 13] [9, 10, 11, 60], e.claims.length - (i0 + 1), by omega, i0 + 1, ((if pkB rank small lim c = true then out ++ [(i0 : Int)] else out)), ?a11_s, ?a11_nx, by omega, rfl, ?i11_0, ?i11_1, ?st11⟩
    case st11 => (simp only [(id F_rFm), seval, flat_snoc, cI, List.length_append, List.length_cons, List.length_nil, cEst, cRat, cGrp, hI0, hat0, pkB, he, hr, hc]; first | rfl | (simp [flat_snoc, cI, List.length_append, List.length_cons, List.length_nil, hI0, hat0, pkB, he, hr, hc, Nat.add_mul]; done))
    case i11_0 => (first | exact hL0 | (rw [← hL0]; simp only [reduceIte, hI0, hat0, pkB, he, hr, hc]; done) | (rw [← hL0]; simp [hI0, hat0, pkB, he, hr, hc]; done) | (simp [hI0, hat0, pkB, he, hr, hc] at hL0; simpa using hL0) | (rw [← hL0]; simp [*]; done))
    case i11_1 => (first | omega | assumption | (simp; omega) | (simp_all; done))
   refine awD (scq [1, 3, 5, 7, 8, 11, 13, 15, 17, 19, 21, 23, 25, 27, 29, 31, 33, 35, 37, 39, 41, 47, 42, 45, 49, 51] .nil) [none, none, none, none, none, none, some (35, true), some (35, true), some (35, true), some (35, true), some (35, true), some (35, true), some (35, true), none, none, some (44, true), some (44, true), some (44, true), some (44, true), some (44, true), some (44, true), some (44, true), some (44, true), some (44, true), some (44, true), none] ?_
   simp only [(id F_rFm), seval, cEst, cRat, cGrp, hI0, hat0, pkB, he, hr, cClaim]
   repeat refine ob ?_
   refine ⟨_, (hE _), (by first | rfl | simp [allA, pure1, pureCs, pureC, A1.cells, flat_pure cClaim_pure]), ?_⟩
   try unfold Later
   try simp only [(id F_rFm), seval, cEst, cRat, cGrp, hI0, hat0, pkB, he, hr, cClaim]
   repeat refine ob ?_
   refine awF ?_
   refine awK ?_
   simp only [(id F_rFm), seval]
   refine awR [] [none, none, none] ?_
   simp only [(id F_rFm), seval, cEst, cRat, cGrp, hI0, hat0, pkB, he, hr]
   repeat refine ob ?_
   repeat refine ob ?_
   refine ⟨_, wk_keep [2, 3, 9, 10, 11, 12, 13] [9, 10, 11, 60], e.claims.length - (i0 + 1), by omega, i0 + 1, ((if pkB rank small lim c = true then out ++ [(i0 : Int)] else out)), ?a14_s, ?a14_nx, by omega, rfl, ?i14_0, ?i14_1, ?st14⟩
   case st14 => (simp only [(id F_rFm), seval, flat_snoc, cI, List.length_append, List.length_cons, List.length_nil, cEst, cRat, cGrp, hI0, hat0, pkB, he, hr]; first | rfl | (simp [flat_snoc, cI, List.length_append, List.length_cons, List.length_nil, hI0, hat0, pkB, he, hr, Nat.add_mul]; done))
   case i14_0 => (first | exact hL0 | (rw [← hL0]; simp only [reduceIte, hI0, hat0, pkB, he, hr]; done) | (rw [← hL0]; simp [hI0, hat0, pkB, he, hr]; done) | (simp [hI0, hat0, pkB, he, hr] at hL0; simpa using hL0) | (rw [← hL0]; simp [*]; done))
   case i14_1 => (first | omega | assumption | (simp; omega) | (simp_all; done))
  refine awD (scq [1, 3, 5, 7, 8, 11, 13, 15, 17, 19, 21, 23, 25, 27, 29, 31, 33, 35, 37, 39, 41, 47, 42, 45, 49, 51] .nil) [none, none, none, none, none, none, some (35, true), some (35, true), some (35, true), some (35, true), some (35, true), some (35, true), some (35, true), none, none, some (44, true), some (44, true), some (44, true), some (44, true), some (44, true), some (44, true), some (44, true), some (44, true), some (44, true), some (44, true), none] ?_
  simp only [(id F_rFm), seval, cEst, cRat, cGrp, hI0, hat0, pkB, he, cClaim]
  repeat refine ob ?_
  refine ⟨_, (hE _), (by first | rfl | simp [allA, pure1, pureCs, pureC, A1.cells, flat_pure cClaim_pure]), ?_⟩
  try unfold Later
  try simp only [(id F_rFm), seval, cEst, cRat, cGrp, hI0, hat0, pkB, he, cClaim]
  repeat refine ob ?_
  refine awF ?_
  refine awK ?_
  simp only [(id F_rFm), seval]
  refine awR [] [none, none, none] ?_
  simp only [(id F_rFm), seval, cEst, cRat, cGrp, hI0, hat0, pkB, he]
  repeat refine ob ?_
  repeat refine ob ?_
  refine ⟨_, wk_keep [2, 3, 9, 10, 11, 12, 13] [9, 10, 11, 60], e.claims.length - (i0 + 1), by omega, i0 + 1, ((if pkB rank small lim c = true then out ++ [(i0 : Int)] else out)), ?a17_s, ?a17_nx, by omega, rfl, ?i17_0, ?i17_1, ?st17⟩
  case st17 => (simp only [(id F_rFm), seval, flat_snoc, cI, List.length_append, List.length_cons, List.length_nil, cEst, cRat, cGrp, hI0, hat0, pkB, he]; first | rfl | (simp [flat_snoc, cI, List.length_append, List.length_cons, List.length_nil, hI0, hat0, pkB, he, Nat.add_mul]; done))
  case i17_0 => (first | exact hL0 | (rw [← hL0]; simp only [reduceIte, hI0, hat0, pkB, he]; done) | (rw [← hL0]; simp [hI0, hat0, pkB, he]; done) | (simp [hI0, hat0, pkB, he] at hL0; simpa using hL0) | (rw [← hL0]; simp [*]; done))
  case i17_1 => (first | omega | assumption | (simp; omega) | (simp_all; done))
 obtain rfl : i0 = e.claims.length := by omega
 have hI0 : ¬ (e.claims.length : Int) < (e.claims.length : Int) := by omega
 rw [List.drop_length] at hL0
 simp only [fmL] at hL0
 refine awR [] [none, none, none, none] ?_
 simp only [(id F_rFm), seval, cEst, cRat, cGrp, hI0]
 repeat refine ob ?_
 refine awF ?_
 refine awQ ?_
 simp only [(id F_rFm), seval]
 refine awR [] [none, none] ?_
 simp only [(id F_rFm), seval, cEst, cRat, cGrp, hI0]
 repeat refine ob ?_
 refine awX ?_
 simp only [(id F_rFm), seval]
 simp [cCls, fmS, ← hL0, flat_pure cI_pure, pureCs, pureC]
end Go.Proofs.YtpdmlemknomoeaaGreatDoor
end
section
/- Classes in plain terms: what Form, Check and Sum answer; both checks agree. No walk. -/
namespace Go.Proofs.YtpdmlemknomoeaaGreatDoor
open Go Go.RowKit
def addCl (out : List GCls) (c : GCls) : List GCls := if (0 : Int) < (c.claims.length : Int) then out ++ [c] else out
noncomputable def blN (e : GEst) (i r : Int) (lim : GRat) (out : List GCls) : Nat → List GCls
  | 0 => out
  | 1 => addCl out (fmS e i r true lim)
  | _ => addCl (addCl out (fmS e i r true lim)) (fmS e i r false lim)
noncomputable def rkN (e : GEst) (i : Int) (lim : GRat) (out : List GCls) : Nat → List GCls
  | 0 => out
  | k + 1 => blN e i k lim (rkN e i lim out k) 2
noncomputable def foE (lim : GRat) : List GEst → Nat → List GCls → List GCls
  | [], _, out => out
  | e :: l, i, out => foE lim l (i + 1) (rkN e i lim out 8)
noncomputable def foC (gc : Int) (lim : GRat) (g : GGrp) : Int := if gc = 0 then (if (64 : Int) < ((foE lim g.ests 0 []).length : Int) then 2 else 0) else gc
noncomputable def foL (gc : Int) (lim : GRat) (g : GGrp) : List GCls := if gc = 0 then (if (64 : Int) < ((foE lim g.ests 0 []).length : Int) then [] else foE lim g.ests 0 []) else []
theorem addCl_len (out : List GCls) (c : GCls) : (addCl out c).length ≤ out.length + 1 := by unfold addCl; split <;> simp
theorem blN_len (e : GEst) (i r : Int) (lim : GRat) (out : List GCls) (n : Nat) : (blN e i r lim out n).length ≤ out.length + 2 := by
  unfold blN
  split
  · omega
  · have := addCl_len out (fmS e i r true lim); omega
  have := addCl_len out (fmS e i r true lim)
  have := addCl_len (addCl out (fmS e i r true lim)) (fmS e i r false lim)
  omega
theorem rkN_len (e : GEst) (i : Int) (lim : GRat) (out : List GCls) : ∀ n, (rkN e i lim out n).length ≤ out.length + 2 * n
  | 0 => by simp [rkN]
  | k + 1 => by
    have h1 := rkN_len e i lim out k
    have h2 := blN_len e i k lim (rkN e i lim out k) 2
    simp only [rkN]; omega
theorem foE_len (lim : GRat) : ∀ (l : List GEst) (i : Nat) (out : List GCls), (foE lim l i out).length ≤ out.length + 16 * l.length
  | [], _, _ => by simp [foE]
  | e :: l, i, out => by
    have h1 := rkN_len e i lim out 8
    have h2 := foE_len lim l (i + 1) (rkN e i lim out 8)
    simp only [foE, List.length_cons]; omega
def okFc (n : Nat) (c : GCls) : Prop := c.claims ≠ [] ∧ c.claims.length ≤ n
theorem addCl_ok {n : Nat} {out : List GCls} {c : GCls} (h : ∀ x ∈ out, okFc n x) (hc : c.claims.length ≤ n) : ∀ x ∈ addCl out c, okFc n x := by
  unfold addCl
  split
  · rename_i hlt
    intro x hx
    rcases List.mem_append.1 hx with hx | hx
    · exact h x hx
    obtain rfl : x = c := by simpa using hx
    refine ⟨fun h0 => ?_, hc⟩
    rw [h0] at hlt; simp at hlt
  exact h
theorem fmS_len (e : GEst) (i r : Int) (s : Bool) (lim : GRat) : (fmS e i r s lim).claims.length ≤ e.claims.length := by
  have := fmL_len r s lim e.claims 0 []
  simpa [fmS] using this
theorem blN_ok {n : Nat} {e : GEst} {i r : Int} {lim : GRat} {out : List GCls} (h : ∀ x ∈ out, okFc n x) (he : e.claims.length ≤ n) (m : Nat) : ∀ x ∈ blN e i r lim out m, okFc n x := by
  have hs := fun s => Nat.le_trans (fmS_len e i r s lim) he
  unfold blN
  split
  · exact h
  · exact addCl_ok h (hs true)
  exact addCl_ok (addCl_ok h (hs true)) (hs false)
theorem rkN_ok {n : Nat} {e : GEst} {i : Int} {lim : GRat} {out : List GCls} (h : ∀ x ∈ out, okFc n x) (he : e.claims.length ≤ n) : ∀ m, ∀ x ∈ rkN e i lim out m, okFc n x
  | 0 => h
  | m + 1 => blN_ok (rkN_ok h he m) he 2
theorem foE_ok {n : Nat} {lim : GRat} : ∀ {l : List GEst} {i : Nat} {out : List GCls}, (∀ e ∈ l, e.claims.length ≤ n) → (∀ x ∈ out, okFc n x) → ∀ x ∈ foE lim l i out, okFc n x
  | [], _, _, _, h => h
  | e :: l, i, out, he, h => foE_ok (l := l) (fun x hx => he x (List.mem_cons_of_mem _ hx)) (rkN_ok h (he e (by simp)) 8)
noncomputable def ckL (cl : List GClaim) (est rank : Int) : List Int → List Leg → Int × List Leg
  | [], T => (0, T)
  | k :: l, T => if k < 0 then (1, T) else if (cl.length : Int) ≤ k then (1, T) else if elB (cl.getD k.toNat default) = true then (if (cl.getD k.toNat default).rank = rank then (if (est, k) ∈ T then (12, T) else ckL cl est rank l (T ++ [(est, k)])) else (13, T)) else (13, T)
noncomputable def ckC (g : GGrp) (c : GCls) (T : List Leg) : Int × List Leg := if c.est < 0 then (1, T) else if (g.ests.length : Int) ≤ c.est then (1, T) else if (c.claims.length : Int) = 0 then (21, T) else ckL (g.ests.getD c.est.toNat ztEst).claims c.est c.rank c.claims T
noncomputable def ckA (g : GGrp) : List GCls → List Leg → Int × List Leg
  | [], T => (0, T)
  | c :: l, T => if (ckC g c T).1 = 0 then ckA g l (ckC g c T).2 else ((ckC g c T).1, T)
noncomputable def nnC (T : List Leg) (i : Nat) : List GClaim → Nat → Bool
  | [], _ => true
  | c :: l, k => if elB c = true then (if ((i : Int), (k : Int)) ∈ T then nnC T i l (k + 1) else false) else nnC T i l (k + 1)
noncomputable def nnE (T : List Leg) : List GEst → Nat → Bool
  | [], _ => true
  | e :: l, i => if nnC T i e.claims 0 = true then nnE T l (i + 1) else false
noncomputable def ckS (gc : Int) (g : GGrp) (l : List GCls) : Int := if gc = 0 then (if (64 : Int) < (l.length : Int) then 2 else if (ckA g l []).1 = 0 then (if nnE (ckA g l []).2 g.ests 0 = true then 0 else 45) else (ckA g l []).1) else gc
def clLg (c : GCls) : List Leg := c.claims.map fun k => (c.est, k)
def clLegs (l : List GCls) : List Leg := (l.map clLg).flatten
noncomputable def ckN (g : GGrp) (l : List GCls) : List GCls → Nat → Int
  | [], _ => 0
  | c :: t, i => if (ckC g c (clLegs (l.take i))).1 = 0 then ckN g l t (i + 1) else (ckC g c (clLegs (l.take i))).1
noncomputable def ckR (gc : Int) (g : GGrp) (l : List GCls) : Int := if gc = 0 then (if (64 : Int) < (l.length : Int) then 2 else if ckN g l l 0 = 0 then (if nnE (clLegs l) g.ests 0 = true then 0 else 45) else ckN g l l 0) else gc
theorem ckL_T (cl : List GClaim) (est rank : Int) : ∀ (ks : List Int) (T : List Leg), (ckL cl est rank ks T).1 = 0 → (ckL cl est rank ks T).2 = T ++ ks.map fun k => (est, k)
  | [], T, _ => by simp [ckL]
  | k :: ks, T, h => by
    have ih := ckL_T cl est rank ks (T ++ [(est, k)])
    simp only [ckL] at h ⊢
    split
    · rename_i h1; rw [if_pos h1] at h; cases h
    rename_i h1; rw [if_neg h1] at h
    split
    · rename_i h2; rw [if_pos h2] at h; cases h
    rename_i h2; rw [if_neg h2] at h
    split
    · rename_i h3; rw [if_pos h3] at h
      split
      · rename_i h4; rw [if_pos h4] at h
        split
        · rename_i h5; rw [if_pos h5] at h; cases h
        rename_i h5; rw [if_neg h5] at h
        rw [ih h]; simp
      rename_i h4; rw [if_neg h4] at h; cases h
    rename_i h3; rw [if_neg h3] at h; cases h
theorem ckC_T (g : GGrp) (c : GCls) (T : List Leg) (h : (ckC g c T).1 = 0) : (ckC g c T).2 = T ++ clLg c := by
  unfold ckC at h ⊢
  split
  · rename_i h1; rw [if_pos h1] at h; cases h
  rename_i h1; rw [if_neg h1] at h
  split
  · rename_i h2; rw [if_pos h2] at h; cases h
  rename_i h2; rw [if_neg h2] at h
  split
  · rename_i h3; rw [if_pos h3] at h; cases h
  rename_i h3; rw [if_neg h3] at h
  exact ckL_T _ _ _ _ _ h
theorem ckA_ckN (g : GGrp) (l : List GCls) : ∀ (t : List GCls) (i : Nat), l.drop i = t → (ckA g t (clLegs (l.take i))).1 = ckN g l t i ∧ (ckN g l t i = 0 → (ckA g t (clLegs (l.take i))).2 = clLegs l)
  | [], i, h => by
    refine ⟨rfl, fun _ => ?_⟩
    have : l.length ≤ i := List.drop_eq_nil_iff.1 h
    simp only [ckA, List.take_of_length_le this]
  | c :: t, i, h => by
    have hi : i < l.length := by
      rcases Nat.lt_or_ge i l.length with h1 | h1
      · exact h1
      rw [List.drop_eq_nil_of_le h1] at h; cases h
    rw [List.drop_eq_getElem_cons hi] at h
    obtain ⟨h1, h2⟩ := List.cons.inj h
    simp only [ckA, ckN]
    split
    · rename_i h0
      have h3 := ckA_ckN g l t (i + 1) h2
      rw [ckC_T g c _ h0]
      have e : clLegs (l.take i) ++ clLg c = clLegs (l.take (i + 1)) := by
        rw [List.take_succ_eq_append_getElem hi, h1]; simp [clLegs]
      rw [e]
      exact h3
    rename_i h0
    exact ⟨rfl, fun h => absurd h h0⟩
theorem ckS_ckR (gc : Int) (g : GGrp) (l : List GCls) : ckS gc g l = ckR gc g l := by
  have h := ckA_ckN g l l 0 rfl
  simp only [List.take_zero, show clLegs [] = [] from rfl] at h
  unfold ckS ckR
  split
  · split
    · rfl
    rw [h.1]
    split
    · rename_i h0; rw [h.2 h0]
    rfl
  rfl
def inC (c : GCls) (i k : Int) : Bool := if c.est = i then decide (k ∈ c.claims) else false
theorem inC_iff (c : GCls) (i k : Int) : inC c i k = true ↔ (i, k) ∈ clLg c := by
  unfold inC clLg
  by_cases h : c.est = i
  · subst h; simp
  simp [h]
def inCs (l : List GCls) (i k : Int) : Bool := l.any fun c => inC c i k
theorem inCs_iff (l : List GCls) (i k : Int) : inCs l i k = true ↔ (i, k) ∈ clLegs l := by
  simp only [inCs, List.any_eq_true, inC_iff, clLegs, List.mem_flatten, List.mem_map]
  constructor
  · rintro ⟨c, h1, h2⟩; exact ⟨_, ⟨c, h1, rfl⟩, h2⟩
  rintro ⟨_, ⟨c, h1, rfl⟩, h2⟩; exact ⟨c, h1, h2⟩
end Go.Proofs.YtpdmlemknomoeaaGreatDoor
end
