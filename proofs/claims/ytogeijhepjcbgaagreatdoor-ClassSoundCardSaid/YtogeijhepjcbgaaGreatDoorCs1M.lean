/- Classes: eligible, form, on both sides; walked by the abstract machine. -/
import Derived.Test.YtogeijhepjcbgaaGreatDoorOw4M
import Derived.Test.YtogeijhepjcbgaaGreatDoorAbTM
set_option linter.unusedVariables false
set_option linter.unusedSimpArgs false
set_option linter.defProp false
set_option linter.unnecessarySimpa false
/- Classes: eligible, form, on both sides; walked by the abstract machine. -/
namespace Go.Proofs.YtogeijhepjcbgaaGreatDoor
open Go Go.RowKit
structure GCls where
  est : Int
  rank : Int
  small : Bool
  claims : List Int
def cCls (x : GCls) : List C := [.lit (.int .i64 x.est), .lit (.int .i64 x.rank), .lit (.bool x.small), .sh 1 x.claims.length (flat cI x.claims)]
theorem cCls_len (x : GCls) : (cCls x).length = 4 := rfl
theorem cCls_pure (x : GCls) : pureCs (cCls x) = true := by simp [cCls, pureCs, pureC, flat_pure cI_pure]
noncomputable def elB (c : GClaim) : Bool := if c.holder = -1 then decide (0 < qSgn (qOf c.amount)) else false
noncomputable def pkB (rank : Int) (small : Bool) (lim : GRat) (c : GClaim) : Bool := if elB c = true then (if c.rank = rank then (decide (qCmp (qOf c.amount) (qOf lim) ≤ 0) == small) else false) else false
noncomputable def fmL (rank : Int) (small : Bool) (lim : GRat) : List GClaim → Nat → List Int → List Int
  | [], _, out => out
  | c :: l, k, out => fmL rank small lim l (k + 1) (if pkB rank small lim c = true then out ++ [(k : Int)] else out)
noncomputable def fmS (e : GEst) (i rank : Int) (small : Bool) (lim : GRat) : GCls := ⟨i, rank, small, fmL rank small lim e.claims 0 []⟩
def bigOK (r : GRat) : Prop := sB 100000 r
theorem bigOK_rat {r : GRat} (h : bigOK r) : ratOK r := ⟨by have := h.1; omega, by have := h.2; omega⟩
theorem fmL_len (rank : Int) (small : Bool) (lim : GRat) : ∀ (l : List GClaim) (k : Nat) (out : List Int), (fmL rank small lim l k out).length ≤ out.length + l.length
  | [], _, _ => by simp [fmL]
  | c :: l, k, out => by
    simp only [fmL]
    have := fmL_len rank small lim l (k + 1) (if pkB rank small lim c = true then out ++ [(k : Int)] else out)
    split at this <;> simp_all <;> omega
def F_cEl := And.intro zS (And.intro tf51 (And.intro tf86 (And.intro tf38 (tf14))))
set_option maxRecDepth 100000 in
set_option maxHeartbeats 4000000 in
theorem cElig_A (c : GClaim) (hc : ratOK c.amount) : ACall Tryz.prog 56 [.agg (cClaim c)] (one (.bool (elB c))) := by
 refine acall_of Tryz.func56 rfl (by decide) (N := 12) rfl (by simp) (R := [.tmp 2]) rfl fun en k0 => ?_
 refine awR [] [none, none] ?_
 simp only [(id F_cEl), seval, cClaim]
 repeat refine ob ?_
 by_cases h1 : c.holder = -1
 ·
  refine awR [] [none, none, none, none, some (6, true), some (6, true), some (6, true), some (6, true), none, none] ?_
  simp only [(id F_cEl), seval, cClaim, h1]
  repeat refine ob ?_
  refine ⟨_, (aSign c.amount hc.1 hc.2), rfl, ?_⟩
  try unfold Later
  try simp only [(id F_cEl), seval, cClaim, h1]
  repeat refine ob ?_
  refine awX ?_
  (first | (simp only [(id F_cEl), seval, cClaim, elB, h1]; done) | (simp only [(id F_cEl), seval, cClaim]; first | (simp [elB, h1]; done)))
 refine awR [] [none, none, none, none, some (6, true), some (6, true), some (6, true), some (6, true), none, none] ?_
 simp only [(id F_cEl), seval, cClaim, h1]
 repeat refine ob ?_
 refine awX ?_
 (first | (simp only [(id F_cEl), seval, cClaim, elB, h1]; done) | (simp only [(id F_cEl), seval, cClaim]; first | (simp [elB, h1]; done)))
def F_cFm := And.intro zS (And.intro tf48 (And.intro tf32 (And.intro tf78 (And.intro tf85 (And.intro tf86 (And.intro tf89 (And.intro tf33 (And.intro tf36 (And.intro tf90 (And.intro tf54 (And.intro tf91 (And.intro tf38 (And.intro tf14 (And.intro tf92 (And.intro tf93 (And.intro tf58 (And.intro tf94 (tf79))))))))))))))))))
set_option maxRecDepth 100000 in
set_option maxHeartbeats 4000000 in
theorem cForm_A (e : GEst) (i rank : Int) (small : Bool) (lim : GRat) (hlim : bigOK lim) (hn : e.claims.length ≤ 1000000) (hcl : ∀ c ∈ e.claims, bigOK c.amount) : ACall Tryz.prog 51 [.agg (cEst e), .one (.lit (.int .i64 i)), .one (.lit (.int .i64 rank)), .one (.lit (.bool small)), .agg (cRat lim)] (.val (.agg (cCls (fmS e i rank small lim)))) := by
 have hnn : e.claims.length ≤ 1000000 := hn
 refine acall_of Tryz.func51 rfl (by decide) (N := 51) rfl (by simp) (R := [.cell 10 74]) rfl fun en k0 => ?_
 refine awR [] [none, none, none] ?_
 simp only [(id F_cFm), seval, cEst, cRat]
 repeat refine ob ?_
 refine awR [] [none, none, none, none, none, none] ?_
 simp only [(id F_cFm), seval, cEst, cRat]
 repeat refine ob ?_
 refine awR [] [none, none, none, none] ?_
 simp only [(id F_cFm), seval, cEst, cRat]
 repeat refine ob ?_
 refine awp_nilc 11 3 47 _ 3 1 (by decide) (by rfl) (by decide) (by simp) (by rfl) ?_
 refine awp_keep [2, 3, 9, 10, 11, 19, 20, 21] [9, 10, 11, 47] ?_
 try unfold Later
 try simp only [(id F_cFm), seval, cEst, cRat, flat_snoc, cI, List.length_append, List.length_cons, List.length_nil]
 repeat' first|apply awS|apply awB
 refine awp_loopw (fun n st => ∃ i0 out s nx, i0 ≤ e.claims.length ∧ n = e.claims.length - i0 ∧ fmL rank small lim (e.claims.drop i0) i0 out = fmL rank small lim e.claims 0 [] ∧ out.length ≤ i0 ∧ st = ⟨mkT [(2, one (.int .i64 rank)), (3, one (.bool small)), (9, .val (.one (.ptr 9 1 0))), (10, .val (.one (.ptr 10 2 0))), (11, .val (.one (.ptr 11 3 0))), (19, .val (.one (.sh 5 e.claims.length (flat cClaim e.claims)))), (20, one (.int .i64 e.claims.length)), (21, one (.int .i64 i0))], mkH [(9, ⟨1, 44, 3, 1, cRat lim⟩), (10, ⟨2, 74, 4, 1, [.lit (.int .i64 0), .lit (.int .i64 0), .lit (.bool false), .lit (.slice none 0 0)]⟩), (11, ⟨3, 74, 4, 1, [.lit (.int .i64 i), .lit (.int .i64 rank), .lit (.bool small), .own 47 s out.length 1]⟩), (47, ⟨s, 3, 1, out.length, flat cI out⟩)], nx, 0⟩) (e.claims.length) ⟨0, [], _, _, by omega, by omega, by rfl, (by first | omega | assumption | rfl | simp | (simp; omega)), rfl⟩ ?_
 rintro n0 st ⟨i0, out, s, nx0, hk0, rfl, hL0, hV0_1, rfl⟩
 by_cases hlt0 : i0 < e.claims.length
 ·
  have hI0 : (i0 : Int) < (e.claims.length : Int) := by omega
  have hat0 := flat_at cClaim_len e.claims i0 hlt0
  try rw [Nat.mul_one] at hat0
  rw [List.drop_eq_getElem_cons hlt0] at hL0
  have hbc := hcl _ (List.getElem_mem hlt0)
  have hE : ∀ rk, ACall Tryz.prog 56 [.agg [.lit (.int .i64 e.claims[i0].holder), .lit (.int .i64 rk), .lit (.bool e.claims[i0].amount.neg), .lit (.string e.claims[i0].amount.num), .lit (.string e.claims[i0].amount.den)]] (one (.bool (elB e.claims[i0]))) := fun rk => cElig_A ⟨e.claims[i0].holder, rk, e.claims[i0].amount⟩ (bigOK_rat hbc)
  have hol : (if pkB rank small lim e.claims[i0] = true then out ++ [(i0 : Int)] else out).length ≤ out.length + 1 := by split <;> simp
  generalize e.claims[i0] = c at *
  simp only [fmL] at hL0
  refine awR [] [none] ?_
  simp only [(id F_cFm), seval, cEst, cRat, hI0, hat0, pkB]
  repeat refine ob ?_
  refine awT ?_
  refine awK ?_
  simp only [(id F_cFm), seval]
  refine awR [] [none, none, none, none, none, none] ?_
  simp only [(id F_cFm), seval, cEst, cRat, hI0, hat0, pkB, cClaim]
  repeat refine ob ?_
  by_cases he : elB c = true
  ·
   by_cases hr : c.rank = rank
   ·
    by_cases hc : (decide (qCmp (qOf c.amount) (qOf lim) ≤ 0) == small) = true
    ·
     refine awR [] [none, none, none, some (28, true), some (28, true), some (28, true), some (28, true), none, none, some (34, true), some (34, true), some (34, true), some (34, true), some (34, true), some (34, true), some (34, true), none] ?_
     simp only [(id F_cFm), seval, cEst, cRat, hI0, hat0, pkB, he, hr, hc, cClaim]
     repeat refine ob ?_
     refine ⟨_, (hE _), (by first | rfl | simp [allA, pure1, pureCs, pureC, A1.cells, flat_pure cClaim_pure]), ?_⟩
     try unfold Later
     try simp only [(id F_cFm), seval, cEst, cRat, hI0, hat0, pkB, he, hr, hc, cClaim]
     repeat refine ob ?_
     refine ⟨_, (aCompare c.amount lim 100000 100000 hbc hlim (by decide) (by decide) (by decide) (by decide)), (by first | rfl | simp [allA, pure1, pureCs, pureC, A1.cells, flat_pure cClaim_pure]), ?_⟩
     try unfold Later
     try simp only [(id F_cFm), seval, cEst, cRat, hI0, hat0, pkB, he, hr, hc, cClaim]
     repeat refine ob ?_
     refine awT ?_
     refine awR [] [none, none, none, none, none, none, none] ?_
     simp only [(id F_cFm), seval, cEst, cRat, hI0, hat0, pkB, he, hr, hc]
     repeat refine ob ?_
     refine awR [] [none, none] ?_
     simp only [(id F_cFm), seval, cEst, cRat, hI0, hat0, pkB, he, hr, hc]
     repeat refine ob ?_
     repeat refine ob ?_
     refine ⟨_, wk_keep [2, 3, 9, 10, 11, 19, 20, 21] [9, 10, 11, 47], e.claims.length - (i0 + 1), by omega, i0 + 1, ((if pkB rank small lim c = true then out ++ [(i0 : Int)] else out)), ?a8_s, ?a8_nx, by omega, rfl, ?i8_0, ?i8_1, ?st8⟩
     case st8 => (simp only [(id F_cFm), seval, flat_snoc, cI, List.length_append, List.length_cons, List.length_nil, cEst, cRat, hI0, hat0, pkB, he, hr, hc]; first | rfl | (simp [flat_snoc, cI, List.length_append, List.length_cons, List.length_nil, hI0, hat0, pkB, he, hr, hc, Nat.add_mul]; done))
     case i8_0 => (first | exact hL0 | (rw [← hL0]; simp only [reduceIte, hI0, hat0, pkB, he, hr, hc]; done) | (rw [← hL0]; simp [hI0, hat0, pkB, he, hr, hc]; done) | (simp [hI0, hat0, pkB, he, hr, hc] at hL0; simpa using hL0) | (rw [← hL0]; simp [*]; done))
     case i8_1 => (first | omega | assumption | (simp; omega) | (simp_all; done))
    refine awR [] [none, none, none, some (28, true), some (28, true), some (28, true), some (28, true), none, none, some (34, true), some (34, true), some (34, true), some (34, true), some (34, true), some (34, true), some (34, true), none] ?_
    simp only [(id F_cFm), seval, cEst, cRat, hI0, hat0, pkB, he, hr, hc, cClaim]
    repeat refine ob ?_
    refine ⟨_, (hE _), (by first | rfl | simp [allA, pure1, pureCs, pureC, A1.cells, flat_pure cClaim_pure]), ?_⟩
    try unfold Later
    try simp only [(id F_cFm), seval, cEst, cRat, hI0, hat0, pkB, he, hr, hc, cClaim]
    repeat refine ob ?_
    refine ⟨_, (aCompare c.amount lim 100000 100000 hbc hlim (by decide) (by decide) (by decide) (by decide)), (by first | rfl | simp [allA, pure1, pureCs, pureC, A1.cells, flat_pure cClaim_pure]), ?_⟩
    try unfold Later
    try simp only [(id F_cFm), seval, cEst, cRat, hI0, hat0, pkB, he, hr, hc, cClaim]
    repeat refine ob ?_
    refine awF ?_
    refine awK ?_
    simp only [(id F_cFm), seval]
    refine awR [] [none, none] ?_
    simp only [(id F_cFm), seval, cEst, cRat, hI0, hat0, pkB, he, hr, hc]
    repeat refine ob ?_
    repeat refine ob ?_
    refine ⟨_, wk_keep [2, 3, 9, 10, 11, 19, 20, 21] [9, 10, 11, 47], e.claims.length - (i0 + 1), by omega, i0 + 1, ((if pkB rank small lim c = true then out ++ [(i0 : Int)] else out)), ?a11_s, ?a11_nx, by omega, rfl, ?i11_0, ?i11_1, ?st11⟩
    case st11 => (simp only [(id F_cFm), seval, flat_snoc, cI, List.length_append, List.length_cons, List.length_nil, cEst, cRat, hI0, hat0, pkB, he, hr, hc]; first | rfl | (simp [flat_snoc, cI, List.length_append, List.length_cons, List.length_nil, hI0, hat0, pkB, he, hr, hc, Nat.add_mul]; done))
    case i11_0 => (first | exact hL0 | (rw [← hL0]; simp only [reduceIte, hI0, hat0, pkB, he, hr, hc]; done) | (rw [← hL0]; simp [hI0, hat0, pkB, he, hr, hc]; done) | (simp [hI0, hat0, pkB, he, hr, hc] at hL0; simpa using hL0) | (rw [← hL0]; simp [*]; done))
    case i11_1 => (first | omega | assumption | (simp; omega) | (simp_all; done))
   refine awR [] [none, none, none, some (28, true), some (28, true), some (28, true), some (28, true), none, none, some (34, true), some (34, true), some (34, true), some (34, true), some (34, true), some (34, true), some (34, true), none] ?_
   simp only [(id F_cFm), seval, cEst, cRat, hI0, hat0, pkB, he, hr, cClaim]
   repeat refine ob ?_
   refine ⟨_, (hE _), (by first | rfl | simp [allA, pure1, pureCs, pureC, A1.cells, flat_pure cClaim_pure]), ?_⟩
   try unfold Later
   try simp only [(id F_cFm), seval, cEst, cRat, hI0, hat0, pkB, he, hr, cClaim]
   repeat refine ob ?_
   refine awF ?_
   refine awK ?_
   simp only [(id F_cFm), seval]
   refine awR [] [none, none] ?_
   simp only [(id F_cFm), seval, cEst, cRat, hI0, hat0, pkB, he, hr]
   repeat refine ob ?_
   repeat refine ob ?_
   refine ⟨_, wk_keep [2, 3, 9, 10, 11, 19, 20, 21] [9, 10, 11, 47], e.claims.length - (i0 + 1), by omega, i0 + 1, ((if pkB rank small lim c = true then out ++ [(i0 : Int)] else out)), ?a14_s, ?a14_nx, by omega, rfl, ?i14_0, ?i14_1, ?st14⟩
   case st14 => (simp only [(id F_cFm), seval, flat_snoc, cI, List.length_append, List.length_cons, List.length_nil, cEst, cRat, hI0, hat0, pkB, he, hr]; first | rfl | (simp [flat_snoc, cI, List.length_append, List.length_cons, List.length_nil, hI0, hat0, pkB, he, hr, Nat.add_mul]; done))
   case i14_0 => (first | exact hL0 | (rw [← hL0]; simp only [reduceIte, hI0, hat0, pkB, he, hr]; done) | (rw [← hL0]; simp [hI0, hat0, pkB, he, hr]; done) | (simp [hI0, hat0, pkB, he, hr] at hL0; simpa using hL0) | (rw [← hL0]; simp [*]; done))
   case i14_1 => (first | omega | assumption | (simp; omega) | (simp_all; done))
  refine awR [] [none, none, none, some (28, true), some (28, true), some (28, true), some (28, true), none, none, some (34, true), some (34, true), some (34, true), some (34, true), some (34, true), some (34, true), some (34, true), none] ?_
  simp only [(id F_cFm), seval, cEst, cRat, hI0, hat0, pkB, he, cClaim]
  repeat refine ob ?_
  refine ⟨_, (hE _), (by first | rfl | simp [allA, pure1, pureCs, pureC, A1.cells, flat_pure cClaim_pure]), ?_⟩
  try unfold Later
  try simp only [(id F_cFm), seval, cEst, cRat, hI0, hat0, pkB, he, cClaim]
  repeat refine ob ?_
  refine awF ?_
  refine awK ?_
  simp only [(id F_cFm), seval]
  refine awR [] [none, none] ?_
  simp only [(id F_cFm), seval, cEst, cRat, hI0, hat0, pkB, he]
  repeat refine ob ?_
  repeat refine ob ?_
  refine ⟨_, wk_keep [2, 3, 9, 10, 11, 19, 20, 21] [9, 10, 11, 47], e.claims.length - (i0 + 1), by omega, i0 + 1, ((if pkB rank small lim c = true then out ++ [(i0 : Int)] else out)), ?a17_s, ?a17_nx, by omega, rfl, ?i17_0, ?i17_1, ?st17⟩
  case st17 => (simp only [(id F_cFm), seval, flat_snoc, cI, List.length_append, List.length_cons, List.length_nil, cEst, cRat, hI0, hat0, pkB, he]; first | rfl | (simp [flat_snoc, cI, List.length_append, List.length_cons, List.length_nil, hI0, hat0, pkB, he, Nat.add_mul]; done))
  case i17_0 => (first | exact hL0 | (rw [← hL0]; simp only [reduceIte, hI0, hat0, pkB, he]; done) | (rw [← hL0]; simp [hI0, hat0, pkB, he]; done) | (simp [hI0, hat0, pkB, he] at hL0; simpa using hL0) | (rw [← hL0]; simp [*]; done))
  case i17_1 => (first | omega | assumption | (simp; omega) | (simp_all; done))
 obtain rfl : i0 = e.claims.length := by omega
 have hI0 : ¬ (e.claims.length : Int) < (e.claims.length : Int) := by omega
 rw [List.drop_length] at hL0
 simp only [fmL] at hL0
 refine awR [] [none] ?_
 simp only [(id F_cFm), seval, cEst, cRat, hI0]
 repeat refine ob ?_
 refine awF ?_
 refine awQ ?_
 simp only [(id F_cFm), seval]
 refine awR [] [none, none] ?_
 simp only [(id F_cFm), seval, cEst, cRat, hI0]
 repeat refine ob ?_
 refine awX ?_
 simp only [(id F_cFm), seval]
 simp [cCls, fmS, ← hL0, flat_pure cI_pure, pureCs, pureC]
end Go.Proofs.YtogeijhepjcbgaaGreatDoor
