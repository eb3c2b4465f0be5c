/- The builder's debts, estates and claims rows of the caller's own; walked by the abstract machine. -/
import Derived.Test.YtogeijhepjcbgaaGreatDoorSplM
set_option linter.unusedVariables false
set_option linter.unusedSimpArgs false
set_option linter.defProp false
set_option linter.unnecessarySimpa false
/- The builder's debts, estates and claims rows of the caller's own; walked by the abstract machine. -/
namespace Go.Proofs.YtogeijhepjcbgaaGreatDoor
open Go Go.RowKit
theorem den1s_nilU {κ κ' : Kx} {vs : List Value} (h : den1s κ vs []) : den1s κ' vs [] := by
  cases vs with
  | nil => trivial
  | cons v vs => exact h.elim
set_option maxRecDepth 100000 in
set_option maxHeartbeats 4000000 in
theorem owe_I (ps : List (GEst × Nat)) (ds : List GDebt) (p : N3) (H : Hp) (ny s9 : Nat) (hn : ∀ x B, H x = some B → x < 500 ∨ x % 1000 = 103) (h49 : H 49 = some ⟨s9, 67, 5, ps.length, eRw (fOwn 103) ps 0⟩) (htab : ∀ j q, ps[j]? = some q → H (1000 * (j + 1) + 103) = some ⟨q.2, 69, 5, q.1.claims.length, flat cClaim q.1.claims⟩)
  (hp : p.a < 65536 ∧ p.b < 65536 ∧ p.c < 65536) (hge : ps.length ≤ 1000) (hg : ∀ q ∈ ps, q.1.claims.length ≤ 1000) (hnd : ds.length ≤ 1000000000000) (hdl : ∀ d ∈ ds, d.legs.length ≤ 1000000000000) :
  ACallI Tryz.prog 43 [.agg [.own 49 s9 ps.length 5, .sh 4 ds.length (flat cDebt ds)], .agg (cN3 p)] H ny (fun res H' _ => res = .val (.one (.sh 4 (ds ++ [owN ⟨ps.map (·.1), ds⟩ p]).length (flat cDebt (ds ++ [owN ⟨ps.map (·.1), ds⟩ p])))) ∧ H' = H) := by
 refine acallI_of 500 Tryz.func43 rfl (by decide) (N := 121) rfl (by simp) (Rl := [.tmp 4]) rfl fun en k0 => ?_
 refine awR [] [none, none, none] ?_
 simp only [(id F_lOwe), (id zS), seval, cN3, h49]
 repeat refine ob ?_
 refine awR [] [none, none, none, none, none, none] ?_
 simp only [(id F_lOwe), (id zS), seval, cN3, h49, cRat]
 repeat refine ob ?_
 refine ⟨_, (aAmount p.c hp.2.2), rfl, ?_⟩
 try unfold Later
 try simp only [(id F_lOwe), (id zS), seval, cN3, h49, cRat]
 repeat refine ob ?_
 refine awR [] [none] ?_
 simp only [(id F_lOwe), (id zS), seval, cN3, h49]
 repeat refine ob ?_
 refine awR [] [none] ?_
 simp only [(id F_lOwe), (id zS), seval, cN3, h49]
 repeat refine ob ?_
 refine awR [] [none, none, none, none] ?_
 simp only [(id F_lOwe), (id zS), seval, cN3, h49]
 repeat refine ob ?_
 refine awp_nilc 505 3 578 _ 39 2 (by decide) (by rfl) (by decide) (by simp) (by rfl) ?_
 refine awp_on H [2, 3, 4, 5, 6, 7, 19, 20, 21] [502, 503, 505, 578] (onR hn (fun x h => by (try simp only [up_apply]); repeat rw [if_neg (by omega)]) _) ?_
 try unfold Later
 try simp only [(id F_lOwe), (id zS), seval, cN3, h49]
 repeat' first|apply awS|apply awB
 refine awp_loopw (fun n st => ∃ i0 s s1 nx, i0 ≤ ps.length ∧ n = ps.length - i0 ∧ owE ds p ((ps.drop i0).map (·.1)) i0 s = owE ds p (ps.map (·.1)) 0 ⟨0, 0, []⟩ ∧ s.k ≤ i0 * 1000 ∧ s.l.length ≤ 4 ∧ st = ⟨mkT [(2, .val (.one (.ptr 502 ny 0))), (3, .val (.one (.ptr 503 (ny + 1) 0))), (4, .val (.one (.lit (.slice none 0 0)))), (5, .val (.one (.ptr 505 (ny + 2) 0))), (6, one (.int .i64 s.k)), (7, one (.int .i64 s.h)), (19, .val (.one (.own 49 s9 ps.length 5))), (20, one (.int .i64 ps.length)), (21, one (.int .i64 i0))], mkOn H [(502, ⟨ny, 30, 2, 1, [.own 49 s9 ps.length 5, .sh 4 ds.length (flat cDebt ds)]⟩), (503, ⟨ny + 1, 107, 3, 1, cN3 p⟩), (505, ⟨ny + 2, 50, 4, 1, [.lit (.bool (enc (qAmt p.c)).neg), .lit (.string (enc (qAmt p.c)).num), .lit (.string (enc (qAmt p.c)).den), .own 578 s1 (s.l).length 2]⟩), (578, ⟨s1, 39, 2, (s.l).length, flat cLeg (s.l)⟩)], nx, 500⟩) (ps.length) ⟨0, ⟨0, 0, []⟩, _, _, by omega, by omega, by rfl, (by first | omega | assumption | rfl | simp | (simp; omega)), (by first | omega | assumption | rfl | simp | (simp; omega)), rfl⟩ ?_
 rintro n0 st ⟨i0, s, s1, nx0, hk0, rfl, hL0, hV0_1, hV0_2, rfl⟩
 by_cases hlt0 : i0 < ps.length
 ·
  have hI0 : (i0 : Int) < (ps.length : Int) := by omega
  rw [List.drop_eq_getElem_cons hlt0] at hL0
  have hec := hg _ (List.getElem_mem hlt0)
  have hps : ps[i0]? = some ps[i0] := List.getElem?_eq_getElem hlt0
  have htb := htab i0 _ hps
  have hget := eRw_get3 (fOwn 103) ps i0 _ hps
  have hfo : fOwn 103 i0 ps[i0] = .own (1000 * (i0 + 1) + 103) ps[i0].2 ps[i0].1.claims.length 5 := rfl
  rw [hfo] at hget
  have hrl := eRw_len (fOwn 103) ps 0
  obtain ⟨b9, hb9⟩ : ∃ b, b = 1000 * (i0 + 1) + 103 := ⟨_, rfl⟩
  rw [← hb9] at hget htb
  have F9 : ∀ c, c % 1000 ≠ 103 → ((b9 = c) = False) := fun c hc => by simp; omega
  generalize ps[i0] = q at *
  simp only [List.map_cons, List.map_nil, owE] at hL0
  refine awR [] [none] ?_
  simp only [(id F_lOwe), (id zS), seval, cN3, h49, hI0]
  repeat refine ob ?_
  refine awT ?_
  refine awK ?_
  simp only [(id F_lOwe), (id zS), seval]
  refine awR [] [none, none] ?_
  simp only [(id F_lOwe), (id zS), seval, cN3, h49, hI0]
  repeat refine ob ?_
  refine awR [] [none, none, none, none, none, none, none, none] ?_
  simp only [(id F_lOwe), (id zS), seval, cN3, h49, hI0, hget, F9, htb]
  repeat refine ob ?_
  refine awp_on H [2, 3, 4, 5, 6, 7, 8, 19, 20, 21, 29, 30, 31] [502, 503, 505, 578] (onR hn (fun x h => by (try simp only [up_apply]); repeat rw [if_neg (by omega)]) _) ?_
  try unfold Later
  try simp only [(id F_lOwe), (id zS), seval, cN3, h49, hI0, owS, flat_snoc, cLeg, List.length_append, List.length_cons, List.length_nil]
  repeat' first|apply awS|apply awB
  refine awp_loopw (fun n st => ∃ c0 t s2 nx, c0 ≤ q.1.claims.length ∧ n = q.1.claims.length - c0 ∧ owC ds p i0 (q.1.claims.drop c0) c0 t = owC ds p i0 q.1.claims 0 s ∧ t.k ≤ i0 * 1000 + c0 ∧ t.l.length ≤ 4 ∧ st = ⟨mkT [(2, .val (.one (.ptr 502 ny 0))), (3, .val (.one (.ptr 503 (ny + 1) 0))), (4, .val (.one (.lit (.slice none 0 0)))), (5, .val (.one (.ptr 505 (ny + 2) 0))), (6, one (.int .i64 t.k)), (7, one (.int .i64 t.h)), (8, one (.int .i64 i0)), (19, .val (.one (.own 49 s9 ps.length 5))), (20, one (.int .i64 ps.length)), (21, one (.int .i64 i0)), (29, .val (.one (.own b9 q.2 q.1.claims.length 5))), (30, one (.int .i64 q.1.claims.length)), (31, one (.int .i64 c0))], mkOn H [(502, ⟨ny, 30, 2, 1, [.own 49 s9 ps.length 5, .sh 4 ds.length (flat cDebt ds)]⟩), (503, ⟨ny + 1, 107, 3, 1, cN3 p⟩), (505, ⟨ny + 2, 50, 4, 1, [.lit (.bool (enc (qAmt p.c)).neg), .lit (.string (enc (qAmt p.c)).num), .lit (.string (enc (qAmt p.c)).den), .own 578 s2 (t.l).length 2]⟩), (578, ⟨s2, 39, 2, (t.l).length, flat cLeg (t.l)⟩)], nx, 500⟩) (q.1.claims.length) ⟨0, s, _, _, by omega, by omega, by rfl, (by first | omega | assumption | rfl | simp | (simp; omega)), (by first | omega | assumption | rfl | simp | (simp; omega)), rfl⟩ ?_
  rintro n1 st ⟨c0, t, s2, nx1, hk1, rfl, hL1, hV1_1, hV1_2, rfl⟩
  by_cases hlt1 : c0 < q.1.claims.length
  ·
   have hI1 : (c0 : Int) < (q.1.claims.length : Int) := by omega
   have hat1 := flat_at cClaim_len q.1.claims c0 hlt1
   try rw [Nat.mul_one] at hat1
   rw [List.drop_eq_getElem_cons hlt1] at hL1
   have aL := owS_k ds p i0 c0 q.1.claims[c0] t
   have hfc := flat_length cClaim_len q.1.claims
   generalize q.1.claims[c0] = y at *
   simp only [owC] at hL1
   refine awR [] [none] ?_
   simp only [(id F_lOwe), (id zS), seval, cN3, h49, hI0, hI1, hat1]
   repeat refine ob ?_
   refine awT ?_
   refine awK ?_
   simp only [(id F_lOwe), (id zS), seval]
   refine awR [] [none, none, none, none, none, none] ?_
   simp only [(id F_lOwe), (id zS), seval, cN3, h49, hI0, hI1, hat1, cClaim, F9, htb]
   repeat refine ob ?_
   by_cases ht : tkD (i0 : Int) (c0 : Int) ds = true
   ·
    refine awR [39] [none, none, none, none, none, some (40, false), some (40, false), some (40, false), some (40, false), none] ?_
    simp only [(id F_lOwe), (id zS), seval, cN3, h49, hI0, hI1, hat1, ht]
    repeat refine ob ?_
    refine ⟨_, acallI_borrow (taken_A ⟨ps.map (·.1), ds⟩ i0 c0 hnd hdl) rfl (fun e σ w vs hW hd => ?_), ?_⟩
    ·
     obtain ⟨v1, vs1, rfl, d1, hd1⟩ := den1s_cons hd
     obtain ⟨v2, vs2, rfl, d2, hd2⟩ := den1s_cons hd1
     obtain ⟨v3, vs3, rfl, d3, hd3⟩ := den1s_cons hd2
     obtain ⟨us, rfl, du⟩ := d1
     exact ⟨⟨us, rfl, grp_read (er := 49) (s := s9) (n := ps.length) (ps := ps) (ds := ds) hW h49 rfl (fun j r hj => by (try simp only [up_apply]); (repeat rw [if_neg (by omega)]); exact htab j r hj) du⟩, d2, d3, den1s_nilU hd3⟩
    rintro res H' nx' ⟨rfl, rfl, rfl⟩
    try unfold Later
    try simp only [(id F_lOwe), (id zS), seval, cN3, h49, hI0, hI1, hat1, ht]
    repeat refine ob ?_
    refine awT ?_
    refine awQ ?_
    simp only [(id F_lOwe), (id zS), seval]
    refine awR [] [none, none] ?_
    simp only [(id F_lOwe), (id zS), seval, cN3, h49, hI0, hI1, hat1, ht]
    repeat refine ob ?_
    repeat refine ob ?_
    refine ⟨_, wk_on H [2, 3, 4, 5, 6, 7, 8, 19, 20, 21, 29, 30, 31] [502, 503, 505, 578] (onR hn (fun x h => by (try simp only [up_apply]); repeat rw [if_neg (by omega)]) _), q.1.claims.length - (c0 + 1), by omega, c0 + 1, (owS ds p i0 c0 y t), ?a12_s2, ?a12_nx, by omega, rfl, ?i12_0, ?i12_1, ?i12_2, ?st12⟩
    case st12 => (simp only [(id F_lOwe), (id zS), seval, owS, flat_snoc, cLeg, List.length_append, List.length_cons, List.length_nil, cN3, h49, hI0, hI1, hat1, ht]; first | rfl | (simp [owS, flat_snoc, cLeg, List.length_append, List.length_cons, List.length_nil, hI0, hI1, hat1, ht, Nat.add_mul]; done))
    case i12_0 => (first | exact hL1 | (rw [← hL1]; simp only [reduceIte, hI0, hI1, hat1, ht]; done) | (rw [← hL1]; simp [hI0, hI1, hat1, ht]; done) | (simp [hI0, hI1, hat1, ht] at hL1; simpa using hL1) | (rw [← hL1]; simp [*]; done))
    case i12_1 => (first | omega | assumption | (simp; omega) | (simp_all; done))
    case i12_2 => (first | omega | assumption | (simp; omega) | (simp_all; done))
   by_cases h4 : (4 : Int) ≤ (t.l.length : Int)
   ·
    refine awR [39] [none, none, none, none, none, some (40, false), some (40, false), some (40, false), some (40, false), none] ?_
    simp only [(id F_lOwe), (id zS), seval, cN3, h49, hI0, hI1, hat1, ht, h4]
    repeat refine ob ?_
    refine ⟨_, acallI_borrow (taken_A ⟨ps.map (·.1), ds⟩ i0 c0 hnd hdl) rfl (fun e σ w vs hW hd => ?_), ?_⟩
    ·
     obtain ⟨v1, vs1, rfl, d1, hd1⟩ := den1s_cons hd
     obtain ⟨v2, vs2, rfl, d2, hd2⟩ := den1s_cons hd1
     obtain ⟨v3, vs3, rfl, d3, hd3⟩ := den1s_cons hd2
     obtain ⟨us, rfl, du⟩ := d1
     exact ⟨⟨us, rfl, grp_read (er := 49) (s := s9) (n := ps.length) (ps := ps) (ds := ds) hW h49 rfl (fun j r hj => by (try simp only [up_apply]); (repeat rw [if_neg (by omega)]); exact htab j r hj) du⟩, d2, d3, den1s_nilU hd3⟩
    rintro res H' nx' ⟨rfl, rfl, rfl⟩
    try unfold Later
    try simp only [(id F_lOwe), (id zS), seval, cN3, h49, hI0, hI1, hat1, ht, h4]
    repeat refine ob ?_
    refine awT ?_
    refine awQ ?_
    simp only [(id F_lOwe), (id zS), seval]
    refine awR [] [none, none] ?_
    simp only [(id F_lOwe), (id zS), seval, cN3, h49, hI0, hI1, hat1, ht, h4]
    repeat refine ob ?_
    repeat refine ob ?_
    refine ⟨_, wk_on H [2, 3, 4, 5, 6, 7, 8, 19, 20, 21, 29, 30, 31] [502, 503, 505, 578] (onR hn (fun x h => by (try simp only [up_apply]); repeat rw [if_neg (by omega)]) _), q.1.claims.length - (c0 + 1), by omega, c0 + 1, (owS ds p i0 c0 y t), ?a15_s2, ?a15_nx, by omega, rfl, ?i15_0, ?i15_1, ?i15_2, ?st15⟩
    case st15 => (simp only [(id F_lOwe), (id zS), seval, owS, flat_snoc, cLeg, List.length_append, List.length_cons, List.length_nil, cN3, h49, hI0, hI1, hat1, ht, h4]; first | rfl | (simp [owS, flat_snoc, cLeg, List.length_append, List.length_cons, List.length_nil, hI0, hI1, hat1, ht, h4, Nat.add_mul]; done))
    case i15_0 => (first | exact hL1 | (rw [← hL1]; simp only [reduceIte, hI0, hI1, hat1, ht, h4]; done) | (rw [← hL1]; simp [hI0, hI1, hat1, ht, h4]; done) | (simp [hI0, hI1, hat1, ht, h4] at hL1; simpa using hL1) | (rw [← hL1]; simp [*]; done))
    case i15_1 => (first | omega | assumption | (simp; omega) | (simp_all; done))
    case i15_2 => (first | omega | assumption | (simp; omega) | (simp_all; done))
   refine awR [39] [none, none, none, none, none, some (40, false), some (40, false), some (40, false), some (40, false), none] ?_
   simp only [(id F_lOwe), (id zS), seval, cN3, h49, hI0, hI1, hat1, ht, h4]
   repeat refine ob ?_
   refine ⟨_, acallI_borrow (taken_A ⟨ps.map (·.1), ds⟩ i0 c0 hnd hdl) rfl (fun e σ w vs hW hd => ?_), ?_⟩
   ·
    obtain ⟨v1, vs1, rfl, d1, hd1⟩ := den1s_cons hd
    obtain ⟨v2, vs2, rfl, d2, hd2⟩ := den1s_cons hd1
    obtain ⟨v3, vs3, rfl, d3, hd3⟩ := den1s_cons hd2
    obtain ⟨us, rfl, du⟩ := d1
    exact ⟨⟨us, rfl, grp_read (er := 49) (s := s9) (n := ps.length) (ps := ps) (ds := ds) hW h49 rfl (fun j r hj => by (try simp only [up_apply]); (repeat rw [if_neg (by omega)]); exact htab j r hj) du⟩, d2, d3, den1s_nilU hd3⟩
   rintro res H' nx' ⟨rfl, rfl, rfl⟩
   try unfold Later
   try simp only [(id F_lOwe), (id zS), seval, cN3, h49, hI0, hI1, hat1, ht, h4]
   repeat refine ob ?_
   refine awF ?_
   refine awK ?_
   simp only [(id F_lOwe), (id zS), seval]
   have w3 : ((t.k : Nat) : Int).tmod 16 = ((t.k % 16 : Nat) : Int) := by norm_cast
   have w4 : IntKind.u64.wrap ((t.k % 16 : Nat) : Int) = ((t.k % 16 : Nat) : Int) := wr64 (t.k % 16) (by omega)
   have w5 := shr1 p.a (t.k % 16) hp.1 (by omega)
   refine awR [] [none, none, none, none, none, none, none, none, none, none] ?_
   simp only [(id F_lOwe), (id zS), seval, cN3, h49, hI0, hI1, hat1, ht, h4, w3, w4, w5]
   repeat refine ob ?_
   refine awR [] [none, none, none] ?_
   simp only [(id F_lOwe), (id zS), seval, cN3, h49, hI0, hI1, hat1, ht, h4]
   repeat refine ob ?_
   by_cases hb : ((p.a / 2 ^ (t.k % 16) % 2 : Nat) : Int) = 1
   ·
    have yhb : p.a / 2 ^ (t.k % 16) % 2 = 1 := by omega
    by_cases hz : (t.l.length : Int) = 0
    ·
     refine awR [] [none, none, some (58, true), some (58, true), some (58, true), some (58, true), some (58, true), some (63, false), some (63, false), some (63, false), some (63, false), some (58, true), none] ?_
     simp only [(id F_lOwe), (id zS), seval, cN3, h49, hI0, hI1, hat1, ht, h4, hb, yhb, hz, cClaim]
     repeat refine ob ?_
     refine awT ?_
     refine awR [] [none, none, none] ?_
     simp only [(id F_lOwe), (id zS), seval, cN3, h49, hI0, hI1, hat1, ht, h4, hb, yhb, hz, cClaim]
     repeat refine ob ?_
     refine awR [] [none, none, none, none, none, none, none, none, none] ?_
     simp only [(id F_lOwe), (id zS), seval, cN3, h49, hI0, hI1, hat1, ht, h4, hb, yhb, hz]
     repeat refine ob ?_
     refine awR [] [none, none] ?_
     simp only [(id F_lOwe), (id zS), seval, cN3, h49, hI0, hI1, hat1, ht, h4, hb, yhb, hz]
     repeat refine ob ?_
     repeat refine ob ?_
     refine ⟨_, wk_on H [2, 3, 4, 5, 6, 7, 8, 19, 20, 21, 29, 30, 31] [502, 503, 505, 578] (onR hn (fun x h => by (try simp only [up_apply]); repeat rw [if_neg (by omega)]) _), q.1.claims.length - (c0 + 1), by omega, c0 + 1, (owS ds p i0 c0 y t), ?a23_s2, ?a23_nx, by omega, rfl, ?i23_0, ?i23_1, ?i23_2, ?st23⟩
     case st23 => (simp only [(id F_lOwe), (id zS), seval, owS, flat_snoc, cLeg, List.length_append, List.length_cons, List.length_nil, cN3, h49, hI0, hI1, hat1, ht, h4, hb, yhb, hz]; first | rfl | (simp [owS, flat_snoc, cLeg, List.length_append, List.length_cons, List.length_nil, hI0, hI1, hat1, ht, h4, hb, yhb, hz, Nat.add_mul]; done))
     case i23_0 => (first | exact hL1 | (rw [← hL1]; simp only [reduceIte, hI0, hI1, hat1, ht, h4, hb, yhb, hz]; done) | (rw [← hL1]; simp [hI0, hI1, hat1, ht, h4, hb, yhb, hz]; done) | (simp [hI0, hI1, hat1, ht, h4, hb, yhb, hz] at hL1; simpa using hL1) | (rw [← hL1]; simp [*]; done))
     case i23_1 => (first | omega | assumption | (simp; omega) | (simp_all; done))
     case i23_2 => (first | omega | assumption | (simp; omega) | (simp_all; done))
    by_cases hh : y.holder = t.h
    ·
     refine awR [] [none, none, some (58, true), some (58, true), some (58, true), some (58, true), some (58, true), some (63, false), some (63, false), some (63, false), some (63, false), some (58, true), none] ?_
     simp only [(id F_lOwe), (id zS), seval, cN3, h49, hI0, hI1, hat1, ht, h4, hb, yhb, hz, hh, cClaim]
     repeat refine ob ?_
     refine awT ?_
     refine awR [] [none, none, none] ?_
     simp only [(id F_lOwe), (id zS), seval, cN3, h49, hI0, hI1, hat1, ht, h4, hb, yhb, hz, hh, cClaim]
     repeat refine ob ?_
     refine awR [] [none, none, none, none, none, none, none, none, none] ?_
     simp only [(id F_lOwe), (id zS), seval, cN3, h49, hI0, hI1, hat1, ht, h4, hb, yhb, hz, hh]
     repeat refine ob ?_
     refine awR [] [none, none] ?_
     simp only [(id F_lOwe), (id zS), seval, cN3, h49, hI0, hI1, hat1, ht, h4, hb, yhb, hz, hh]
     repeat refine ob ?_
     repeat refine ob ?_
     refine ⟨_, wk_on H [2, 3, 4, 5, 6, 7, 8, 19, 20, 21, 29, 30, 31] [502, 503, 505, 578] (onR hn (fun x h => by (try simp only [up_apply]); repeat rw [if_neg (by omega)]) _), q.1.claims.length - (c0 + 1), by omega, c0 + 1, (owS ds p i0 c0 y t), ?a28_s2, ?a28_nx, by omega, rfl, ?i28_0, ?i28_1, ?i28_2, ?st28⟩
     case st28 => (simp only [(id F_lOwe), (id zS), seval, owS, flat_snoc, cLeg, List.length_append, List.length_cons, List.length_nil, cN3, h49, hI0, hI1, hat1, ht, h4, hb, yhb, hz, hh]; first | rfl | (simp [owS, flat_snoc, cLeg, List.length_append, List.length_cons, List.length_nil, hI0, hI1, hat1, ht, h4, hb, yhb, hz, hh, Nat.add_mul]; done))
     case i28_0 => (first | exact hL1 | (rw [← hL1]; simp only [reduceIte, hI0, hI1, hat1, ht, h4, hb, yhb, hz, hh]; done) | (rw [← hL1]; simp [hI0, hI1, hat1, ht, h4, hb, yhb, hz, hh]; done) | (simp [hI0, hI1, hat1, ht, h4, hb, yhb, hz, hh] at hL1; simpa using hL1) | (rw [← hL1]; simp [*]; done))
     case i28_1 => (first | omega | assumption | (simp; omega) | (simp_all; done))
     case i28_2 => (first | omega | assumption | (simp; omega) | (simp_all; done))
    refine awR [] [none, none, some (58, true), some (58, true), some (58, true), some (58, true), some (58, true), some (63, false), some (63, false), some (63, false), some (63, false), some (58, true), none] ?_
    simp only [(id F_lOwe), (id zS), seval, cN3, h49, hI0, hI1, hat1, ht, h4, hb, yhb, hz, hh, cClaim]
    repeat refine ob ?_
    refine awF ?_
    refine awK ?_
    simp only [(id F_lOwe), (id zS), seval]
    refine awR [] [none, none] ?_
    simp only [(id F_lOwe), (id zS), seval, cN3, h49, hI0, hI1, hat1, ht, h4, hb, yhb, hz, hh]
    repeat refine ob ?_
    repeat refine ob ?_
    refine ⟨_, wk_on H [2, 3, 4, 5, 6, 7, 8, 19, 20, 21, 29, 30, 31] [502, 503, 505, 578] (onR hn (fun x h => by (try simp only [up_apply]); repeat rw [if_neg (by omega)]) _), q.1.claims.length - (c0 + 1), by omega, c0 + 1, (owS ds p i0 c0 y t), ?a31_s2, ?a31_nx, by omega, rfl, ?i31_0, ?i31_1, ?i31_2, ?st31⟩
    case st31 => (simp only [(id F_lOwe), (id zS), seval, owS, flat_snoc, cLeg, List.length_append, List.length_cons, List.length_nil, cN3, h49, hI0, hI1, hat1, ht, h4, hb, yhb, hz, hh]; first | rfl | (simp [owS, flat_snoc, cLeg, List.length_append, List.length_cons, List.length_nil, hI0, hI1, hat1, ht, h4, hb, yhb, hz, hh, Nat.add_mul]; done))
    case i31_0 => (first | exact hL1 | (rw [← hL1]; simp only [reduceIte, hI0, hI1, hat1, ht, h4, hb, yhb, hz, hh]; done) | (rw [← hL1]; simp [hI0, hI1, hat1, ht, h4, hb, yhb, hz, hh]; done) | (simp [hI0, hI1, hat1, ht, h4, hb, yhb, hz, hh] at hL1; simpa using hL1) | (rw [← hL1]; simp [*]; done))
    case i31_1 => (first | omega | assumption | (simp; omega) | (simp_all; done))
    case i31_2 => (first | omega | assumption | (simp; omega) | (simp_all; done))
   have yhb : ¬ p.a / 2 ^ (t.k % 16) % 2 = 1 := by omega
   refine awR [] [none, none, some (58, true), some (58, true), some (58, true), some (58, true), some (58, true), some (63, false), some (63, false), some (63, false), some (63, false), some (58, true), none] ?_
   simp only [(id F_lOwe), (id zS), seval, cN3, h49, hI0, hI1, hat1, ht, h4, hb, yhb, cClaim]
   repeat refine ob ?_
   refine awF ?_
   refine awK ?_
   simp only [(id F_lOwe), (id zS), seval]
   refine awR [] [none, none] ?_
   simp only [(id F_lOwe), (id zS), seval, cN3, h49, hI0, hI1, hat1, ht, h4, hb, yhb]
   repeat refine ob ?_
   repeat refine ob ?_
   refine ⟨_, wk_on H [2, 3, 4, 5, 6, 7, 8, 19, 20, 21, 29, 30, 31] [502, 503, 505, 578] (onR hn (fun x h => by (try simp only [up_apply]); repeat rw [if_neg (by omega)]) _), q.1.claims.length - (c0 + 1), by omega, c0 + 1, (owS ds p i0 c0 y t), ?a34_s2, ?a34_nx, by omega, rfl, ?i34_0, ?i34_1, ?i34_2, ?st34⟩
   case st34 => (simp only [(id F_lOwe), (id zS), seval, owS, flat_snoc, cLeg, List.length_append, List.length_cons, List.length_nil, cN3, h49, hI0, hI1, hat1, ht, h4, hb, yhb]; first | rfl | (simp [owS, flat_snoc, cLeg, List.length_append, List.length_cons, List.length_nil, hI0, hI1, hat1, ht, h4, hb, yhb, Nat.add_mul]; done))
   case i34_0 => (first | exact hL1 | (rw [← hL1]; simp only [reduceIte, hI0, hI1, hat1, ht, h4, hb, yhb]; done) | (rw [← hL1]; simp [hI0, hI1, hat1, ht, h4, hb, yhb]; done) | (simp [hI0, hI1, hat1, ht, h4, hb, yhb] at hL1; simpa using hL1) | (rw [← hL1]; simp [*]; done))
   case i34_1 => (first | omega | assumption | (simp; omega) | (simp_all; done))
   case i34_2 => (first | omega | assumption | (simp; omega) | (simp_all; done))
  obtain rfl : c0 = q.1.claims.length := by omega
  have hI1 : ¬ (q.1.claims.length : Int) < (q.1.claims.length : Int) := by omega
  rw [List.drop_length] at hL1
  simp only [owC] at hL1
  refine awR [] [none] ?_
  simp only [(id F_lOwe), (id zS), seval, cN3, h49, hI0, hI1]
  repeat refine ob ?_
  refine awF ?_
  refine awQ ?_
  simp only [(id F_lOwe), (id zS), seval]
  refine awR [] [none, none] ?_
  simp only [(id F_lOwe), (id zS), seval, cN3, h49, hI0, hI1]
  repeat refine ob ?_
  repeat refine ob ?_
  refine ⟨_, wk_on H [2, 3, 4, 5, 6, 7, 19, 20, 21] [502, 503, 505, 578] (onR hn (fun x h => by (try simp only [up_apply]); repeat rw [if_neg (by omega)]) _), ps.length - (i0 + 1), by omega, i0 + 1, ?a37_s, ?a37_s1, ?a37_nx, by omega, rfl, ?i37_0, ?i37_1, ?i37_2, ?st37⟩
  case st37 => (simp only [(id F_lOwe), (id zS), seval, cN3, h49, hI0, hI1]; first | rfl | (simp [hI0, hI1, Nat.add_mul]; done))
  case i37_0 => (rw [← hL0, ← hL1])
  case i37_1 => (first | omega | assumption | (simp; omega) | (simp_all; done))
  case i37_2 => (first | omega | assumption | (simp; omega) | (simp_all; done))
 obtain rfl : i0 = ps.length := by omega
 have hI0 : ¬ (ps.length : Int) < (ps.length : Int) := by omega
 rw [List.drop_length] at hL0
 simp only [List.map_cons, List.map_nil, owE] at hL0
 refine awR [] [none] ?_
 simp only [(id F_lOwe), (id zS), seval, cN3, h49, hI0]
 repeat refine ob ?_
 refine awF ?_
 refine awQ ?_
 simp only [(id F_lOwe), (id zS), seval]
 by_cases hr : ((p.b % 2 : Nat) : Int) = 1
 ·
  have yhr : p.b % 2 = 1 := by omega
  have w6 : ((p.b : Nat) : Int).tmod 2 = ((p.b % 2 : Nat) : Int) := by norm_cast
  refine awR [] [none, none, none, none] ?_
  simp only [(id F_lOwe), (id zS), seval, cN3, h49, hI0, hr, yhr, w6]
  repeat refine ob ?_
  refine awT ?_
  refine awD (scq [1, 3, 5, 7, 9, 11] .nil) [none, none, none, none, none, none] ?_
  simp only [(id F_lOwe), (id zS), seval, cN3, h49, hI0, hr, yhr]
  repeat refine ob ?_
  generalize hLg : s.l = L at *
  have e0 : (L.length : Int) - 1 = (L.length : Int) - 1 - ((0 : Nat) : Int) := by omega
  rw [e0]
  refine awp_on H [2, 3, 4, 5, 12, 13] [502, 503, 505, 578] (onR hn (fun x h => by (try simp only [up_apply]); repeat rw [if_neg (by omega)]) _) ?_
  try unfold Later
  try simp only [(id F_lOwe), (id zS), seval, cN3, h49, hI0, hr, yhr]
  repeat' first|apply awS|apply awB
  refine awp_loopw (fun n st => ∃ m s1 nx, m ≤ L.length / 2 ∧ n = L.length - m ∧ st = ⟨mkT [(2, .val (.one (.ptr 502 ny 0))), (3, .val (.one (.ptr 503 (ny + 1) 0))), (4, .val (.one (.lit (.slice none 0 0)))), (5, .val (.one (.ptr 505 (ny + 2) 0))), (12, one (.int .i64 m)), (13, one (.int .i64 ((L.length : Int) - 1 - m)))], mkOn H [(502, ⟨ny, 30, 2, 1, [.own 49 s9 ps.length 5, .sh 4 ds.length (flat cDebt ds)]⟩), (503, ⟨ny + 1, 107, 3, 1, cN3 p⟩), (505, ⟨ny + 2, 50, 4, 1, [.lit (.bool (enc (qAmt p.c)).neg), .lit (.string (enc (qAmt p.c)).num), .lit (.string (enc (qAmt p.c)).den), .own 578 s1 (rvL L m).length 2]⟩), (578, ⟨s1, 39, 2, (rvL L m).length, flat cLeg (rvL L m)⟩)], nx, 500⟩) (L.length) ⟨0, _, _, by omega, by omega, rfl⟩ ?_
  rintro n2 st ⟨m, s1, nx2, hm, rfl, rfl⟩
  by_cases hlt : (m : Int) < (L.length : Int) - 1 - m
  ·
   refine awR [] [none, none, none] ?_
   simp only [(id F_lOwe), (id zS), seval, cN3, h49, hI0, hr, yhr, hlt]
   repeat refine ob ?_
   refine awT ?_
   refine awK ?_
   simp only [(id F_lOwe), (id zS), seval]
   obtain ⟨j, hj⟩ : ∃ j : Nat, (L.length : Int) - 1 - m = j := ⟨L.length - 1 - m, by omega⟩
   have hjn : j = L.length - 1 - m := by omega
   simp only [hj]
   have hm1 : m < (rvL L m).length := by rw [rvL_len]; omega
   have hj1 : j < (rvL L m).length := by rw [rvL_len]; omega
   have hln := rvL_len L m
   have a1 := flat_at cLeg_len (rvL L m) m hm1
   have a2 := flat_at cLeg_len (rvL L m) j hj1
   have b1 := flat_set cLeg_len (rvL L m) m (rvL L m)[j] hm1
   have b2 := flat_set cLeg_len ((rvL L m).set m (rvL L m)[j]) j (rvL L m)[m] (by simpa using hj1)
   simp only [cLeg] at a1 a2 b1 b2
   have f1 := flat_length cLeg_len (rvL L m)
   have f2 := flat_length cLeg_len ((rvL L m).set m (rvL L m)[j])
   rw [List.length_set] at f2
   refine awD (scq [1, 3, 5, 7, 11, 13, 15, 17, 19, 21, 23, 25, 27, 29, 31, 33] (.two 4 17 (scq [34, 37, 38] .nil) (scq [9, 37, 38] .nil))) [none, none, none, none, none, none, none, none, none, none, none, none, none, none, none, none, none, none, none, none] ?_
   simp only [(id F_lOwe), (id zS), seval, cN3, h49, hI0, hr, yhr, hlt, a1, a2, b1, b2, f1, f2]
   repeat refine ob ?_
   refine ⟨?_, ?_⟩
   ·
    repeat refine ob ?_
    refine awR [] [none, none, none, none, none, none] ?_
    simp only [(id F_lOwe), (id zS), seval, cN3, h49, hI0, hr, yhr, hlt]
    repeat refine ob ?_
    repeat refine ob ?_
    have hr1 : rvL L (m + 1) = ((rvL L m).set m (rvL L m)[j]).set j (rvL L m)[m] := by simp [rvL, swp, ← hjn, hm1, hj1]
    have e1 : (j : Int) - 1 = (L.length : Int) - 1 - ((m + 1 : Nat) : Int) := by omega
    refine ⟨_, wk_on H [2, 3, 4, 5, 12, 13] [502, 503, 505, 578] (onR hn (fun x h => by (try simp only [up_apply]); repeat rw [if_neg (by omega)]) _), L.length - (m + 1), by omega, m + 1, s1, nx2, by omega, rfl, ?_⟩
    simp only [(id F_lOwe), (id zS), seval, hr1, List.length_set, e1, Int.natCast_add]
    try rfl
   repeat refine ob ?_
   refine awR [] [none, none, none, none, none, none] ?_
   simp only [(id F_lOwe), (id zS), seval, cN3, h49, hI0, hr, yhr, hlt]
   repeat refine ob ?_
   repeat refine ob ?_
   have hr1 : rvL L (m + 1) = ((rvL L m).set m (rvL L m)[j]).set j (rvL L m)[m] := by simp [rvL, swp, ← hjn, hm1, hj1]
   have e1 : (j : Int) - 1 = (L.length : Int) - 1 - ((m + 1 : Nat) : Int) := by omega
   refine ⟨_, wk_on H [2, 3, 4, 5, 12, 13] [502, 503, 505, 578] (onR hn (fun x h => by (try simp only [up_apply]); repeat rw [if_neg (by omega)]) _), L.length - (m + 1), by omega, m + 1, s1, nx2, by omega, rfl, ?_⟩
   simp only [(id F_lOwe), (id zS), seval, hr1, List.length_set, e1, Int.natCast_add]
   try rfl
  refine awR [] [none, none, none] ?_
  simp only [(id F_lOwe), (id zS), seval, cN3, h49, hI0, hr, yhr, hlt]
  repeat refine ob ?_
  refine awF ?_
  refine awQ ?_
  simp only [(id F_lOwe), (id zS), seval]
  refine awp_pubc 578 505 3 (by rfl) (by rfl) (by rfl) (by decide) (by show (2 : Nat) ≠ 0; decide) (by show (4 : Nat) ≠ 0; decide) rfl ?_
  simp only [(id F_lOwe), (id zS), seval]
  refine awD (scq [1, 3] (.two 2 3 (scq [7, 8, 10, 13] .nil) (.two 2 4 (scq [8, 10, 13] .nil) (scq [4, 10, 13] .nil)))) [none, none, none, none, none, none, none] ?_
  simp only [(id F_lOwe), (id zS), seval, cN3, h49, hI0, hr, yhr, hlt, flat_pure cDebt_pure, flat_pure cLeg_pure, pure_append]
  repeat refine ob ?_
  refine ⟨?_, ?_⟩
  ·
   repeat refine ob ?_
   have hm2 : m = L.length / 2 := by omega
   subst hm2
   refine awp_pub (t := 4) (by rfl) (by rfl) (by decide) (by rfl) ?_
   refine awp_on H [4] [] (onR hn (fun x h => by (try simp only [up_apply]); repeat rw [if_neg (by omega)]) _) ?_
   simp only [(id F_lOwe), (id zS), seval]
   refine awX ?_
   simp only [(id F_lOwe), (id zS), seval, flat_pure cDebt_pure, flat_pure cLeg_pure]
   simp [owN, ← hL0, yhr, hLg, cDebt, flat_append, flat_cons, flat_nil, rvL_len, pure_append, pureCs, pureC, flat_pure cDebt_pure, flat_pure cLeg_pure]
  repeat refine ob ?_
  refine ⟨?_, ?_⟩
  ·
   repeat refine ob ?_
   have hm2 : m = L.length / 2 := by omega
   subst hm2
   refine awp_pub (t := 4) (by rfl) (by rfl) (by decide) (by rfl) ?_
   refine awp_on H [4] [] (onR hn (fun x h => by (try simp only [up_apply]); repeat rw [if_neg (by omega)]) _) ?_
   simp only [(id F_lOwe), (id zS), seval]
   refine awX ?_
   simp only [(id F_lOwe), (id zS), seval, flat_pure cDebt_pure, flat_pure cLeg_pure]
   simp [owN, ← hL0, yhr, hLg, cDebt, flat_append, flat_cons, flat_nil, rvL_len, pure_append, pureCs, pureC, flat_pure cDebt_pure, flat_pure cLeg_pure]
  repeat refine ob ?_
  have hm2 : m = L.length / 2 := by omega
  subst hm2
  refine awp_pub (t := 4) (by rfl) (by rfl) (by decide) (by rfl) ?_
  refine awp_on H [4] [] (onR hn (fun x h => by (try simp only [up_apply]); repeat rw [if_neg (by omega)]) _) ?_
  simp only [(id F_lOwe), (id zS), seval]
  refine awX ?_
  simp only [(id F_lOwe), (id zS), seval, flat_pure cDebt_pure, flat_pure cLeg_pure]
  simp [owN, ← hL0, yhr, hLg, cDebt, flat_append, flat_cons, flat_nil, rvL_len, pure_append, pureCs, pureC, flat_pure cDebt_pure, flat_pure cLeg_pure]
 have yhr : ¬ p.b % 2 = 1 := by omega
 have w6 : ((p.b : Nat) : Int).tmod 2 = ((p.b % 2 : Nat) : Int) := by norm_cast
 refine awR [] [none, none, none, none] ?_
 simp only [(id F_lOwe), (id zS), seval, cN3, h49, hI0, hr, yhr, w6]
 repeat refine ob ?_
 refine awF ?_
 refine awK ?_
 simp only [(id F_lOwe), (id zS), seval]
 refine awp_pubc 578 505 3 (by rfl) (by rfl) (by rfl) (by decide) (by show (2 : Nat) ≠ 0; decide) (by show (4 : Nat) ≠ 0; decide) rfl ?_
 simp only [(id F_lOwe), (id zS), seval]
 refine awD (scq [1, 3] (.two 2 3 (scq [7, 8, 10, 13] .nil) (.two 2 4 (scq [8, 10, 13] .nil) (scq [4, 10, 13] .nil)))) [none, none, none, none, none, none, none] ?_
 simp only [(id F_lOwe), (id zS), seval, cN3, h49, hI0, hr, yhr, flat_pure cDebt_pure, flat_pure cLeg_pure, pure_append]
 repeat refine ob ?_
 refine ⟨?_, ?_⟩
 ·
  repeat refine ob ?_
  refine awp_pub (t := 4) (by rfl) (by rfl) (by decide) (by rfl) ?_
  refine awp_on H [4] [] (onR hn (fun x h => by (try simp only [up_apply]); repeat rw [if_neg (by omega)]) _) ?_
  simp only [(id F_lOwe), (id zS), seval]
  refine awX ?_
  simp only [(id F_lOwe), (id zS), seval, flat_pure cDebt_pure, flat_pure cLeg_pure]
  simp [owN, ← hL0, yhr, cDebt, flat_append, flat_cons, flat_nil, rvL_len, pure_append, pureCs, pureC, flat_pure cDebt_pure, flat_pure cLeg_pure]
 repeat refine ob ?_
 refine ⟨?_, ?_⟩
 ·
  repeat refine ob ?_
  refine awp_pub (t := 4) (by rfl) (by rfl) (by decide) (by rfl) ?_
  refine awp_on H [4] [] (onR hn (fun x h => by (try simp only [up_apply]); repeat rw [if_neg (by omega)]) _) ?_
  simp only [(id F_lOwe), (id zS), seval]
  refine awX ?_
  simp only [(id F_lOwe), (id zS), seval, flat_pure cDebt_pure, flat_pure cLeg_pure]
  simp [owN, ← hL0, yhr, cDebt, flat_append, flat_cons, flat_nil, rvL_len, pure_append, pureCs, pureC, flat_pure cDebt_pure, flat_pure cLeg_pure]
 repeat refine ob ?_
 refine awp_pub (t := 4) (by rfl) (by rfl) (by decide) (by rfl) ?_
 refine awp_on H [4] [] (onR hn (fun x h => by (try simp only [up_apply]); repeat rw [if_neg (by omega)]) _) ?_
 simp only [(id F_lOwe), (id zS), seval]
 refine awX ?_
 simp only [(id F_lOwe), (id zS), seval, flat_pure cDebt_pure, flat_pure cLeg_pure]
 simp [owN, ← hL0, yhr, cDebt, flat_append, flat_cons, flat_nil, rvL_len, pure_append, pureCs, pureC, flat_pure cDebt_pure, flat_pure cLeg_pure]
end Go.Proofs.YtogeijhepjcbgaaGreatDoor
