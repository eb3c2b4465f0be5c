/- The builder of groups: law0.Group; walked by the abstract machine. -/
import Derived.Test.YtokmkopihhnggaaGreatDoorBl3M
set_option linter.unusedVariables false
set_option linter.unusedSimpArgs false
set_option linter.defProp false
namespace Go.Proofs.YtokmkopihhnggaaGreatDoor
open Go Go.RowKit
theorem tmodN (n m : Nat) : ((n : Nat) : Int).tmod (m : Int) = ((n % m : Nat) : Int) := by norm_cast
def F11 := And.intro zS (And.intro tf104 (And.intro tf116 (And.intro tf117 (And.intro tf118 (And.intro tf109 (And.intro tf119 (And.intro tf120 (And.intro tf121 (And.intro tf23 (And.intro tf24 (And.intro tf92 (And.intro tf110 (And.intro tf122 (And.intro tf28 (And.intro tf29 (And.intro tf30 (And.intro tf111 (And.intro tf95 (And.intro tf123 (And.intro tf124 (And.intro tf31 (And.intro tf32 (And.intro tf98 (And.intro tf112 (And.intro tf75 (And.intro tf113 (And.intro tf18 (And.intro tf105 (And.intro tf106 (And.intro tf125 (And.intro tf84 (And.intro tf85 (And.intro tf126 (And.intro tf4 (And.intro tf107 (And.intro tf89 (And.intro tf127 (And.intro tf128 (And.intro tf36 (And.intro tf86 (tf129)))))))))))))))))))))))))))))))))))))))))
set_option maxRecDepth 100000 in
set_option maxHeartbeats 4000000 in
theorem group_A (n : Nat) (cash : List Nat) (list : List N4) (pools debts : List N3) (hn : n < 256) (hcs : ∀ x ∈ cash, x < 65536) (hl : ∀ x ∈ list, x.a < 65536 ∧ x.b < 65536 ∧ x.c < 65536 ∧ x.d < 65536) (hpo : ∀ p ∈ pools, p.a < 65536 ∧ p.b < 65536 ∧ p.c < 65536) (hdo : ∀ p ∈ debts, p.a < 65536 ∧ p.b < 65536 ∧ p.c < 65536)
  (hc0 : cash.length ≤ 9223372036854775807) (hl0 : list.length ≤ 9223372036854775807) (hp0 : pools.length ≤ 9223372036854775807) (hd0 : debts.length ≤ 9223372036854775807) : ACall Tryz.prog 12 [.one (.lit (.int .u8 n)), .one (.sh 1 cash.length (flat cU16 cash)), .one (.sh 4 list.length (flat cN4 list)), .one (.sh 3 pools.length (flat cN3 pools)), .one (.sh 3 debts.length (flat cN3 debts))] (.val (.agg (cGrp (grpN n cash list pools debts)))) := by
 refine acall_of Tryz.func12 rfl (by decide) (N := 155) rfl (by simp) (R := [.cell 10 28]) rfl fun en k0 => ?_
 refine awN ?_
 simp only [(id F11), seval]
 repeat refine ob ?_
 refine awN ?_
 simp only [(id F11), seval]
 repeat refine ob ?_
 have w1 : IntKind.i64.wrap ((n % 4 : Nat) : Int) = ((n % 4 : Nat) : Int) := wri _ (by omega)
 have w2 : ((n : Nat) : Int).tmod 4 = ((n % 4 : Nat) : Int) := tmodN n 4
 have w3 : (1 : Int) + ((n % 4 : Nat) : Int) = ((1 + n % 4 : Nat) : Int) := by omega
 refine awN ?_
 simp only [(id F11), seval, w1, w2, w3]
 repeat refine ob ?_
 generalize hsz : 1 + n % 4 = size at *
 refine awN ?_
 simp only [(id F11), seval]
 repeat refine ob ?_
 refine awp_nilc 11 0 49 _ 36 5 (by decide) (by rfl) (by decide) (by simp) (by rfl) ?_
 refine awp_keep [1, 2, 3, 4, 10, 11, 12, 13] [49, 10, 11] ?_
 try unfold Later
 try simp only [(id F11), seval]
 repeat' first|apply awS|apply awB
 refine awp_loopw (fun n st => ∃ i s nx, i ≤ size ∧ n = size - i ∧ st = ⟨mkT [(1, .val (.one (.sh 1 cash.length (flat cU16 cash)))), (2, .val (.one (.sh 4 list.length (flat cN4 list)))), (3, .val (.one (.sh 3 pools.length (flat cN3 pools)))), (4, .val (.one (.sh 3 debts.length (flat cN3 debts)))), (10, .val (.one (.ptr 10 0 0))), (11, .val (.one (.ptr 11 1 0))), (12, one (.int .i64 (size : Int))), (13, one (.int .i64 i))], mkH [(49, ⟨s, 36, 5, i, eRow fNil ((List.range i).map (fun j => (mkEst cash j, 0))) 0⟩), (10, ⟨0, 28, 2, 1, [.lit (.slice none 0 0), .lit (.slice none 0 0)]⟩), (11, ⟨1, 28, 2, 1, [.own 49 s i 5, .lit (.slice none 0 0)]⟩)], nx, 0⟩) (size) ⟨0, _, _, by omega, by omega, rfl⟩ ?_
 rintro n0 st ⟨i, s, nx0, hi, rfl, rfl⟩
 by_cases hI : (i : Int) < (size : Int)
 ·
  refine awN ?_
  simp only [(id F11), seval, hI]
  repeat refine ob ?_
  refine awT ?_
  refine awK ?_
  simp only [(id F11), seval]
  refine awN ?_
  simp only [(id F11), seval, hI]
  repeat refine ob ?_
  by_cases hc : (i : Int) < (cash.length : Int)
  ·
   refine awN ?_
   simp only [(id F11), seval, hI, hc]
   repeat refine ob ?_
   refine awT ?_
   have hcl : i < cash.length := by omega
   have hatc := flat_at cU16_len cash i hcl
   rw [Nat.mul_one] at hatc
   have hci := hcs _ (List.getElem_mem hcl)
   refine awN ?_
   simp only [(id F11), seval, hI, hc, hatc, cU16, cRat]
   repeat refine ob ?_
   refine ⟨_, (aAmount _ hci), (by first | rfl | simp [allA, pure1, pureCs, pureC, A1.cells, flat_pure cAgr_pure, flat_pure cDebt_pure, flat_pure cEst_pure]), ?_⟩
   try unfold Later
   try simp only [(id F11), seval, hI, hc, hatc, cU16, cRat]
   repeat refine ob ?_
   refine awN ?_
   simp only [(id F11), seval, hI, hc]
   repeat refine ob ?_
   refine awN ?_
   simp only [(id F11), seval, hI, hc]
   repeat refine ob ?_
   have hmk : (mkEst cash i).cash = enc (qAmt cash[i]) := by unfold mkEst; simp [gAmt, hcl]
   have hrw : eRow fNil ((List.range (i + 1)).map (fun j => (mkEst cash j, 0))) 0 = eRow fNil ((List.range i).map (fun j => (mkEst cash j, 0))) 0 ++ [.lit (.bool (enc (qAmt cash[i])).neg), .lit (.string (enc (qAmt cash[i])).num), .lit (.string (enc (qAmt cash[i])).den), .lit (.slice none 0 0), .lit (.slice none 0 0)] := by rw [List.range_succ, List.map_append, eRow_append]; simp only [List.map_cons, List.map_nil, eRow, hmk, fNil, List.append_nil]
   repeat refine ob ?_
   refine ⟨_, wk_keep [1, 2, 3, 4, 10, 11, 12, 13] [49, 10, 11], size - (i + 1), by omega, i + 1, nx0 + 2, nx0 + 3, by omega, rfl, ?_⟩
   simp only [(id F11), seval, hrw]
   try rfl
  refine awN ?_
  simp only [(id F11), seval, hI, hc]
  repeat refine ob ?_
  refine awF ?_
  refine awK ?_
  simp only [(id F11), seval]
  refine awN ?_
  simp only [(id F11), seval, hI, hc]
  repeat refine ob ?_
  refine awN ?_
  simp only [(id F11), seval, hI, hc]
  repeat refine ob ?_
  have hmk : (mkEst cash i).cash = gZ := by unfold mkEst; simp [show ¬ i < cash.length by omega]
  have hrw : eRow fNil ((List.range (i + 1)).map (fun j => (mkEst cash j, 0))) 0 = eRow fNil ((List.range i).map (fun j => (mkEst cash j, 0))) 0 ++ [.lit (.bool (gZ).neg), .lit (.string (gZ).num), .lit (.string (gZ).den), .lit (.slice none 0 0), .lit (.slice none 0 0)] := by rw [List.range_succ, List.map_append, eRow_append]; simp only [List.map_cons, List.map_nil, eRow, hmk, fNil, List.append_nil]
  repeat refine ob ?_
  refine ⟨_, wk_keep [1, 2, 3, 4, 10, 11, 12, 13] [49, 10, 11], size - (i + 1), by omega, i + 1, nx0 + 2, nx0 + 3, by omega, rfl, ?_⟩
  simp only [(id F11), seval, hrw]
  try rfl
 refine awN ?_
 simp only [(id F11), seval, hI]
 repeat refine ob ?_
 refine awF ?_
 refine awQ ?_
 simp only [(id F11), seval]
 refine awN ?_
 simp only [(id F11), seval, hI]
 repeat refine ob ?_
 obtain rfl : size = i := by omega
 refine awp_keep [3, 4, 10, 11, 12, 51, 52, 53] [49, 10, 11] ?_
 try unfold Later
 try simp only [(id F11), seval, hI]
 rw [eRow_fst (m := (List.range size).map (fun j => (mkEst cash j, nx0 + j))) 0 (by rw [List.map_map, List.map_map]; rfl)]
 refine awp_wk (wk_nils 103 38 36 (by decide) 49 [(10, ⟨0, 28, 2, 1, [.lit (.slice none 0 0), .lit (.slice none 0 0)]⟩), (11, ⟨1, 28, 2, 1, [.own 49 s size 5, .lit (.slice none 0 0)]⟩)] (by simp) (by decide) size nx0 ((List.range size).map (fun j => (mkEst cash j, nx0 + j))) (fun j p hj => ?_)) ?_
 ·
  rw [List.getElem?_map] at hj
  obtain ⟨i, hi, rfl⟩ := Option.map_eq_some_iff.1 hj
  obtain rfl : j = i := by obtain ⟨h1, h2⟩ := List.getElem?_eq_some_iff.1 hi; simpa using h2
  exact ⟨rfl, rfl⟩
 repeat' first|apply awS|apply awB
 refine awp_loopw (fun n st => ∃ k ps s nx, k ≤ list.length ∧ n = list.length - k ∧ (list.drop k).foldl (addClaim size) (ps.map (·.1)) = list.foldl (addClaim size) ((List.range size).map (mkEst cash)) ∧ ps.length = size ∧ (∀ e ∈ ps.map (·.1), okC e) ∧ st = ⟨mkT [(3, .val (.one (.sh 3 pools.length (flat cN3 pools)))), (4, .val (.one (.sh 3 debts.length (flat cN3 debts)))), (10, .val (.one (.ptr 10 0 0))), (11, .val (.one (.ptr 11 1 0))), (12, one (.int .i64 (size : Int))), (51, .val (.one (.sh 4 list.length (flat cN4 list)))), (52, one (.int .i64 list.length)), (53, one (.int .i64 k))], mkOn (tbl 103 38 ps) [(49, ⟨s, 36, 5, size, eRow (fOwn 103) ps 0⟩), (10, ⟨0, 28, 2, 1, [.lit (.slice none 0 0), .lit (.slice none 0 0)]⟩), (11, ⟨1, 28, 2, 1, [.own 49 s size 5, .lit (.slice none 0 0)]⟩)], nx, 0⟩) (list.length) ⟨0, (List.range size).map (fun j => (mkEst cash j, nx0 + j)), _, _, by omega, by omega, by rw [List.drop_zero, List.map_map]; rfl, by simp, by intro e he; simp only [List.map_map, List.mem_map] at he; obtain ⟨j, _, rfl⟩ := he; exact ⟨by simp [mkEst], rfl⟩, rfl⟩ ?_
 rintro n1 st ⟨k, ps, s, nx1, hk, rfl, hL1, hpl, hok, rfl⟩
 by_cases hlt1 : (k : Int) < (list.length : Int)
 ·
  refine awN ?_
  simp only [(id F11), seval, hI, hlt1]
  repeat refine ob ?_
  refine awT ?_
  refine awK ?_
  simp only [(id F11), seval]
  have hltn : k < list.length := by omega
  have hx3 := hl _ (List.getElem_mem hltn)
  have hatl := flat_at cN4_len list k hltn
  rw [List.drop_eq_getElem_cons hltn, List.foldl_cons] at hL1
  generalize list[k] = x at *
  obtain ⟨j, hj⟩ : ∃ j, j = x.a % size := ⟨_, rfl⟩
  have hjl : j < ps.length := by rw [hpl, hj]; exact Nat.mod_lt _ (by omega)
  obtain ⟨p, hp⟩ : ∃ p, ps[j]? = some p := ⟨_, List.getElem?_eq_getElem hjl⟩
  refine awN ?_
  simp only [(id F11), seval, hI, hlt1, hatl, cN4]
  repeat refine ob ?_
  have w4 := tmodN x.a size
  refine awN ?_
  simp only [(id F11), seval, hI, hlt1, w4]
  repeat refine ob ?_
  by_cases h6 : (6 : Int) ≤ (p.1.claims.length : Int)
  ·
   rw [← hj]
   obtain ⟨b, hb⟩ : ∃ b, b = 1000 * (j + 1) := ⟨_, rfl⟩
   have hgd : (ps.map (·.1)).getD j ztEst = p.1 := by rw [List.getD_eq_getElem?_getD, List.getElem?_map, hp]; rfl
   have hown : fOwn 103 j p = .own (b + 103) p.2 p.1.claims.length 5 := by simp [fOwn, hb]
   have hget := eRow_get3 (fOwn 103) ps j p hp
   rw [hown] at hget
   have hx1 : (b + 103 = b + 102) = False := by simp
   have hx2 : (b + 102 = b + 103) = False := by simp
   have hrl := eRow_len (fOwn 103) ps 0
   have htb : tbl 103 38 ps (b + 103) = some ⟨p.2, 38, 5, p.1.claims.length, flat cClaim p.1.claims⟩ := by rw [hb]; exact tbl_at (by decide) hp
   have F103 : ∀ c, c < 1000 → ((b + 103 = c) = False ∧ (c = b + 103) = False) := fun c hc => ⟨by simp; omega, by simp; omega⟩
   have F102 : ∀ c, c < 1000 → ((b + 102 = c) = False ∧ (c = b + 102) = False) := fun c hc => ⟨by simp; omega, by simp; omega⟩
   refine awN ?_
   simp only [(id F11), seval, hI, hlt1, h6, hget, F103, F102, hx1, hx2, htb]
   repeat refine ob ?_
   refine awT ?_
   refine awQ ?_
   simp only [(id F11), seval]
   refine awN ?_
   simp only [(id F11), seval, hI, hlt1, h6]
   repeat refine ob ?_
   have hsame : addClaim size (ps.map (·.1)) x = ps.map (·.1) := by unfold addClaim; rw [← hj, hgd, if_pos (by omega)]
   rw [hsame] at hL1
   refine ⟨_, (wk_on (tbl 103 38 ps) [3, 4, 10, 11, 12, 51, 52, 53] [49, 10, 11] (by intro y B h; obtain ⟨q, r, rfl, h2, h3⟩ := tbl_some h; right; simpa [up_apply, show 1000 * (q + 1) + 103 ≠ 49 by omega, show 1000 * (q + 1) + 103 ≠ 16 by omega, show 1000 * (q + 1) + 103 ≠ 11 by omega, show 1000 * (q + 1) + 103 ≠ 10 by omega] using h)).trans (wk_nb 0), list.length - (k + 1), by omega, k + 1, ps, s, ?nq23, by omega, rfl, hL1, hpl, hok, ?sq23⟩
   case sq23 => (simp only [(id F11), seval]; rfl)
  rw [← hj]
  obtain ⟨b, hb⟩ : ∃ b, b = 1000 * (j + 1) := ⟨_, rfl⟩
  have hgd : (ps.map (·.1)).getD j ztEst = p.1 := by rw [List.getD_eq_getElem?_getD, List.getElem?_map, hp]; rfl
  have hown : fOwn 103 j p = .own (b + 103) p.2 p.1.claims.length 5 := by simp [fOwn, hb]
  have hget := eRow_get3 (fOwn 103) ps j p hp
  rw [hown] at hget
  have hx1 : (b + 103 = b + 102) = False := by simp
  have hx2 : (b + 102 = b + 103) = False := by simp
  have hrl := eRow_len (fOwn 103) ps 0
  have htb : tbl 103 38 ps (b + 103) = some ⟨p.2, 38, 5, p.1.claims.length, flat cClaim p.1.claims⟩ := by rw [hb]; exact tbl_at (by decide) hp
  have F103 : ∀ c, c < 1000 → ((b + 103 = c) = False ∧ (c = b + 103) = False) := fun c hc => ⟨by simp; omega, by simp; omega⟩
  have F102 : ∀ c, c < 1000 → ((b + 102 = c) = False ∧ (c = b + 102) = False) := fun c hc => ⟨by simp; omega, by simp; omega⟩
  refine awN ?_
  simp only [(id F11), seval, hI, hlt1, h6, hget, F103, F102, hx1, hx2, htb]
  repeat refine ob ?_
  refine awF ?_
  refine awK ?_
  simp only [(id F11), seval]
  have w5 : ((x.b : Nat) : Int).tmod ((size : Int) + 1) = ((x.b % (size + 1) : Nat) : Int) := tmodN x.b (size + 1)
  refine awN ?_
  simp only [(id F11), seval, hI, hlt1, h6, cN4, w5]
  repeat refine ob ?_
  by_cases hh1 : ((x.b % (size + 1) : Nat) : Int) = (j : Int)
  ·
   refine awR [] [none, none, none, none, some (79, false), some (79, false), some (79, false), none] ?_
   simp only [(id F11), seval, hI, hlt1, h6, hh1]
   repeat refine ob ?_
   refine awT ?_
   refine awN ?_
   simp only [(id F11), seval, hI, hlt1, h6, hh1]
   repeat refine ob ?_
   have w6 : ((x.c : Nat) : Int).tmod 3 = ((x.c % 3 : Nat) : Int) := tmodN x.c 3
   have w7 : IntKind.i64.wrap ((x.c % 3 : Nat) : Int) = ((x.c % 3 : Nat) : Int) := wri _ (by omega)
   have hhold : mkHolder size (x.a % size) x.b = -1 := by unfold mkHolder; rw [if_pos (by rw [← hj]; omega)]
   refine awp_nb b ?_
   dsimp only
   refine awD (scq [1] (scT 2 14 (.two 1 16 (scq [32, 35, 36, 38, 41, 43, 44] .nil) (scq [35] (.two 1 18 (scq [36, 38, 41, 43, 44] .nil) (.two 1 19 (scq [38, 41, 43, 44] .nil) (scq [3, 41, 43, 44] .nil))))))) [none, none, none, none, none, none, none, none, none, none, none, none, none, none, none, none, none, none, none, none, none, none, none] ?_
   simp only [(id F11), seval, hI, hlt1, h6, hh1, hget, F103, F102, hx1, hx2, htb, cN4, cRat, w6, w7]
   repeat refine ob ?_
   refine ⟨?_, ?_⟩
   ·
    repeat refine ob ?_
    refine ⟨_, (aAmount x.d hx3.2.2.2), (by first | rfl | simp [allA, pure1, pureCs, pureC, A1.cells, flat_pure cAgr_pure, flat_pure cDebt_pure, flat_pure cEst_pure]), ?_⟩
    try unfold Later
    try simp only [(id F11), seval, hI, hlt1, h6, hh1, hget, F103, F102, hx1, hx2, htb, cN4, cRat, w6, w7]
    repeat refine ob ?_
    refine awN ?_
    simp only [(id F11), seval, hI, hlt1, h6, hh1]
    repeat refine ob ?_
    have hadd : addClaim size (ps.map (·.1)) x = (ps.set j ({ p.1 with claims := p.1.claims ++ [mkClaim size x] }, nx1 + 2)).map (·.1) := by rw [List.map_set]; unfold addClaim; rw [← hj, hgd, if_neg (by omega)]
    rw [hadd] at hL1
    have hok2 := addClaim_ok size (ps.map (·.1)) x hok
    rw [hadd] at hok2
    have hsub : ∀ q r, (ps.set j ({ p.1 with claims := p.1.claims ++ [mkClaim size x] }, nx1 + 2))[q]? = some r → r = ({ p.1 with claims := p.1.claims ++ [mkClaim size x] }, nx1 + 2) ∧ q = j ∨ q ≠ j ∧ ps[q]? = some r := by
     intro q r hq
     by_cases hqj : q = j
     ·
      subst hqj; rw [List.getElem?_set_self hjl] at hq; exact .inl ⟨(Option.some.inj hq).symm, rfl⟩
     rw [List.getElem?_set_ne (fun h => hqj h.symm)] at hq; exact .inr ⟨hqj, hq⟩
    have hrow := eRow_set3 (fOwn 103) (fOwn 103) ps j p ({ p.1 with claims := p.1.claims ++ [mkClaim size x] }, nx1 + 2) hp rfl (fun _ _ _ _ => rfl)
    have hfo : fOwn 103 j ({ p.1 with claims := p.1.claims ++ [mkClaim size x] }, nx1 + 2) = .own (b + 103) (nx1 + 2) (p.1.claims.length + 1) 5 := by simp [fOwn, hb]
    rw [hfo, ← spl_one _ _ _ (by rw [eRow_len]; omega)] at hrow
    refine ⟨_, (wk_on (tbl 103 38 (ps.set j ({ p.1 with claims := p.1.claims ++ [mkClaim size x] }, nx1 + 2))) [3, 4, 10, 11, 12, 51, 52, 53] [49, 10, 11] (tbl_sub (fun q r hq => ?tq30) _)).trans (wk_nb 0), list.length - (k + 1), by omega, k + 1, ps.set j ({ p.1 with claims := p.1.claims ++ [mkClaim size x] }, nx1 + 2), s, nx1 + 3, by omega, rfl, hL1, by rw [List.length_set]; exact hpl, hok2, ?sq30⟩
    case sq30 => (simp only [(id F11), seval, hrow]; rfl)
    case tq30 =>
     rcases hsub q r hq with ⟨rfl, rfl⟩ | ⟨h1, h2⟩
     ·
      simp only [← hb, up_apply, F103, F102, seval, if_true, if_false, reduceIte, List.length_append, List.length_cons, List.length_nil, Nat.zero_add, flat_snoc, cClaim, mkClaim, hhold, gAmt]
     have g1 : 1000 * (q + 1) + 103 ≠ b + 103 := by omega
     have g2 : 1000 * (q + 1) + 103 ≠ b + 102 := by omega
     simp only [up_apply, g1, g2, if_false, show 1000 * (q + 1) + 103 ≠ 49 by omega, show 1000 * (q + 1) + 103 ≠ 16 by omega, show 1000 * (q + 1) + 103 ≠ 11 by omega, show 1000 * (q + 1) + 103 ≠ 10 by omega]
     exact tbl_at (by decide) h2
   repeat refine ob ?_
   refine ⟨_, (aAmount x.d hx3.2.2.2), (by first | rfl | simp [allA, pure1, pureCs, pureC, A1.cells, flat_pure cAgr_pure, flat_pure cDebt_pure, flat_pure cEst_pure]), ?_⟩
   try unfold Later
   try simp only [(id F11), seval, hI, hlt1, h6, hh1, hget, F103, F102, hx1, hx2, htb, cN4, cRat, w6, w7]
   repeat refine ob ?_
   refine ⟨?_, ?_⟩
   ·
    repeat refine ob ?_
    refine awN ?_
    simp only [(id F11), seval, hI, hlt1, h6, hh1]
    repeat refine ob ?_
    have hadd : addClaim size (ps.map (·.1)) x = (ps.set j ({ p.1 with claims := p.1.claims ++ [mkClaim size x] }, nx1 + 2)).map (·.1) := by rw [List.map_set]; unfold addClaim; rw [← hj, hgd, if_neg (by omega)]
    rw [hadd] at hL1
    have hok2 := addClaim_ok size (ps.map (·.1)) x hok
    rw [hadd] at hok2
    have hsub : ∀ q r, (ps.set j ({ p.1 with claims := p.1.claims ++ [mkClaim size x] }, nx1 + 2))[q]? = some r → r = ({ p.1 with claims := p.1.claims ++ [mkClaim size x] }, nx1 + 2) ∧ q = j ∨ q ≠ j ∧ ps[q]? = some r := by
     intro q r hq
     by_cases hqj : q = j
     ·
      subst hqj; rw [List.getElem?_set_self hjl] at hq; exact .inl ⟨(Option.some.inj hq).symm, rfl⟩
     rw [List.getElem?_set_ne (fun h => hqj h.symm)] at hq; exact .inr ⟨hqj, hq⟩
    have hrow := eRow_set3 (fOwn 103) (fOwn 103) ps j p ({ p.1 with claims := p.1.claims ++ [mkClaim size x] }, nx1 + 2) hp rfl (fun _ _ _ _ => rfl)
    have hfo : fOwn 103 j ({ p.1 with claims := p.1.claims ++ [mkClaim size x] }, nx1 + 2) = .own (b + 103) (nx1 + 2) (p.1.claims.length + 1) 5 := by simp [fOwn, hb]
    rw [hfo, ← spl_one _ _ _ (by rw [eRow_len]; omega)] at hrow
    refine ⟨_, (wk_on (tbl 103 38 (ps.set j ({ p.1 with claims := p.1.claims ++ [mkClaim size x] }, nx1 + 2))) [3, 4, 10, 11, 12, 51, 52, 53] [49, 10, 11] (tbl_sub (fun q r hq => ?tq32) _)).trans (wk_nb 0), list.length - (k + 1), by omega, k + 1, ps.set j ({ p.1 with claims := p.1.claims ++ [mkClaim size x] }, nx1 + 2), s, nx1 + 3, by omega, rfl, hL1, by rw [List.length_set]; exact hpl, hok2, ?sq32⟩
    case sq32 => (simp only [(id F11), seval, hrow]; rfl)
    case tq32 =>
     rcases hsub q r hq with ⟨rfl, rfl⟩ | ⟨h1, h2⟩
     ·
      simp only [← hb, up_apply, F103, F102, seval, if_true, if_false, reduceIte, List.length_append, List.length_cons, List.length_nil, Nat.zero_add, flat_snoc, cClaim, mkClaim, hhold, gAmt]
     have g1 : 1000 * (q + 1) + 103 ≠ b + 103 := by omega
     have g2 : 1000 * (q + 1) + 103 ≠ b + 102 := by omega
     simp only [up_apply, g1, g2, if_false, show 1000 * (q + 1) + 103 ≠ 49 by omega, show 1000 * (q + 1) + 103 ≠ 16 by omega, show 1000 * (q + 1) + 103 ≠ 11 by omega, show 1000 * (q + 1) + 103 ≠ 10 by omega]
     exact tbl_at (by decide) h2
   repeat refine ob ?_
   refine ⟨?_, ?_⟩
   ·
    repeat refine ob ?_
    refine awN ?_
    simp only [(id F11), seval, hI, hlt1, h6, hh1]
    repeat refine ob ?_
    have hadd : addClaim size (ps.map (·.1)) x = (ps.set j ({ p.1 with claims := p.1.claims ++ [mkClaim size x] }, nx1 + 2)).map (·.1) := by rw [List.map_set]; unfold addClaim; rw [← hj, hgd, if_neg (by omega)]
    rw [hadd] at hL1
    have hok2 := addClaim_ok size (ps.map (·.1)) x hok
    rw [hadd] at hok2
    have hsub : ∀ q r, (ps.set j ({ p.1 with claims := p.1.claims ++ [mkClaim size x] }, nx1 + 2))[q]? = some r → r = ({ p.1 with claims := p.1.claims ++ [mkClaim size x] }, nx1 + 2) ∧ q = j ∨ q ≠ j ∧ ps[q]? = some r := by
     intro q r hq
     by_cases hqj : q = j
     ·
      subst hqj; rw [List.getElem?_set_self hjl] at hq; exact .inl ⟨(Option.some.inj hq).symm, rfl⟩
     rw [List.getElem?_set_ne (fun h => hqj h.symm)] at hq; exact .inr ⟨hqj, hq⟩
    have hrow := eRow_set3 (fOwn 103) (fOwn 103) ps j p ({ p.1 with claims := p.1.claims ++ [mkClaim size x] }, nx1 + 2) hp rfl (fun _ _ _ _ => rfl)
    have hfo : fOwn 103 j ({ p.1 with claims := p.1.claims ++ [mkClaim size x] }, nx1 + 2) = .own (b + 103) (nx1 + 2) (p.1.claims.length + 1) 5 := by simp [fOwn, hb]
    rw [hfo, ← spl_one _ _ _ (by rw [eRow_len]; omega)] at hrow
    refine ⟨_, (wk_on (tbl 103 38 (ps.set j ({ p.1 with claims := p.1.claims ++ [mkClaim size x] }, nx1 + 2))) [3, 4, 10, 11, 12, 51, 52, 53] [49, 10, 11] (tbl_sub (fun q r hq => ?tq34) _)).trans (wk_nb 0), list.length - (k + 1), by omega, k + 1, ps.set j ({ p.1 with claims := p.1.claims ++ [mkClaim size x] }, nx1 + 2), s, nx1 + 3, by omega, rfl, hL1, by rw [List.length_set]; exact hpl, hok2, ?sq34⟩
    case sq34 => (simp only [(id F11), seval, hrow]; rfl)
    case tq34 =>
     rcases hsub q r hq with ⟨rfl, rfl⟩ | ⟨h1, h2⟩
     ·
      simp only [← hb, up_apply, F103, F102, seval, if_true, if_false, reduceIte, List.length_append, List.length_cons, List.length_nil, Nat.zero_add, flat_snoc, cClaim, mkClaim, hhold, gAmt]
     have g1 : 1000 * (q + 1) + 103 ≠ b + 103 := by omega
     have g2 : 1000 * (q + 1) + 103 ≠ b + 102 := by omega
     simp only [up_apply, g1, g2, if_false, show 1000 * (q + 1) + 103 ≠ 49 by omega, show 1000 * (q + 1) + 103 ≠ 16 by omega, show 1000 * (q + 1) + 103 ≠ 11 by omega, show 1000 * (q + 1) + 103 ≠ 10 by omega]
     exact tbl_at (by decide) h2
   repeat refine ob ?_
   refine awN ?_
   simp only [(id F11), seval, hI, hlt1, h6, hh1]
   repeat refine ob ?_
   have hadd : addClaim size (ps.map (·.1)) x = (ps.set j ({ p.1 with claims := p.1.claims ++ [mkClaim size x] }, nx1 + 2)).map (·.1) := by rw [List.map_set]; unfold addClaim; rw [← hj, hgd, if_neg (by omega)]
   rw [hadd] at hL1
   have hok2 := addClaim_ok size (ps.map (·.1)) x hok
   rw [hadd] at hok2
   have hsub : ∀ q r, (ps.set j ({ p.1 with claims := p.1.claims ++ [mkClaim size x] }, nx1 + 2))[q]? = some r → r = ({ p.1 with claims := p.1.claims ++ [mkClaim size x] }, nx1 + 2) ∧ q = j ∨ q ≠ j ∧ ps[q]? = some r := by
    intro q r hq
    by_cases hqj : q = j
    ·
     subst hqj; rw [List.getElem?_set_self hjl] at hq; exact .inl ⟨(Option.some.inj hq).symm, rfl⟩
    rw [List.getElem?_set_ne (fun h => hqj h.symm)] at hq; exact .inr ⟨hqj, hq⟩
   have hrow := eRow_set3 (fOwn 103) (fOwn 103) ps j p ({ p.1 with claims := p.1.claims ++ [mkClaim size x] }, nx1 + 2) hp rfl (fun _ _ _ _ => rfl)
   have hfo : fOwn 103 j ({ p.1 with claims := p.1.claims ++ [mkClaim size x] }, nx1 + 2) = .own (b + 103) (nx1 + 2) (p.1.claims.length + 1) 5 := by simp [fOwn, hb]
   rw [hfo, ← spl_one _ _ _ (by rw [eRow_len]; omega)] at hrow
   refine ⟨_, (wk_on (tbl 103 38 (ps.set j ({ p.1 with claims := p.1.claims ++ [mkClaim size x] }, nx1 + 2))) [3, 4, 10, 11, 12, 51, 52, 53] [49, 10, 11] (tbl_sub (fun q r hq => ?tq36) _)).trans (wk_nb 0), list.length - (k + 1), by omega, k + 1, ps.set j ({ p.1 with claims := p.1.claims ++ [mkClaim size x] }, nx1 + 2), s, nx1 + 3, by omega, rfl, hL1, by rw [List.length_set]; exact hpl, hok2, ?sq36⟩
   case sq36 => (simp only [(id F11), seval, hrow]; rfl)
   case tq36 =>
    rcases hsub q r hq with ⟨rfl, rfl⟩ | ⟨h1, h2⟩
    ·
     simp only [← hb, up_apply, F103, F102, seval, if_true, if_false, reduceIte, List.length_append, List.length_cons, List.length_nil, Nat.zero_add, flat_snoc, cClaim, mkClaim, hhold, gAmt]
    have g1 : 1000 * (q + 1) + 103 ≠ b + 103 := by omega
    have g2 : 1000 * (q + 1) + 103 ≠ b + 102 := by omega
    simp only [up_apply, g1, g2, if_false, show 1000 * (q + 1) + 103 ≠ 49 by omega, show 1000 * (q + 1) + 103 ≠ 16 by omega, show 1000 * (q + 1) + 103 ≠ 11 by omega, show 1000 * (q + 1) + 103 ≠ 10 by omega]
    exact tbl_at (by decide) h2
  by_cases hh2 : (size : Int) ≤ ((x.b % (size + 1) : Nat) : Int)
  ·
   refine awR [] [none, none, none, none, some (79, false), some (79, false), some (79, false), none] ?_
   simp only [(id F11), seval, hI, hlt1, h6, hh1, hh2]
   repeat refine ob ?_
   refine awT ?_
   refine awN ?_
   simp only [(id F11), seval, hI, hlt1, h6, hh1, hh2]
   repeat refine ob ?_
   have w6 : ((x.c : Nat) : Int).tmod 3 = ((x.c % 3 : Nat) : Int) := tmodN x.c 3
   have w7 : IntKind.i64.wrap ((x.c % 3 : Nat) : Int) = ((x.c % 3 : Nat) : Int) := wri _ (by omega)
   have hhold : mkHolder size (x.a % size) x.b = -1 := by unfold mkHolder; rw [if_pos (by rw [← hj]; omega)]
   refine awp_nb b ?_
   dsimp only
   refine awD (scq [1] (scT 2 14 (.two 1 16 (scq [32, 35, 36, 38, 41, 43, 44] .nil) (scq [35] (.two 1 18 (scq [36, 38, 41, 43, 44] .nil) (.two 1 19 (scq [38, 41, 43, 44] .nil) (scq [3, 41, 43, 44] .nil))))))) [none, none, none, none, none, none, none, none, none, none, none, none, none, none, none, none, none, none, none, none, none, none, none] ?_
   simp only [(id F11), seval, hI, hlt1, h6, hh1, hh2, hget, F103, F102, hx1, hx2, htb, cN4, cRat, w6, w7]
   repeat refine ob ?_
   refine ⟨?_, ?_⟩
   ·
    repeat refine ob ?_
    refine ⟨_, (aAmount x.d hx3.2.2.2), (by first | rfl | simp [allA, pure1, pureCs, pureC, A1.cells, flat_pure cAgr_pure, flat_pure cDebt_pure, flat_pure cEst_pure]), ?_⟩
    try unfold Later
    try simp only [(id F11), seval, hI, hlt1, h6, hh1, hh2, hget, F103, F102, hx1, hx2, htb, cN4, cRat, w6, w7]
    repeat refine ob ?_
    refine awN ?_
    simp only [(id F11), seval, hI, hlt1, h6, hh1, hh2]
    repeat refine ob ?_
    have hadd : addClaim size (ps.map (·.1)) x = (ps.set j ({ p.1 with claims := p.1.claims ++ [mkClaim size x] }, nx1 + 2)).map (·.1) := by rw [List.map_set]; unfold addClaim; rw [← hj, hgd, if_neg (by omega)]
    rw [hadd] at hL1
    have hok2 := addClaim_ok size (ps.map (·.1)) x hok
    rw [hadd] at hok2
    have hsub : ∀ q r, (ps.set j ({ p.1 with claims := p.1.claims ++ [mkClaim size x] }, nx1 + 2))[q]? = some r → r = ({ p.1 with claims := p.1.claims ++ [mkClaim size x] }, nx1 + 2) ∧ q = j ∨ q ≠ j ∧ ps[q]? = some r := by
     intro q r hq
     by_cases hqj : q = j
     ·
      subst hqj; rw [List.getElem?_set_self hjl] at hq; exact .inl ⟨(Option.some.inj hq).symm, rfl⟩
     rw [List.getElem?_set_ne (fun h => hqj h.symm)] at hq; exact .inr ⟨hqj, hq⟩
    have hrow := eRow_set3 (fOwn 103) (fOwn 103) ps j p ({ p.1 with claims := p.1.claims ++ [mkClaim size x] }, nx1 + 2) hp rfl (fun _ _ _ _ => rfl)
    have hfo : fOwn 103 j ({ p.1 with claims := p.1.claims ++ [mkClaim size x] }, nx1 + 2) = .own (b + 103) (nx1 + 2) (p.1.claims.length + 1) 5 := by simp [fOwn, hb]
    rw [hfo, ← spl_one _ _ _ (by rw [eRow_len]; omega)] at hrow
    refine ⟨_, (wk_on (tbl 103 38 (ps.set j ({ p.1 with claims := p.1.claims ++ [mkClaim size x] }, nx1 + 2))) [3, 4, 10, 11, 12, 51, 52, 53] [49, 10, 11] (tbl_sub (fun q r hq => ?tq41) _)).trans (wk_nb 0), list.length - (k + 1), by omega, k + 1, ps.set j ({ p.1 with claims := p.1.claims ++ [mkClaim size x] }, nx1 + 2), s, nx1 + 3, by omega, rfl, hL1, by rw [List.length_set]; exact hpl, hok2, ?sq41⟩
    case sq41 => (simp only [(id F11), seval, hrow]; rfl)
    case tq41 =>
     rcases hsub q r hq with ⟨rfl, rfl⟩ | ⟨h1, h2⟩
     ·
      simp only [← hb, up_apply, F103, F102, seval, if_true, if_false, reduceIte, List.length_append, List.length_cons, List.length_nil, Nat.zero_add, flat_snoc, cClaim, mkClaim, hhold, gAmt]
     have g1 : 1000 * (q + 1) + 103 ≠ b + 103 := by omega
     have g2 : 1000 * (q + 1) + 103 ≠ b + 102 := by omega
     simp only [up_apply, g1, g2, if_false, show 1000 * (q + 1) + 103 ≠ 49 by omega, show 1000 * (q + 1) + 103 ≠ 16 by omega, show 1000 * (q + 1) + 103 ≠ 11 by omega, show 1000 * (q + 1) + 103 ≠ 10 by omega]
     exact tbl_at (by decide) h2
   repeat refine ob ?_
   refine ⟨_, (aAmount x.d hx3.2.2.2), (by first | rfl | simp [allA, pure1, pureCs, pureC, A1.cells, flat_pure cAgr_pure, flat_pure cDebt_pure, flat_pure cEst_pure]), ?_⟩
   try unfold Later
   try simp only [(id F11), seval, hI, hlt1, h6, hh1, hh2, hget, F103, F102, hx1, hx2, htb, cN4, cRat, w6, w7]
   repeat refine ob ?_
   refine ⟨?_, ?_⟩
   ·
    repeat refine ob ?_
    refine awN ?_
    simp only [(id F11), seval, hI, hlt1, h6, hh1, hh2]
    repeat refine ob ?_
    have hadd : addClaim size (ps.map (·.1)) x = (ps.set j ({ p.1 with claims := p.1.claims ++ [mkClaim size x] }, nx1 + 2)).map (·.1) := by rw [List.map_set]; unfold addClaim; rw [← hj, hgd, if_neg (by omega)]
    rw [hadd] at hL1
    have hok2 := addClaim_ok size (ps.map (·.1)) x hok
    rw [hadd] at hok2
    have hsub : ∀ q r, (ps.set j ({ p.1 with claims := p.1.claims ++ [mkClaim size x] }, nx1 + 2))[q]? = some r → r = ({ p.1 with claims := p.1.claims ++ [mkClaim size x] }, nx1 + 2) ∧ q = j ∨ q ≠ j ∧ ps[q]? = some r := by
     intro q r hq
     by_cases hqj : q = j
     ·
      subst hqj; rw [List.getElem?_set_self hjl] at hq; exact .inl ⟨(Option.some.inj hq).symm, rfl⟩
     rw [List.getElem?_set_ne (fun h => hqj h.symm)] at hq; exact .inr ⟨hqj, hq⟩
    have hrow := eRow_set3 (fOwn 103) (fOwn 103) ps j p ({ p.1 with claims := p.1.claims ++ [mkClaim size x] }, nx1 + 2) hp rfl (fun _ _ _ _ => rfl)
    have hfo : fOwn 103 j ({ p.1 with claims := p.1.claims ++ [mkClaim size x] }, nx1 + 2) = .own (b + 103) (nx1 + 2) (p.1.claims.length + 1) 5 := by simp [fOwn, hb]
    rw [hfo, ← spl_one _ _ _ (by rw [eRow_len]; omega)] at hrow
    refine ⟨_, (wk_on (tbl 103 38 (ps.set j ({ p.1 with claims := p.1.claims ++ [mkClaim size x] }, nx1 + 2))) [3, 4, 10, 11, 12, 51, 52, 53] [49, 10, 11] (tbl_sub (fun q r hq => ?tq43) _)).trans (wk_nb 0), list.length - (k + 1), by omega, k + 1, ps.set j ({ p.1 with claims := p.1.claims ++ [mkClaim size x] }, nx1 + 2), s, nx1 + 3, by omega, rfl, hL1, by rw [List.length_set]; exact hpl, hok2, ?sq43⟩
    case sq43 => (simp only [(id F11), seval, hrow]; rfl)
    case tq43 =>
     rcases hsub q r hq with ⟨rfl, rfl⟩ | ⟨h1, h2⟩
     ·
      simp only [← hb, up_apply, F103, F102, seval, if_true, if_false, reduceIte, List.length_append, List.length_cons, List.length_nil, Nat.zero_add, flat_snoc, cClaim, mkClaim, hhold, gAmt]
     have g1 : 1000 * (q + 1) + 103 ≠ b + 103 := by omega
     have g2 : 1000 * (q + 1) + 103 ≠ b + 102 := by omega
     simp only [up_apply, g1, g2, if_false, show 1000 * (q + 1) + 103 ≠ 49 by omega, show 1000 * (q + 1) + 103 ≠ 16 by omega, show 1000 * (q + 1) + 103 ≠ 11 by omega, show 1000 * (q + 1) + 103 ≠ 10 by omega]
     exact tbl_at (by decide) h2
   repeat refine ob ?_
   refine ⟨?_, ?_⟩
   ·
    repeat refine ob ?_
    refine awN ?_
    simp only [(id F11), seval, hI, hlt1, h6, hh1, hh2]
    repeat refine ob ?_
    have hadd : addClaim size (ps.map (·.1)) x = (ps.set j ({ p.1 with claims := p.1.claims ++ [mkClaim size x] }, nx1 + 2)).map (·.1) := by rw [List.map_set]; unfold addClaim; rw [← hj, hgd, if_neg (by omega)]
    rw [hadd] at hL1
    have hok2 := addClaim_ok size (ps.map (·.1)) x hok
    rw [hadd] at hok2
    have hsub : ∀ q r, (ps.set j ({ p.1 with claims := p.1.claims ++ [mkClaim size x] }, nx1 + 2))[q]? = some r → r = ({ p.1 with claims := p.1.claims ++ [mkClaim size x] }, nx1 + 2) ∧ q = j ∨ q ≠ j ∧ ps[q]? = some r := by
     intro q r hq
     by_cases hqj : q = j
     ·
      subst hqj; rw [List.getElem?_set_self hjl] at hq; exact .inl ⟨(Option.some.inj hq).symm, rfl⟩
     rw [List.getElem?_set_ne (fun h => hqj h.symm)] at hq; exact .inr ⟨hqj, hq⟩
    have hrow := eRow_set3 (fOwn 103) (fOwn 103) ps j p ({ p.1 with claims := p.1.claims ++ [mkClaim size x] }, nx1 + 2) hp rfl (fun _ _ _ _ => rfl)
    have hfo : fOwn 103 j ({ p.1 with claims := p.1.claims ++ [mkClaim size x] }, nx1 + 2) = .own (b + 103) (nx1 + 2) (p.1.claims.length + 1) 5 := by simp [fOwn, hb]
    rw [hfo, ← spl_one _ _ _ (by rw [eRow_len]; omega)] at hrow
    refine ⟨_, (wk_on (tbl 103 38 (ps.set j ({ p.1 with claims := p.1.claims ++ [mkClaim size x] }, nx1 + 2))) [3, 4, 10, 11, 12, 51, 52, 53] [49, 10, 11] (tbl_sub (fun q r hq => ?tq45) _)).trans (wk_nb 0), list.length - (k + 1), by omega, k + 1, ps.set j ({ p.1 with claims := p.1.claims ++ [mkClaim size x] }, nx1 + 2), s, nx1 + 3, by omega, rfl, hL1, by rw [List.length_set]; exact hpl, hok2, ?sq45⟩
    case sq45 => (simp only [(id F11), seval, hrow]; rfl)
    case tq45 =>
     rcases hsub q r hq with ⟨rfl, rfl⟩ | ⟨h1, h2⟩
     ·
      simp only [← hb, up_apply, F103, F102, seval, if_true, if_false, reduceIte, List.length_append, List.length_cons, List.length_nil, Nat.zero_add, flat_snoc, cClaim, mkClaim, hhold, gAmt]
     have g1 : 1000 * (q + 1) + 103 ≠ b + 103 := by omega
     have g2 : 1000 * (q + 1) + 103 ≠ b + 102 := by omega
     simp only [up_apply, g1, g2, if_false, show 1000 * (q + 1) + 103 ≠ 49 by omega, show 1000 * (q + 1) + 103 ≠ 16 by omega, show 1000 * (q + 1) + 103 ≠ 11 by omega, show 1000 * (q + 1) + 103 ≠ 10 by omega]
     exact tbl_at (by decide) h2
   repeat refine ob ?_
   refine awN ?_
   simp only [(id F11), seval, hI, hlt1, h6, hh1, hh2]
   repeat refine ob ?_
   have hadd : addClaim size (ps.map (·.1)) x = (ps.set j ({ p.1 with claims := p.1.claims ++ [mkClaim size x] }, nx1 + 2)).map (·.1) := by rw [List.map_set]; unfold addClaim; rw [← hj, hgd, if_neg (by omega)]
   rw [hadd] at hL1
   have hok2 := addClaim_ok size (ps.map (·.1)) x hok
   rw [hadd] at hok2
   have hsub : ∀ q r, (ps.set j ({ p.1 with claims := p.1.claims ++ [mkClaim size x] }, nx1 + 2))[q]? = some r → r = ({ p.1 with claims := p.1.claims ++ [mkClaim size x] }, nx1 + 2) ∧ q = j ∨ q ≠ j ∧ ps[q]? = some r := by
    intro q r hq
    by_cases hqj : q = j
    ·
     subst hqj; rw [List.getElem?_set_self hjl] at hq; exact .inl ⟨(Option.some.inj hq).symm, rfl⟩
    rw [List.getElem?_set_ne (fun h => hqj h.symm)] at hq; exact .inr ⟨hqj, hq⟩
   have hrow := eRow_set3 (fOwn 103) (fOwn 103) ps j p ({ p.1 with claims := p.1.claims ++ [mkClaim size x] }, nx1 + 2) hp rfl (fun _ _ _ _ => rfl)
   have hfo : fOwn 103 j ({ p.1 with claims := p.1.claims ++ [mkClaim size x] }, nx1 + 2) = .own (b + 103) (nx1 + 2) (p.1.claims.length + 1) 5 := by simp [fOwn, hb]
   rw [hfo, ← spl_one _ _ _ (by rw [eRow_len]; omega)] at hrow
   refine ⟨_, (wk_on (tbl 103 38 (ps.set j ({ p.1 with claims := p.1.claims ++ [mkClaim size x] }, nx1 + 2))) [3, 4, 10, 11, 12, 51, 52, 53] [49, 10, 11] (tbl_sub (fun q r hq => ?tq47) _)).trans (wk_nb 0), list.length - (k + 1), by omega, k + 1, ps.set j ({ p.1 with claims := p.1.claims ++ [mkClaim size x] }, nx1 + 2), s, nx1 + 3, by omega, rfl, hL1, by rw [List.length_set]; exact hpl, hok2, ?sq47⟩
   case sq47 => (simp only [(id F11), seval, hrow]; rfl)
   case tq47 =>
    rcases hsub q r hq with ⟨rfl, rfl⟩ | ⟨h1, h2⟩
    ·
     simp only [← hb, up_apply, F103, F102, seval, if_true, if_false, reduceIte, List.length_append, List.length_cons, List.length_nil, Nat.zero_add, flat_snoc, cClaim, mkClaim, hhold, gAmt]
    have g1 : 1000 * (q + 1) + 103 ≠ b + 103 := by omega
    have g2 : 1000 * (q + 1) + 103 ≠ b + 102 := by omega
    simp only [up_apply, g1, g2, if_false, show 1000 * (q + 1) + 103 ≠ 49 by omega, show 1000 * (q + 1) + 103 ≠ 16 by omega, show 1000 * (q + 1) + 103 ≠ 11 by omega, show 1000 * (q + 1) + 103 ≠ 10 by omega]
    exact tbl_at (by decide) h2
  refine awR [] [none, none, none, none, some (79, false), some (79, false), some (79, false), none] ?_
  simp only [(id F11), seval, hI, hlt1, h6, hh1, hh2]
  repeat refine ob ?_
  refine awF ?_
  refine awK ?_
  simp only [(id F11), seval]
  have w6 : ((x.c : Nat) : Int).tmod 3 = ((x.c % 3 : Nat) : Int) := tmodN x.c 3
  have w7 : IntKind.i64.wrap ((x.c % 3 : Nat) : Int) = ((x.c % 3 : Nat) : Int) := wri _ (by omega)
  have hhold : mkHolder size (x.a % size) x.b = ((x.b % (size + 1) : Nat) : Int) := by unfold mkHolder; rw [if_neg (by rw [← hj]; omega)]
  refine awp_nb b ?_
  dsimp only
  refine awD (scq [1] (scT 2 14 (.two 1 16 (scq [32, 35, 36, 38, 41, 43, 44] .nil) (scq [35] (.two 1 18 (scq [36, 38, 41, 43, 44] .nil) (.two 1 19 (scq [38, 41, 43, 44] .nil) (scq [3, 41, 43, 44] .nil))))))) [none, none, none, none, none, none, none, none, none, none, none, none, none, none, none, none, none, none, none, none, none, none, none] ?_
  simp only [(id F11), seval, hI, hlt1, h6, hh1, hh2, hget, F103, F102, hx1, hx2, htb, cN4, cRat, w6, w7]
  repeat refine ob ?_
  refine ⟨?_, ?_⟩
  ·
   repeat refine ob ?_
   refine ⟨_, (aAmount x.d hx3.2.2.2), (by first | rfl | simp [allA, pure1, pureCs, pureC, A1.cells, flat_pure cAgr_pure, flat_pure cDebt_pure, flat_pure cEst_pure]), ?_⟩
   try unfold Later
   try simp only [(id F11), seval, hI, hlt1, h6, hh1, hh2, hget, F103, F102, hx1, hx2, htb, cN4, cRat, w6, w7]
   repeat refine ob ?_
   refine awN ?_
   simp only [(id F11), seval, hI, hlt1, h6, hh1, hh2]
   repeat refine ob ?_
   have hadd : addClaim size (ps.map (·.1)) x = (ps.set j ({ p.1 with claims := p.1.claims ++ [mkClaim size x] }, nx1 + 2)).map (·.1) := by rw [List.map_set]; unfold addClaim; rw [← hj, hgd, if_neg (by omega)]
   rw [hadd] at hL1
   have hok2 := addClaim_ok size (ps.map (·.1)) x hok
   rw [hadd] at hok2
   have hsub : ∀ q r, (ps.set j ({ p.1 with claims := p.1.claims ++ [mkClaim size x] }, nx1 + 2))[q]? = some r → r = ({ p.1 with claims := p.1.claims ++ [mkClaim size x] }, nx1 + 2) ∧ q = j ∨ q ≠ j ∧ ps[q]? = some r := by
    intro q r hq
    by_cases hqj : q = j
    ·
     subst hqj; rw [List.getElem?_set_self hjl] at hq; exact .inl ⟨(Option.some.inj hq).symm, rfl⟩
    rw [List.getElem?_set_ne (fun h => hqj h.symm)] at hq; exact .inr ⟨hqj, hq⟩
   have hrow := eRow_set3 (fOwn 103) (fOwn 103) ps j p ({ p.1 with claims := p.1.claims ++ [mkClaim size x] }, nx1 + 2) hp rfl (fun _ _ _ _ => rfl)
   have hfo : fOwn 103 j ({ p.1 with claims := p.1.claims ++ [mkClaim size x] }, nx1 + 2) = .own (b + 103) (nx1 + 2) (p.1.claims.length + 1) 5 := by simp [fOwn, hb]
   rw [hfo, ← spl_one _ _ _ (by rw [eRow_len]; omega)] at hrow
   refine ⟨_, (wk_on (tbl 103 38 (ps.set j ({ p.1 with claims := p.1.claims ++ [mkClaim size x] }, nx1 + 2))) [3, 4, 10, 11, 12, 51, 52, 53] [49, 10, 11] (tbl_sub (fun q r hq => ?tq51) _)).trans (wk_nb 0), list.length - (k + 1), by omega, k + 1, ps.set j ({ p.1 with claims := p.1.claims ++ [mkClaim size x] }, nx1 + 2), s, nx1 + 3, by omega, rfl, hL1, by rw [List.length_set]; exact hpl, hok2, ?sq51⟩
   case sq51 => (simp only [(id F11), seval, hrow]; rfl)
   case tq51 =>
    rcases hsub q r hq with ⟨rfl, rfl⟩ | ⟨h1, h2⟩
    ·
     simp only [← hb, up_apply, F103, F102, seval, if_true, if_false, reduceIte, List.length_append, List.length_cons, List.length_nil, Nat.zero_add, flat_snoc, cClaim, mkClaim, hhold, gAmt]
    have g1 : 1000 * (q + 1) + 103 ≠ b + 103 := by omega
    have g2 : 1000 * (q + 1) + 103 ≠ b + 102 := by omega
    simp only [up_apply, g1, g2, if_false, show 1000 * (q + 1) + 103 ≠ 49 by omega, show 1000 * (q + 1) + 103 ≠ 16 by omega, show 1000 * (q + 1) + 103 ≠ 11 by omega, show 1000 * (q + 1) + 103 ≠ 10 by omega]
    exact tbl_at (by decide) h2
  repeat refine ob ?_
  refine ⟨_, (aAmount x.d hx3.2.2.2), (by first | rfl | simp [allA, pure1, pureCs, pureC, A1.cells, flat_pure cAgr_pure, flat_pure cDebt_pure, flat_pure cEst_pure]), ?_⟩
  try unfold Later
  try simp only [(id F11), seval, hI, hlt1, h6, hh1, hh2, hget, F103, F102, hx1, hx2, htb, cN4, cRat, w6, w7]
  repeat refine ob ?_
  refine ⟨?_, ?_⟩
  ·
   repeat refine ob ?_
   refine awN ?_
   simp only [(id F11), seval, hI, hlt1, h6, hh1, hh2]
   repeat refine ob ?_
   have hadd : addClaim size (ps.map (·.1)) x = (ps.set j ({ p.1 with claims := p.1.claims ++ [mkClaim size x] }, nx1 + 2)).map (·.1) := by rw [List.map_set]; unfold addClaim; rw [← hj, hgd, if_neg (by omega)]
   rw [hadd] at hL1
   have hok2 := addClaim_ok size (ps.map (·.1)) x hok
   rw [hadd] at hok2
   have hsub : ∀ q r, (ps.set j ({ p.1 with claims := p.1.claims ++ [mkClaim size x] }, nx1 + 2))[q]? = some r → r = ({ p.1 with claims := p.1.claims ++ [mkClaim size x] }, nx1 + 2) ∧ q = j ∨ q ≠ j ∧ ps[q]? = some r := by
    intro q r hq
    by_cases hqj : q = j
    ·
     subst hqj; rw [List.getElem?_set_self hjl] at hq; exact .inl ⟨(Option.some.inj hq).symm, rfl⟩
    rw [List.getElem?_set_ne (fun h => hqj h.symm)] at hq; exact .inr ⟨hqj, hq⟩
   have hrow := eRow_set3 (fOwn 103) (fOwn 103) ps j p ({ p.1 with claims := p.1.claims ++ [mkClaim size x] }, nx1 + 2) hp rfl (fun _ _ _ _ => rfl)
   have hfo : fOwn 103 j ({ p.1 with claims := p.1.claims ++ [mkClaim size x] }, nx1 + 2) = .own (b + 103) (nx1 + 2) (p.1.claims.length + 1) 5 := by simp [fOwn, hb]
   rw [hfo, ← spl_one _ _ _ (by rw [eRow_len]; omega)] at hrow
   refine ⟨_, (wk_on (tbl 103 38 (ps.set j ({ p.1 with claims := p.1.claims ++ [mkClaim size x] }, nx1 + 2))) [3, 4, 10, 11, 12, 51, 52, 53] [49, 10, 11] (tbl_sub (fun q r hq => ?tq53) _)).trans (wk_nb 0), list.length - (k + 1), by omega, k + 1, ps.set j ({ p.1 with claims := p.1.claims ++ [mkClaim size x] }, nx1 + 2), s, nx1 + 3, by omega, rfl, hL1, by rw [List.length_set]; exact hpl, hok2, ?sq53⟩
   case sq53 => (simp only [(id F11), seval, hrow]; rfl)
   case tq53 =>
    rcases hsub q r hq with ⟨rfl, rfl⟩ | ⟨h1, h2⟩
    ·
     simp only [← hb, up_apply, F103, F102, seval, if_true, if_false, reduceIte, List.length_append, List.length_cons, List.length_nil, Nat.zero_add, flat_snoc, cClaim, mkClaim, hhold, gAmt]
    have g1 : 1000 * (q + 1) + 103 ≠ b + 103 := by omega
    have g2 : 1000 * (q + 1) + 103 ≠ b + 102 := by omega
    simp only [up_apply, g1, g2, if_false, show 1000 * (q + 1) + 103 ≠ 49 by omega, show 1000 * (q + 1) + 103 ≠ 16 by omega, show 1000 * (q + 1) + 103 ≠ 11 by omega, show 1000 * (q + 1) + 103 ≠ 10 by omega]
    exact tbl_at (by decide) h2
  repeat refine ob ?_
  refine ⟨?_, ?_⟩
  ·
   repeat refine ob ?_
   refine awN ?_
   simp only [(id F11), seval, hI, hlt1, h6, hh1, hh2]
   repeat refine ob ?_
   have hadd : addClaim size (ps.map (·.1)) x = (ps.set j ({ p.1 with claims := p.1.claims ++ [mkClaim size x] }, nx1 + 2)).map (·.1) := by rw [List.map_set]; unfold addClaim; rw [← hj, hgd, if_neg (by omega)]
   rw [hadd] at hL1
   have hok2 := addClaim_ok size (ps.map (·.1)) x hok
   rw [hadd] at hok2
   have hsub : ∀ q r, (ps.set j ({ p.1 with claims := p.1.claims ++ [mkClaim size x] }, nx1 + 2))[q]? = some r → r = ({ p.1 with claims := p.1.claims ++ [mkClaim size x] }, nx1 + 2) ∧ q = j ∨ q ≠ j ∧ ps[q]? = some r := by
    intro q r hq
    by_cases hqj : q = j
    ·
     subst hqj; rw [List.getElem?_set_self hjl] at hq; exact .inl ⟨(Option.some.inj hq).symm, rfl⟩
    rw [List.getElem?_set_ne (fun h => hqj h.symm)] at hq; exact .inr ⟨hqj, hq⟩
   have hrow := eRow_set3 (fOwn 103) (fOwn 103) ps j p ({ p.1 with claims := p.1.claims ++ [mkClaim size x] }, nx1 + 2) hp rfl (fun _ _ _ _ => rfl)
   have hfo : fOwn 103 j ({ p.1 with claims := p.1.claims ++ [mkClaim size x] }, nx1 + 2) = .own (b + 103) (nx1 + 2) (p.1.claims.length + 1) 5 := by simp [fOwn, hb]
   rw [hfo, ← spl_one _ _ _ (by rw [eRow_len]; omega)] at hrow
   refine ⟨_, (wk_on (tbl 103 38 (ps.set j ({ p.1 with claims := p.1.claims ++ [mkClaim size x] }, nx1 + 2))) [3, 4, 10, 11, 12, 51, 52, 53] [49, 10, 11] (tbl_sub (fun q r hq => ?tq55) _)).trans (wk_nb 0), list.length - (k + 1), by omega, k + 1, ps.set j ({ p.1 with claims := p.1.claims ++ [mkClaim size x] }, nx1 + 2), s, nx1 + 3, by omega, rfl, hL1, by rw [List.length_set]; exact hpl, hok2, ?sq55⟩
   case sq55 => (simp only [(id F11), seval, hrow]; rfl)
   case tq55 =>
    rcases hsub q r hq with ⟨rfl, rfl⟩ | ⟨h1, h2⟩
    ·
     simp only [← hb, up_apply, F103, F102, seval, if_true, if_false, reduceIte, List.length_append, List.length_cons, List.length_nil, Nat.zero_add, flat_snoc, cClaim, mkClaim, hhold, gAmt]
    have g1 : 1000 * (q + 1) + 103 ≠ b + 103 := by omega
    have g2 : 1000 * (q + 1) + 103 ≠ b + 102 := by omega
    simp only [up_apply, g1, g2, if_false, show 1000 * (q + 1) + 103 ≠ 49 by omega, show 1000 * (q + 1) + 103 ≠ 16 by omega, show 1000 * (q + 1) + 103 ≠ 11 by omega, show 1000 * (q + 1) + 103 ≠ 10 by omega]
    exact tbl_at (by decide) h2
  repeat refine ob ?_
  refine awN ?_
  simp only [(id F11), seval, hI, hlt1, h6, hh1, hh2]
  repeat refine ob ?_
  have hadd : addClaim size (ps.map (·.1)) x = (ps.set j ({ p.1 with claims := p.1.claims ++ [mkClaim size x] }, nx1 + 2)).map (·.1) := by rw [List.map_set]; unfold addClaim; rw [← hj, hgd, if_neg (by omega)]
  rw [hadd] at hL1
  have hok2 := addClaim_ok size (ps.map (·.1)) x hok
  rw [hadd] at hok2
  have hsub : ∀ q r, (ps.set j ({ p.1 with claims := p.1.claims ++ [mkClaim size x] }, nx1 + 2))[q]? = some r → r = ({ p.1 with claims := p.1.claims ++ [mkClaim size x] }, nx1 + 2) ∧ q = j ∨ q ≠ j ∧ ps[q]? = some r := by
   intro q r hq
   by_cases hqj : q = j
   ·
    subst hqj; rw [List.getElem?_set_self hjl] at hq; exact .inl ⟨(Option.some.inj hq).symm, rfl⟩
   rw [List.getElem?_set_ne (fun h => hqj h.symm)] at hq; exact .inr ⟨hqj, hq⟩
  have hrow := eRow_set3 (fOwn 103) (fOwn 103) ps j p ({ p.1 with claims := p.1.claims ++ [mkClaim size x] }, nx1 + 2) hp rfl (fun _ _ _ _ => rfl)
  have hfo : fOwn 103 j ({ p.1 with claims := p.1.claims ++ [mkClaim size x] }, nx1 + 2) = .own (b + 103) (nx1 + 2) (p.1.claims.length + 1) 5 := by simp [fOwn, hb]
  rw [hfo, ← spl_one _ _ _ (by rw [eRow_len]; omega)] at hrow
  refine ⟨_, (wk_on (tbl 103 38 (ps.set j ({ p.1 with claims := p.1.claims ++ [mkClaim size x] }, nx1 + 2))) [3, 4, 10, 11, 12, 51, 52, 53] [49, 10, 11] (tbl_sub (fun q r hq => ?tq57) _)).trans (wk_nb 0), list.length - (k + 1), by omega, k + 1, ps.set j ({ p.1 with claims := p.1.claims ++ [mkClaim size x] }, nx1 + 2), s, nx1 + 3, by omega, rfl, hL1, by rw [List.length_set]; exact hpl, hok2, ?sq57⟩
  case sq57 => (simp only [(id F11), seval, hrow]; rfl)
  case tq57 =>
   rcases hsub q r hq with ⟨rfl, rfl⟩ | ⟨h1, h2⟩
   ·
    simp only [← hb, up_apply, F103, F102, seval, if_true, if_false, reduceIte, List.length_append, List.length_cons, List.length_nil, Nat.zero_add, flat_snoc, cClaim, mkClaim, hhold, gAmt]
   have g1 : 1000 * (q + 1) + 103 ≠ b + 103 := by omega
   have g2 : 1000 * (q + 1) + 103 ≠ b + 102 := by omega
   simp only [up_apply, g1, g2, if_false, show 1000 * (q + 1) + 103 ≠ 49 by omega, show 1000 * (q + 1) + 103 ≠ 16 by omega, show 1000 * (q + 1) + 103 ≠ 11 by omega, show 1000 * (q + 1) + 103 ≠ 10 by omega]
   exact tbl_at (by decide) h2
 refine awN ?_
 simp only [(id F11), seval, hI, hlt1]
 repeat refine ob ?_
 refine awF ?_
 refine awQ ?_
 simp only [(id F11), seval]
 refine awN ?_
 simp only [(id F11), seval, hI, hlt1]
 repeat refine ob ?_
 obtain rfl : k = list.length := by omega
 rw [List.drop_length, List.foldl_nil] at hL1
 refine awp_on (tbl 103 38 ps) [4, 10, 11, 12, 107, 108, 109] [49, 10, 11] (by intro y B h; obtain ⟨q, r, rfl, h2, h3⟩ := tbl_some h; right; simpa [up_apply, show 1000 * (q + 1) + 103 ≠ 49 by omega, show 1000 * (q + 1) + 103 ≠ 16 by omega, show 1000 * (q + 1) + 103 ≠ 11 by omega, show 1000 * (q + 1) + 103 ≠ 10 by omega] using h) ?_
 simp only [(id F11), seval]
 refine awp_wk (wk_pubs 103 38 36 (by decide) 49 [(10, ⟨0, 28, 2, 1, [.lit (.slice none 0 0), .lit (.slice none 0 0)]⟩), (11, ⟨1, 28, 2, 1, [.own 49 s size 5, .lit (.slice none 0 0)]⟩)] (by simp) (by decide) size nx1 ps) ?_
 refine awp_wk (wk_cells 49 (flat cEst (ps.map (·.1))) (by rfl) (by show (5 : Nat) ≠ 0; decide) (by rw [flat_length cEst_len, List.length_map]; exact (eRow_len fSh ps 0).symm) (eRow_est ps 0 (fun p hp => (hok p.1 (List.mem_map.2 ⟨p, hp, rfl⟩)).2))) ?_
 have hpl2 : (ps.map (·.1)).length = size := by rw [List.length_map]; exact hpl
 generalize ps.map (·.1) = es0 at *
 refine awp_keep [4, 10, 11, 12, 107, 108, 109] [49, 10, 11] ?_
 try unfold Later
 try simp only [(id F11), seval, hI, hlt1]
 repeat' first|apply awS|apply awB
 refine awp_loopw (fun n st => ∃ k es s nx, k ≤ pools.length ∧ n = pools.length - k ∧ (pools.drop k).foldl (addAg size) es = pools.foldl (addAg size) es0 ∧ es.length = size ∧ (∀ e ∈ es, okB e) ∧ st = ⟨mkT [(4, .val (.one (.sh 3 debts.length (flat cN3 debts)))), (10, .val (.one (.ptr 10 0 0))), (11, .val (.one (.ptr 11 1 0))), (12, one (.int .i64 (size : Int))), (107, .val (.one (.sh 3 pools.length (flat cN3 pools)))), (108, one (.int .i64 pools.length)), (109, one (.int .i64 k))], mkH [(49, ⟨s, 36, 5, size, flat cEst es⟩), (10, ⟨0, 28, 2, 1, [.lit (.slice none 0 0), .lit (.slice none 0 0)]⟩), (11, ⟨1, 28, 2, 1, [.own 49 s size 5, .lit (.slice none 0 0)]⟩)], nx, 0⟩) (pools.length) ⟨0, es0, _, _, by omega, by omega, rfl, hpl2, fun e he => ⟨(hok e he).1, by rw [(hok e he).2]; simp, by rw [(hok e he).2]; simp⟩, rfl⟩ ?_
 rintro n2 st ⟨k, es, s, nx2, hk, rfl, hL2, hel, hoB, rfl⟩
 by_cases hlt2 : (k : Int) < (pools.length : Int)
 ·
  refine awN ?_
  simp only [(id F11), seval, hI, hlt1, hlt2]
  repeat refine ob ?_
  refine awT ?_
  refine awK ?_
  simp only [(id F11), seval]
  have hltn : k < pools.length := by omega
  have hp3 := hpo _ (List.getElem_mem hltn)
  have hatl := flat_at cN3_len pools k hltn
  rw [List.drop_eq_getElem_cons hltn, List.foldl_cons] at hL2
  generalize pools[k] = p at *
  have hjl : p.a % size < es.length := by rw [hel]; exact Nat.mod_lt _ (by omega)
  have hw4 := tmodN p.a size
  refine awN ?_
  simp only [(id F11), seval, hI, hlt1, hlt2, hatl, cN3]
  repeat refine ob ?_
  refine awN ?_
  simp only [(id F11), seval, hI, hlt1, hlt2, hw4, cN3]
  repeat refine ob ?_
  obtain ⟨j, hj⟩ : ∃ j, p.a % size = j := ⟨_, rfl⟩
  rw [hj] at hjl ⊢
  obtain ⟨e, hee⟩ : ∃ e, es[j] = e := ⟨_, rfl⟩
  have hge : es.getD (p.a % size) ztEst = e := by rw [hj, List.getD_eq_getElem?_getD, List.getElem?_eq_getElem hjl, hee]; rfl
  have hokj : okB e := hee ▸ hoB _ (List.getElem_mem hjl)
  have hate : (flat cEst es).drop (j * 5) = cEst e ++ flat cEst (es.drop (j + 1)) := by have := flat_at cEst_len es j hjl; rwa [hee] at this
  have hset : spl (flat cEst es) (j * 5 + 4) [.sh 1 (e.agrs ++ [bgN e p]).length (flat cAgr (e.agrs ++ [bgN e p]))] = flat cEst (es.set j ⟨e.cash, e.claims, e.agrs ++ [bgN e p]⟩) := flat_setf cEst_len es j 4 _ _ hjl (by simp) (by rw [hee]; simp [cEst, spl])
  have hag : addAg size es p = if ((e.agrs.length : Int) < 2) then es.set j ⟨e.cash, e.claims, e.agrs ++ [bgN e p]⟩ else es := by unfold addAg; rw [hge, hj]
  have hfl := flat_length cEst_len es
  have hg4 : (flat cEst es)[j * 5 + 4]? = some (.sh 1 e.agrs.length (flat cAgr e.agrs)) := by rw [← List.getElem?_drop, hate]; rfl
  by_cases h2 : (e.agrs.length : Int) < 2
  ·
   refine awN ?_
   simp only [(id F11), seval, hI, hlt1, hlt2, h2, hg4]
   repeat refine ob ?_
   refine awT ?_
   have hagr : e.claims.length ≤ 30 ∧ e.agrs.length ≤ 1000000000000 ∧ ∀ a ∈ e.agrs, a.length ≤ 1000000000000 ∧ ∀ t ∈ a, t.length ≤ 1000000000000 := ⟨by have := hokj.1; omega, by have := hokj.2.1; omega, fun a ha => ⟨by have := (hokj.2.2 a ha).1; omega, fun t ht => by have := (hokj.2.2 a ha).2 t ht; omega⟩⟩
   refine awD (scT 0 9 (scq [18, 21, 23, 24] .nil)) [none, none, none, none, none, none, none, none, none, none, none, none, none] ?_
   simp only [(id F11), seval, hI, hlt1, hlt2, h2, hate, cEst, cN3, flat_pure cClaim_pure, flat_pure cAgr_pure]
   repeat refine ob ?_
   refine ⟨_, (agree_A e p hp3 hagr.1 hagr.2.1 hagr.2.2), (by first | rfl | simp [allA, pure1, pureCs, pureC, A1.cells, flat_pure cAgr_pure, flat_pure cDebt_pure, flat_pure cEst_pure]), ?_⟩
   try unfold Later
   try simp only [(id F11), seval, hI, hlt1, hlt2, h2, hate, cEst, cN3, flat_pure cClaim_pure, flat_pure cAgr_pure]
   repeat refine ob ?_
   refine awN ?_
   simp only [(id F11), seval, hI, hlt1, hlt2, h2]
   repeat refine ob ?_
   have hnew := addAg_ok size es p hoB
   have hnl := addAg_length size es p
   rw [hag, if_pos h2] at hL2 hnew hnl
   refine ⟨_, wk_keep [4, 10, 11, 12, 107, 108, 109] [49, 10, 11], pools.length - (k + 1), by omega, k + 1, (es.set j ⟨e.cash, e.claims, e.agrs ++ [bgN e p]⟩), s, ?nq66, by omega, rfl, hL2, by rw [hnl]; exact hel, hnew, ?sq66⟩
   case sq66 => (simp only [(id F11), seval, hset]; rfl)
  refine awN ?_
  simp only [(id F11), seval, hI, hlt1, hlt2, h2, hg4]
  repeat refine ob ?_
  refine awF ?_
  refine awK ?_
  simp only [(id F11), seval]
  refine awN ?_
  simp only [(id F11), seval, hI, hlt1, hlt2, h2]
  repeat refine ob ?_
  have hnew := addAg_ok size es p hoB
  have hnl := addAg_length size es p
  rw [hag, if_neg h2] at hL2 hnew hnl
  refine ⟨_, wk_keep [4, 10, 11, 12, 107, 108, 109] [49, 10, 11], pools.length - (k + 1), by omega, k + 1, es, s, ?nq69, by omega, rfl, hL2, by rw [hnl]; exact hel, hnew, ?sq69⟩
  case sq69 => (simp only [(id F11), seval]; rfl)
 refine awN ?_
 simp only [(id F11), seval, hI, hlt1, hlt2]
 repeat refine ob ?_
 refine awF ?_
 refine awQ ?_
 simp only [(id F11), seval]
 refine awN ?_
 simp only [(id F11), seval, hI, hlt1, hlt2]
 repeat refine ob ?_
 obtain rfl : k = pools.length := by omega
 rw [List.drop_length, List.foldl_nil] at hL2
 refine awp_pubc 49 11 0 (by rfl) (by rfl) (by rfl) (by decide) (by show (5 : Nat) ≠ 0; decide) (by show (2 : Nat) ≠ 0; decide) rfl ?_
 refine awp_wk (wk_cells 11 (cGrp ⟨es, []⟩) (by rfl) (by show (2 : Nat) ≠ 0; decide) (by rfl) (fun κ vs h => ?_)) ?_
 ·
  obtain ⟨v1, vs1, rfl, d1, h⟩ := denVs_cons h
  obtain ⟨v2, vs2, rfl, d2, h⟩ := denVs_cons h
  exact ⟨hel.symm ▸ d1, den_nilsh 4 d2, h⟩
 refine awp_keep [10, 11, 12, 139, 140, 141] [10, 11] ?_
 try unfold Later
 try simp only [(id F11), seval, hI, hlt1, hlt2]
 repeat' first|apply awS|apply awB
 refine awp_loopw (fun n st => ∃ k ds nx, k ≤ debts.length ∧ n = debts.length - k ∧ (debts.drop k).foldl (addDb es) ds = debts.foldl (addDb es) [] ∧ ds.length ≤ 3 ∧ (∀ x ∈ ds, x.legs.length ≤ 4) ∧ st = ⟨mkT [(10, .val (.one (.ptr 10 0 0))), (11, .val (.one (.ptr 11 1 0))), (12, one (.int .i64 (size : Int))), (139, .val (.one (.sh 3 debts.length (flat cN3 debts)))), (140, one (.int .i64 debts.length)), (141, one (.int .i64 k))], mkH [(10, ⟨0, 28, 2, 1, [.lit (.slice none 0 0), .lit (.slice none 0 0)]⟩), (11, ⟨1, 28, 2, 1, cGrp ⟨es, ds⟩⟩)], nx, 0⟩) (debts.length) ⟨0, [], _, by omega, by omega, rfl, by simp, by simp, rfl⟩ ?_
 rintro n3 st ⟨k, ds, nx3, hk, rfl, hL3, hdn, hdl, rfl⟩
 by_cases hlt3 : (k : Int) < (debts.length : Int)
 ·
  refine awN ?_
  simp only [(id F11), seval, hI, hlt1, hlt2, hlt3]
  repeat refine ob ?_
  refine awT ?_
  refine awK ?_
  simp only [(id F11), seval]
  have hltn : k < debts.length := by omega
  have hd3 := hdo _ (List.getElem_mem hltn)
  have hatl := flat_at cN3_len debts k hltn
  rw [List.drop_eq_getElem_cons hltn, List.foldl_cons] at hL3
  generalize debts[k] = d at *
  refine awN ?_
  simp only [(id F11), seval, hI, hlt1, hlt2, hlt3, hatl, cN3]
  repeat refine ob ?_
  by_cases h3 : (ds.length : Int) < 3
  ·
   refine awN ?_
   simp only [(id F11), seval, hI, hlt1, hlt2, hlt3, h3, cGrp]
   repeat refine ob ?_
   refine awT ?_
   refine awN ?_
   simp only [(id F11), seval, hI, hlt1, hlt2, hlt3, h3, cGrp, cN3, flat_pure cEst_pure, flat_pure cDebt_pure]
   repeat refine ob ?_
   refine ⟨_, (owe_A ⟨es, ds⟩ d hd3 (by show es.length ≤ 1000; omega) (fun e he => by have := (hoB e he).1; omega) (by show ds.length ≤ 1000000000000; omega) (fun x hx => by have := hdl x hx; omega)), (by first | rfl | simp [allA, pure1, pureCs, pureC, A1.cells, flat_pure cAgr_pure, flat_pure cDebt_pure, flat_pure cEst_pure]), ?_⟩
   try unfold Later
   try simp only [(id F11), seval, hI, hlt1, hlt2, hlt3, h3, cGrp, cN3, flat_pure cEst_pure, flat_pure cDebt_pure]
   repeat refine ob ?_
   refine awN ?_
   simp only [(id F11), seval, hI, hlt1, hlt2, hlt3, h3]
   repeat refine ob ?_
   have hnew := addDb_ok es ds d hdl hdn
   have hag : addDb es ds d = ds ++ [owN ⟨es, ds⟩ d] := by unfold addDb; rw [if_pos h3]
   rw [hag] at hL3 hnew
   refine ⟨_, wk_keep [10, 11, 12, 139, 140, 141] [10, 11], debts.length - (k + 1), by omega, k + 1, (ds ++ [owN ⟨es, ds⟩ d]), ?nq77, by omega, rfl, hL3, hnew.2, hnew.1, ?sq77⟩
   case sq77 => (simp only [(id F11), seval, cGrp]; rfl)
  refine awN ?_
  simp only [(id F11), seval, hI, hlt1, hlt2, hlt3, h3, cGrp]
  repeat refine ob ?_
  refine awF ?_
  refine awK ?_
  simp only [(id F11), seval]
  refine awN ?_
  simp only [(id F11), seval, hI, hlt1, hlt2, hlt3, h3]
  repeat refine ob ?_
  have hnew := addDb_ok es ds d hdl hdn
  have hag : addDb es ds d = ds := by unfold addDb; rw [if_neg h3]
  rw [hag] at hL3 hnew
  refine ⟨_, wk_keep [10, 11, 12, 139, 140, 141] [10, 11], debts.length - (k + 1), by omega, k + 1, ds, ?nq80, by omega, rfl, hL3, hnew.2, hnew.1, ?sq80⟩
  case sq80 => (simp only [(id F11), seval, cGrp]; rfl)
 refine awN ?_
 simp only [(id F11), seval, hI, hlt1, hlt2, hlt3]
 repeat refine ob ?_
 refine awF ?_
 refine awQ ?_
 simp only [(id F11), seval]
 refine awN ?_
 simp only [(id F11), seval, hI, hlt1, hlt2, hlt3, cGrp]
 repeat refine ob ?_
 rw [List.drop_eq_nil_of_le (by omega), List.foldl_nil] at hL3
 refine awX ?_
 have hE : grpE n cash list pools = es := by unfold grpE; rw [hsz, ← hL1]; exact hL2.symm
 simp only [(id F11), seval, flat_pure cEst_pure, flat_pure cDebt_pure, cGrp, grpN, hE, ← hL3]
 try simp [pureCs, pureC, flat_pure cEst_pure, flat_pure cDebt_pure]
end Go.Proofs.YtokmkopihhnggaaGreatDoor
