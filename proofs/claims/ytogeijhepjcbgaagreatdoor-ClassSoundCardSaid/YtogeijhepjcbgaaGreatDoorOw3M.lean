/- The builder of groups, what it builds the caller's own; walked by the abstract machine. -/
import Derived.Test.YtogeijhepjcbgaaGreatDoorOw2M
set_option linter.unusedVariables false
set_option linter.unusedSimpArgs false
set_option linter.defProp false
set_option linter.unnecessarySimpa false
/- The builder of groups, what it builds the caller's own; walked by the abstract machine. -/
namespace Go.Proofs.YtogeijhepjcbgaaGreatDoor
open Go Go.RowKit
theorem owe_In (n9 : Nat) (ps : List (GEst × Nat)) (hn9 : ps.length = n9) (ds : List GDebt) (p : N3) (H : Hp) (ny s9 : Nat) (hn : ∀ x B, H x = some B → x < 500 ∨ x % 1000 = 103) (h49 : H 49 = some ⟨s9, 67, 5, n9, eRw (fOwn 103) ps 0⟩) (htab : ∀ j q, ps[j]? = some q → H (1000 * (j + 1) + 103) = some ⟨q.2, 69, 5, q.1.claims.length, flat cClaim q.1.claims⟩)
    (hp : p.a < 65536 ∧ p.b < 65536 ∧ p.c < 65536) (hge : n9 ≤ 1000) (hg : ∀ q ∈ ps, q.1.claims.length ≤ 1000) (hnd : ds.length ≤ 1000000000000) (hdl : ∀ d ∈ ds, d.legs.length ≤ 1000000000000) :
    ACallI Tryz.prog 43 [.agg [.own 49 s9 n9 5, .sh 4 ds.length (flat cDebt ds)], .agg (cN3 p)] H ny (fun res H' _ => res = .val (.one (.sh 4 (ds ++ [owN ⟨ps.map (·.1), ds⟩ p]).length (flat cDebt (ds ++ [owN ⟨ps.map (·.1), ds⟩ p])))) ∧ H' = H) := by
  subst hn9
  exact owe_I ps ds p H ny s9 hn h49 htab hp hge hg hnd hdl
theorem tbl_names {E : TypeId} {ps : List (GEst × Nat)} {x : Nat} {B : Blk} (h : tbl 103 E ps x = some B) : x < 500 ∨ x % 1000 = 103 := by
  obtain ⟨i, r, rfl, _, _⟩ := tbl_some h
  right; omega
set_option maxRecDepth 100000 in
set_option maxHeartbeats 4000000 in
theorem group_I (ny : Nat) (n : Nat) (cash : List Nat) (list : List N4) (pools debts : List N3) (hn : n < 256) (hcs : ∀ x ∈ cash, x < 65536) (hl : ∀ x ∈ list, x.a < 65536 ∧ x.b < 65536 ∧ x.c < 65536 ∧ x.d < 65536) (hpo : ∀ p ∈ pools, p.a < 65536 ∧ p.b < 65536 ∧ p.c < 65536) (hdo : ∀ p ∈ debts, p.a < 65536 ∧ p.b < 65536 ∧ p.c < 65536)
  (hc0 : cash.length ≤ 9223372036854775807) (hl0 : list.length ≤ 9223372036854775807) (hp0 : pools.length ≤ 9223372036854775807) (hd0 : debts.length ≤ 9223372036854775807) : ACallI Tryz.prog 15 [.one (.lit (.int .u8 n)), .one (.sh 1 cash.length (flat cU16 cash)), .one (.sh 4 list.length (flat cN4 list)), .one (.sh 3 pools.length (flat cN3 pools)), .one (.sh 3 debts.length (flat cN3 debts))] (fun _ => none) ny
   (fun res H' _ => ∃ ps s, ps.map (·.1) = grpE n cash list pools ∧ res = .val (.agg [.own 49 s ps.length 5, .sh 4 (grpN n cash list pools debts).debts.length (flat cDebt (grpN n cash list pools debts).debts)]) ∧ H' = mkOn (tbl 103 69 ps) [(10, ⟨ny, 30, 2, 1, [.own 49 s ps.length 5, .sh 4 (grpN n cash list pools debts).debts.length (flat cDebt (grpN n cash list pools debts).debts)]⟩), (49, ⟨s, 67, 5, ps.length, eRw (fOwn 103) ps 0⟩)]) := by
 refine acallI_of 0 Tryz.func15 rfl (by decide) (N := 155) rfl (by simp) (Rl := [.cell 10 30]) rfl fun en k0 => ?_
 refine awR [] [none] ?_
 simp only [(id F_lGrp), (id zS), seval]
 repeat refine ob ?_
 refine awR [] [none, none, none] ?_
 simp only [(id F_lGrp), (id zS), seval]
 repeat refine ob ?_
 have w1 : IntKind.i64.wrap ((n % 4 : Nat) : Int) = ((n % 4 : Nat) : Int) := wri _ (by omega)
 have w2 : ((n : Nat) : Int).tmod 4 = ((n % 4 : Nat) : Int) := tmodN n 4
 have w3 : (1 : Int) + ((n % 4 : Nat) : Int) = ((1 + n % 4 : Nat) : Int) := by omega
 refine awR [] [none, none, none, none, none] ?_
 simp only [(id F_lGrp), (id zS), seval, w1, w2, w3]
 repeat refine ob ?_
 generalize hsz : 1 + n % 4 = size at *
 refine awR [] [none] ?_
 simp only [(id F_lGrp), (id zS), seval]
 repeat refine ob ?_
 refine awp_nilc 11 0 49 _ 67 5 (by decide) (by rfl) (by decide) (by simp) (by rfl) ?_
 refine awp_keep [1, 2, 3, 4, 10, 11, 12, 13] [49, 10, 11] ?_
 try unfold Later
 try simp only [(id F_lGrp), (id zS), seval]
 repeat' first|apply awS|apply awB
 refine awp_loopw (fun n st => ∃ i s nx, i ≤ size ∧ n = size - i ∧ st = ⟨mkT [(1, .val (.one (.sh 1 cash.length (flat cU16 cash)))), (2, .val (.one (.sh 4 list.length (flat cN4 list)))), (3, .val (.one (.sh 3 pools.length (flat cN3 pools)))), (4, .val (.one (.sh 3 debts.length (flat cN3 debts)))), (10, .val (.one (.ptr 10 ny 0))), (11, .val (.one (.ptr 11 (ny + 1) 0))), (12, one (.int .i64 (size : Int))), (13, one (.int .i64 i))], mkH [(49, ⟨s, 67, 5, i, eRow fNil ((List.range i).map (fun j => (mkEst cash j, 0))) 0⟩), (10, ⟨ny, 30, 2, 1, [.lit (.slice none 0 0), .lit (.slice none 0 0)]⟩), (11, ⟨ny + 1, 30, 2, 1, [.own 49 s i 5, .lit (.slice none 0 0)]⟩)], nx, 0⟩) (size) ⟨0, _, _, by omega, by omega, rfl⟩ ?_
 rintro n0 st ⟨i, s, nx0, hi, rfl, rfl⟩
 by_cases hI : (i : Int) < (size : Int)
 ·
  refine awR [] [none, none, none] ?_
  simp only [(id F_lGrp), (id zS), seval, hI]
  repeat refine ob ?_
  refine awT ?_
  refine awK ?_
  simp only [(id F_lGrp), (id zS), seval]
  refine awR [] [none, none, none] ?_
  simp only [(id F_lGrp), (id zS), seval, hI]
  repeat refine ob ?_
  by_cases hc : (i : Int) < (cash.length : Int)
  ·
   refine awR [] [none, none, none, none] ?_
   simp only [(id F_lGrp), (id zS), seval, hI, hc]
   repeat refine ob ?_
   refine awT ?_
   have hcl : i < cash.length := by omega
   have hatc := flat_at cU16_len cash i hcl
   rw [Nat.mul_one] at hatc
   have hci := hcs _ (List.getElem_mem hcl)
   refine awR [] [none, none, none, none, none, none, none] ?_
   simp only [(id F_lGrp), (id zS), seval, hI, hc, hatc, cU16, cRat]
   repeat refine ob ?_
   refine ⟨_, (aAmount _ hci), (by first | rfl | simp [allA, pure1, pureCs, pureC, A1.cells, flat_pure cAgr_pure, flat_pure cDebt_pure, flat_pure cEst_pure]), ?_⟩
   try unfold Later
   try simp only [(id F_lGrp), (id zS), seval, hI, hc, hatc, cU16, cRat]
   repeat refine ob ?_
   refine awR [] [none, none, none, none, none, none, none] ?_
   simp only [(id F_lGrp), (id zS), seval, hI, hc]
   repeat refine ob ?_
   refine awR [] [none, none, none] ?_
   simp only [(id F_lGrp), (id zS), seval, hI, hc]
   repeat refine ob ?_
   have hmk : (mkEst cash i).cash = enc (qAmt cash[i]) := by unfold mkEst; simp [gAmt, hcl]
   have hrw : eRow fNil ((List.range (i + 1)).map (fun j => (mkEst cash j, 0))) 0 = eRow fNil ((List.range i).map (fun j => (mkEst cash j, 0))) 0 ++ [.lit (.bool (enc (qAmt cash[i])).neg), .lit (.string (enc (qAmt cash[i])).num), .lit (.string (enc (qAmt cash[i])).den), .lit (.slice none 0 0), .lit (.slice none 0 0)] := by rw [List.range_succ, List.map_append, eRow_append]; simp only [List.map_cons, List.map_nil, eRow, hmk, fNil, List.append_nil]
   repeat refine ob ?_
   refine ⟨_, wk_keep [1, 2, 3, 4, 10, 11, 12, 13] [49, 10, 11], size - (i + 1), by omega, i + 1, nx0 + 2, nx0 + 3, by omega, rfl, ?_⟩
   simp only [(id F_lGrp), (id zS), seval, hrw]
   try rfl
  refine awR [] [none, none, none, none] ?_
  simp only [(id F_lGrp), (id zS), seval, hI, hc]
  repeat refine ob ?_
  refine awF ?_
  refine awK ?_
  simp only [(id F_lGrp), (id zS), seval]
  refine awR [] [none, none, none, none, none, none, none] ?_
  simp only [(id F_lGrp), (id zS), seval, hI, hc]
  repeat refine ob ?_
  refine awR [] [none, none, none] ?_
  simp only [(id F_lGrp), (id zS), seval, hI, hc]
  repeat refine ob ?_
  have hmk : (mkEst cash i).cash = gZ := by unfold mkEst; simp [show ¬ i < cash.length by omega]
  have hrw : eRow fNil ((List.range (i + 1)).map (fun j => (mkEst cash j, 0))) 0 = eRow fNil ((List.range i).map (fun j => (mkEst cash j, 0))) 0 ++ [.lit (.bool (gZ).neg), .lit (.string (gZ).num), .lit (.string (gZ).den), .lit (.slice none 0 0), .lit (.slice none 0 0)] := by rw [List.range_succ, List.map_append, eRow_append]; simp only [List.map_cons, List.map_nil, eRow, hmk, fNil, List.append_nil]
  repeat refine ob ?_
  refine ⟨_, wk_keep [1, 2, 3, 4, 10, 11, 12, 13] [49, 10, 11], size - (i + 1), by omega, i + 1, nx0 + 2, nx0 + 3, by omega, rfl, ?_⟩
  simp only [(id F_lGrp), (id zS), seval, hrw]
  try rfl
 refine awR [] [none, none, none] ?_
 simp only [(id F_lGrp), (id zS), seval, hI]
 repeat refine ob ?_
 refine awF ?_
 refine awQ ?_
 simp only [(id F_lGrp), (id zS), seval]
 refine awR [] [none, none, none] ?_
 simp only [(id F_lGrp), (id zS), seval, hI]
 repeat refine ob ?_
 obtain rfl : size = i := by omega
 refine awp_keep [3, 4, 10, 11, 12, 51, 52, 53] [49, 10, 11] ?_
 try unfold Later
 try simp only [(id F_lGrp), (id zS), seval, hI]
 rw [eRow_fst (m := (List.range size).map (fun j => (mkEst cash j, nx0 + j))) 0 (by rw [List.map_map, List.map_map]; rfl)]
 refine awp_wk (wk_nils 103 69 67 (by decide) 49 [(10, ⟨ny, 30, 2, 1, [.lit (.slice none 0 0), .lit (.slice none 0 0)]⟩), (11, ⟨ny + 1, 30, 2, 1, [.own 49 s size 5, .lit (.slice none 0 0)]⟩)] (by simp) (by decide) size nx0 ((List.range size).map (fun j => (mkEst cash j, nx0 + j))) (fun j p hj => ?_)) ?_
 ·
  rw [List.getElem?_map] at hj
  obtain ⟨i, hi, rfl⟩ := Option.map_eq_some_iff.1 hj
  obtain rfl : j = i := by obtain ⟨h1, h2⟩ := List.getElem?_eq_some_iff.1 hi; simpa using h2
  exact ⟨rfl, rfl⟩
 repeat' first|apply awS|apply awB
 refine awp_loopw (fun n st => ∃ k ps s nx, k ≤ list.length ∧ n = list.length - k ∧ (list.drop k).foldl (addClaim size) (ps.map (·.1)) = list.foldl (addClaim size) ((List.range size).map (mkEst cash)) ∧ ps.length = size ∧ (∀ e ∈ ps.map (·.1), okC e) ∧ st = ⟨mkT [(3, .val (.one (.sh 3 pools.length (flat cN3 pools)))), (4, .val (.one (.sh 3 debts.length (flat cN3 debts)))), (10, .val (.one (.ptr 10 ny 0))), (11, .val (.one (.ptr 11 (ny + 1) 0))), (12, one (.int .i64 (size : Int))), (51, .val (.one (.sh 4 list.length (flat cN4 list)))), (52, one (.int .i64 list.length)), (53, one (.int .i64 k))], mkOn (tbl 103 69 ps) [(49, ⟨s, 67, 5, size, eRow (fOwn 103) ps 0⟩), (10, ⟨ny, 30, 2, 1, [.lit (.slice none 0 0), .lit (.slice none 0 0)]⟩), (11, ⟨ny + 1, 30, 2, 1, [.own 49 s size 5, .lit (.slice none 0 0)]⟩)], nx, 0⟩) (list.length) ⟨0, (List.range size).map (fun j => (mkEst cash j, nx0 + j)), _, _, by omega, by omega, by rw [List.drop_zero, List.map_map]; rfl, by simp, by intro e he; simp only [List.map_map, List.mem_map] at he; obtain ⟨j, _, rfl⟩ := he; exact ⟨by simp [mkEst], rfl⟩, rfl⟩ ?_
 rintro n1 st ⟨k, ps, s, nx1, hk, rfl, hL1, hpl, hok, rfl⟩
 by_cases hlt1 : (k : Int) < (list.length : Int)
 ·
  refine awR [] [none] ?_
  simp only [(id F_lGrp), (id zS), seval, hI, hlt1]
  repeat refine ob ?_
  refine awT ?_
  refine awK ?_
  simp only [(id F_lGrp), (id zS), seval]
  have hltn : k < list.length := by omega
  have hx3 := hl _ (List.getElem_mem hltn)
  have hatl := flat_at cN4_len list k hltn
  rw [List.drop_eq_getElem_cons hltn, List.foldl_cons] at hL1
  generalize list[k] = x at *
  obtain ⟨j, hj⟩ : ∃ j, j = x.a % size := ⟨_, rfl⟩
  have hjl : j < ps.length := by rw [hpl, hj]; exact Nat.mod_lt _ (by omega)
  obtain ⟨p, hp⟩ : ∃ p, ps[j]? = some p := ⟨_, List.getElem?_eq_getElem hjl⟩
  refine awR [] [none, none, none, none] ?_
  simp only [(id F_lGrp), (id zS), seval, hI, hlt1, hatl, cN4]
  repeat refine ob ?_
  have w4 := tmodN x.a size
  refine awR [] [none, none, none, none, none, none] ?_
  simp only [(id F_lGrp), (id zS), seval, hI, hlt1, w4]
  repeat refine ob ?_
  by_cases h6 : (6 : Int) ≤ (p.1.claims.length : Int)
  ·
   rw [← hj]
   obtain ⟨b, hb⟩ : ∃ b, b = 1000 * (j + 1) := ⟨_, rfl⟩
   have hgd : (ps.map (·.1)).getD j ztEst = p.1 := by rw [List.getD_eq_getElem?_getD, List.getElem?_map, hp]; rfl
   have hown : fOwn 103 j p = .own (b + 103) p.2 p.1.claims.length 5 := by simp [fOwn, hb]
   have hget := eRow_get3 (fOwn 103) ps j p hp
   rw [hown] at hget
   have hx1 : (b + 103 = b + 102) = False := by simp
   have hx2 : (b + 102 = b + 103) = False := by simp
   have hrl := eRow_len (fOwn 103) ps 0
   have htb : tbl 103 69 ps (b + 103) = some ⟨p.2, 69, 5, p.1.claims.length, flat cClaim p.1.claims⟩ := by rw [hb]; exact tbl_at (by decide) hp
   have F103 : ∀ c, c < 1000 → ((b + 103 = c) = False ∧ (c = b + 103) = False) := fun c hc => ⟨by simp; omega, by simp; omega⟩
   have F102 : ∀ c, c < 1000 → ((b + 102 = c) = False ∧ (c = b + 102) = False) := fun c hc => ⟨by simp; omega, by simp; omega⟩
   refine awR [] [none, none, none, none, none, none, none, none] ?_
   simp only [(id F_lGrp), (id zS), seval, hI, hlt1, h6, hget, F103, F102, hx1, hx2, htb]
   repeat refine ob ?_
   refine awT ?_
   refine awQ ?_
   simp only [(id F_lGrp), (id zS), seval]
   refine awR [] [none, none] ?_
   simp only [(id F_lGrp), (id zS), seval, hI, hlt1, h6]
   repeat refine ob ?_
   have hsame : addClaim size (ps.map (·.1)) x = ps.map (·.1) := by unfold addClaim; rw [← hj, hgd, if_pos (by omega)]
   rw [hsame] at hL1
   refine ⟨_, (wk_on (tbl 103 69 ps) [3, 4, 10, 11, 12, 51, 52, 53] [49, 10, 11] (by intro y B h; obtain ⟨q, r, rfl, h2, h3⟩ := tbl_some h; right; simpa [up_apply, show 1000 * (q + 1) + 103 ≠ 49 by omega, show 1000 * (q + 1) + 103 ≠ 16 by omega, show 1000 * (q + 1) + 103 ≠ 11 by omega, show 1000 * (q + 1) + 103 ≠ 10 by omega] using h)).trans (wk_nb 0), list.length - (k + 1), by omega, k + 1, ps, s, ?nq23, by omega, rfl, hL1, hpl, hok, ?sq23⟩
   case sq23 => (simp only [(id F_lGrp), (id zS), seval]; rfl)
  rw [← hj]
  obtain ⟨b, hb⟩ : ∃ b, b = 1000 * (j + 1) := ⟨_, rfl⟩
  have hgd : (ps.map (·.1)).getD j ztEst = p.1 := by rw [List.getD_eq_getElem?_getD, List.getElem?_map, hp]; rfl
  have hown : fOwn 103 j p = .own (b + 103) p.2 p.1.claims.length 5 := by simp [fOwn, hb]
  have hget := eRow_get3 (fOwn 103) ps j p hp
  rw [hown] at hget
  have hx1 : (b + 103 = b + 102) = False := by simp
  have hx2 : (b + 102 = b + 103) = False := by simp
  have hrl := eRow_len (fOwn 103) ps 0
  have htb : tbl 103 69 ps (b + 103) = some ⟨p.2, 69, 5, p.1.claims.length, flat cClaim p.1.claims⟩ := by rw [hb]; exact tbl_at (by decide) hp
  have F103 : ∀ c, c < 1000 → ((b + 103 = c) = False ∧ (c = b + 103) = False) := fun c hc => ⟨by simp; omega, by simp; omega⟩
  have F102 : ∀ c, c < 1000 → ((b + 102 = c) = False ∧ (c = b + 102) = False) := fun c hc => ⟨by simp; omega, by simp; omega⟩
  refine awR [] [none, none, none, none, none, none, none, none] ?_
  simp only [(id F_lGrp), (id zS), seval, hI, hlt1, h6, hget, F103, F102, hx1, hx2, htb]
  repeat refine ob ?_
  refine awF ?_
  refine awK ?_
  simp only [(id F_lGrp), (id zS), seval]
  have w5 : ((x.b : Nat) : Int).tmod ((size : Int) + 1) = ((x.b % (size + 1) : Nat) : Int) := tmodN x.b (size + 1)
  refine awR [] [none, none, none, none, none, none, none] ?_
  simp only [(id F_lGrp), (id zS), seval, hI, hlt1, h6, cN4, w5]
  repeat refine ob ?_
  by_cases hh1 : ((x.b % (size + 1) : Nat) : Int) = (j : Int)
  ·
   refine awR [] [none, none, none, none, some (79, false), some (79, false), some (79, false), none] ?_
   simp only [(id F_lGrp), (id zS), seval, hI, hlt1, h6, hh1]
   repeat refine ob ?_
   refine awT ?_
   refine awR [] [none] ?_
   simp only [(id F_lGrp), (id zS), seval, hI, hlt1, h6, hh1]
   repeat refine ob ?_
   have w6 : ((x.c : Nat) : Int).tmod 3 = ((x.c % 3 : Nat) : Int) := tmodN x.c 3
   have w7 : IntKind.i64.wrap ((x.c % 3 : Nat) : Int) = ((x.c % 3 : Nat) : Int) := wri _ (by omega)
   have hhold : mkHolder size (x.a % size) x.b = -1 := by unfold mkHolder; rw [if_pos (by rw [← hj]; omega)]
   refine awp_nb b ?_
   dsimp only
   refine awD (scq [1, 5, 7, 9, 11, 13, 15, 17, 19, 21, 23, 25, 27, 29, 31] (.two 1 16 (scq [32, 35, 36, 38, 41, 43, 44] .nil) (scq [35] (.two 1 18 (scq [36, 38, 41, 43, 44] .nil) (.two 1 19 (scq [38, 41, 43, 44] .nil) (scq [3, 41, 43, 44] .nil)))))) [none, none, none, none, none, none, none, none, none, none, none, none, none, none, none, none, none, none, none, none, none, none, none] ?_
   simp only [(id F_lGrp), (id zS), seval, hI, hlt1, h6, hh1, hget, F103, F102, hx1, hx2, htb, cN4, cRat, w6, w7]
   repeat refine ob ?_
   refine ⟨?_, ?_⟩
   ·
    repeat refine ob ?_
    refine ⟨_, (aAmount x.d hx3.2.2.2), (by first | rfl | simp [allA, pure1, pureCs, pureC, A1.cells, flat_pure cAgr_pure, flat_pure cDebt_pure, flat_pure cEst_pure]), ?_⟩
    try unfold Later
    try simp only [(id F_lGrp), (id zS), seval, hI, hlt1, h6, hh1, hget, F103, F102, hx1, hx2, htb, cN4, cRat, w6, w7]
    repeat refine ob ?_
    refine awR [] [none, none] ?_
    simp only [(id F_lGrp), (id zS), seval, hI, hlt1, h6, hh1]
    repeat refine ob ?_
    have hadd : addClaim size (ps.map (·.1)) x = (ps.set j ({ p.1 with claims := p.1.claims ++ [mkClaim size x] }, nx1 + 2)).map (·.1) := by rw [List.map_set]; unfold addClaim; rw [← hj, hgd, if_neg (by omega)]
    rw [hadd] at hL1
    have hok2 := addClaim_ok size (ps.map (·.1)) x hok
    rw [hadd] at hok2
    have hsub : ∀ q r, (ps.set j ({ p.1 with claims := p.1.claims ++ [mkClaim size x] }, nx1 + 2))[q]? = some r → r = ({ p.1 with claims := p.1.claims ++ [mkClaim size x] }, nx1 + 2) ∧ q = j ∨ q ≠ j ∧ ps[q]? = some r := by
     intro q r hq
     by_cases hqj : q = j
     ·
      subst hqj; rw [List.getElem?_set_self hjl] at hq; exact .inl ⟨(Option.some.inj hq).symm, rfl⟩
     rw [List.getElem?_set_ne (fun h => hqj h.symm)] at hq; exact .inr ⟨hqj, hq⟩
    have hrow := eRow_set3 (fOwn 103) (fOwn 103) ps j p ({ p.1 with claims := p.1.claims ++ [mkClaim size x] }, nx1 + 2) hp rfl (fun _ _ _ _ => rfl)
    have hfo : fOwn 103 j ({ p.1 with claims := p.1.claims ++ [mkClaim size x] }, nx1 + 2) = .own (b + 103) (nx1 + 2) (p.1.claims.length + 1) 5 := by simp [fOwn, hb]
    rw [hfo, ← spl_one _ _ _ (by rw [eRow_len]; omega)] at hrow
    refine ⟨_, (wk_on (tbl 103 69 (ps.set j ({ p.1 with claims := p.1.claims ++ [mkClaim size x] }, nx1 + 2))) [3, 4, 10, 11, 12, 51, 52, 53] [49, 10, 11] (tbl_sub (fun q r hq => ?tq30) _)).trans (wk_nb 0), list.length - (k + 1), by omega, k + 1, ps.set j ({ p.1 with claims := p.1.claims ++ [mkClaim size x] }, nx1 + 2), s, nx1 + 3, by omega, rfl, hL1, by rw [List.length_set]; exact hpl, hok2, ?sq30⟩
    case sq30 => (simp only [(id F_lGrp), (id zS), seval, hrow]; rfl)
    case tq30 =>
     rcases hsub q r hq with ⟨rfl, rfl⟩ | ⟨h1, h2⟩
     ·
      simp only [← hb, up_apply, F103, F102, seval, if_true, if_false, reduceIte, List.length_append, List.length_cons, List.length_nil, Nat.zero_add, flat_snoc, cClaim, mkClaim, hhold, gAmt]
     have g1 : 1000 * (q + 1) + 103 ≠ b + 103 := by omega
     have g2 : 1000 * (q + 1) + 103 ≠ b + 102 := by omega
     simp only [up_apply, g1, g2, if_false, show 1000 * (q + 1) + 103 ≠ 49 by omega, show 1000 * (q + 1) + 103 ≠ 16 by omega, show 1000 * (q + 1) + 103 ≠ 11 by omega, show 1000 * (q + 1) + 103 ≠ 10 by omega]
     exact tbl_at (by decide) h2
   repeat refine ob ?_
   refine ⟨_, (aAmount x.d hx3.2.2.2), (by first | rfl | simp [allA, pure1, pureCs, pureC, A1.cells, flat_pure cAgr_pure, flat_pure cDebt_pure, flat_pure cEst_pure]), ?_⟩
   try unfold Later
   try simp only [(id F_lGrp), (id zS), seval, hI, hlt1, h6, hh1, hget, F103, F102, hx1, hx2, htb, cN4, cRat, w6, w7]
   repeat refine ob ?_
   refine ⟨?_, ?_⟩
   ·
    repeat refine ob ?_
    refine awR [] [none, none] ?_
    simp only [(id F_lGrp), (id zS), seval, hI, hlt1, h6, hh1]
    repeat refine ob ?_
    have hadd : addClaim size (ps.map (·.1)) x = (ps.set j ({ p.1 with claims := p.1.claims ++ [mkClaim size x] }, nx1 + 2)).map (·.1) := by rw [List.map_set]; unfold addClaim; rw [← hj, hgd, if_neg (by omega)]
    rw [hadd] at hL1
    have hok2 := addClaim_ok size (ps.map (·.1)) x hok
    rw [hadd] at hok2
    have hsub : ∀ q r, (ps.set j ({ p.1 with claims := p.1.claims ++ [mkClaim size x] }, nx1 + 2))[q]? = some r → r = ({ p.1 with claims := p.1.claims ++ [mkClaim size x] }, nx1 + 2) ∧ q = j ∨ q ≠ j ∧ ps[q]? = some r := by
     intro q r hq
     by_cases hqj : q = j
     ·
      subst hqj; rw [List.getElem?_set_self hjl] at hq; exact .inl ⟨(Option.some.inj hq).symm, rfl⟩
     rw [List.getElem?_set_ne (fun h => hqj h.symm)] at hq; exact .inr ⟨hqj, hq⟩
    have hrow := eRow_set3 (fOwn 103) (fOwn 103) ps j p ({ p.1 with claims := p.1.claims ++ [mkClaim size x] }, nx1 + 2) hp rfl (fun _ _ _ _ => rfl)
    have hfo : fOwn 103 j ({ p.1 with claims := p.1.claims ++ [mkClaim size x] }, nx1 + 2) = .own (b + 103) (nx1 + 2) (p.1.claims.length + 1) 5 := by simp [fOwn, hb]
    rw [hfo, ← spl_one _ _ _ (by rw [eRow_len]; omega)] at hrow
    refine ⟨_, (wk_on (tbl 103 69 (ps.set j ({ p.1 with claims := p.1.claims ++ [mkClaim size x] }, nx1 + 2))) [3, 4, 10, 11, 12, 51, 52, 53] [49, 10, 11] (tbl_sub (fun q r hq => ?tq32) _)).trans (wk_nb 0), list.length - (k + 1), by omega, k + 1, ps.set j ({ p.1 with claims := p.1.claims ++ [mkClaim size x] }, nx1 + 2), s, nx1 + 3, by omega, rfl, hL1, by rw [List.length_set]; exact hpl, hok2, ?sq32⟩
    case sq32 => (simp only [(id F_lGrp), (id zS), seval, hrow]; rfl)
    case tq32 =>
     rcases hsub q r hq with ⟨rfl, rfl⟩ | ⟨h1, h2⟩
     ·
      simp only [← hb, up_apply, F103, F102, seval, if_true, if_false, reduceIte, List.length_append, List.length_cons, List.length_nil, Nat.zero_add, flat_snoc, cClaim, mkClaim, hhold, gAmt]
     have g1 : 1000 * (q + 1) + 103 ≠ b + 103 := by omega
     have g2 : 1000 * (q + 1) + 103 ≠ b + 102 := by omega
     simp only [up_apply, g1, g2, if_false, show 1000 * (q + 1) + 103 ≠ 49 by omega, show 1000 * (q + 1) + 103 ≠ 16 by omega, show 1000 * (q + 1) + 103 ≠ 11 by omega, show 1000 * (q + 1) + 103 ≠ 10 by omega]
     exact tbl_at (by decide) h2
   repeat refine ob ?_
   refine ⟨?_, ?_⟩
   ·
    repeat refine ob ?_
    refine awR [] [none, none] ?_
    simp only [(id F_lGrp), (id zS), seval, hI, hlt1, h6, hh1]
    repeat refine ob ?_
    have hadd : addClaim size (ps.map (·.1)) x = (ps.set j ({ p.1 with claims := p.1.claims ++ [mkClaim size x] }, nx1 + 2)).map (·.1) := by rw [List.map_set]; unfold addClaim; rw [← hj, hgd, if_neg (by omega)]
    rw [hadd] at hL1
    have hok2 := addClaim_ok size (ps.map (·.1)) x hok
    rw [hadd] at hok2
    have hsub : ∀ q r, (ps.set j ({ p.1 with claims := p.1.claims ++ [mkClaim size x] }, nx1 + 2))[q]? = some r → r = ({ p.1 with claims := p.1.claims ++ [mkClaim size x] }, nx1 + 2) ∧ q = j ∨ q ≠ j ∧ ps[q]? = some r := by
     intro q r hq
     by_cases hqj : q = j
     ·
      subst hqj; rw [List.getElem?_set_self hjl] at hq; exact .inl ⟨(Option.some.inj hq).symm, rfl⟩
     rw [List.getElem?_set_ne (fun h => hqj h.symm)] at hq; exact .inr ⟨hqj, hq⟩
    have hrow := eRow_set3 (fOwn 103) (fOwn 103) ps j p ({ p.1 with claims := p.1.claims ++ [mkClaim size x] }, nx1 + 2) hp rfl (fun _ _ _ _ => rfl)
    have hfo : fOwn 103 j ({ p.1 with claims := p.1.claims ++ [mkClaim size x] }, nx1 + 2) = .own (b + 103) (nx1 + 2) (p.1.claims.length + 1) 5 := by simp [fOwn, hb]
    rw [hfo, ← spl_one _ _ _ (by rw [eRow_len]; omega)] at hrow
    refine ⟨_, (wk_on (tbl 103 69 (ps.set j ({ p.1 with claims := p.1.claims ++ [mkClaim size x] }, nx1 + 2))) [3, 4, 10, 11, 12, 51, 52, 53] [49, 10, 11] (tbl_sub (fun q r hq => ?tq34) _)).trans (wk_nb 0), list.length - (k + 1), by omega, k + 1, ps.set j ({ p.1 with claims := p.1.claims ++ [mkClaim size x] }, nx1 + 2), s, nx1 + 3, by omega, rfl, hL1, by rw [List.length_set]; exact hpl, hok2, ?sq34⟩
    case sq34 => (simp only [(id F_lGrp), (id zS), seval, hrow]; rfl)
    case tq34 =>
     rcases hsub q r hq with ⟨rfl, rfl⟩ | ⟨h1, h2⟩
     ·
      simp only [← hb, up_apply, F103, F102, seval, if_true, if_false, reduceIte, List.length_append, List.length_cons, List.length_nil, Nat.zero_add, flat_snoc, cClaim, mkClaim, hhold, gAmt]
     have g1 : 1000 * (q + 1) + 103 ≠ b + 103 := by omega
     have g2 : 1000 * (q + 1) + 103 ≠ b + 102 := by omega
     simp only [up_apply, g1, g2, if_false, show 1000 * (q + 1) + 103 ≠ 49 by omega, show 1000 * (q + 1) + 103 ≠ 16 by omega, show 1000 * (q + 1) + 103 ≠ 11 by omega, show 1000 * (q + 1) + 103 ≠ 10 by omega]
     exact tbl_at (by decide) h2
   repeat refine ob ?_
   refine awR [] [none, none] ?_
   simp only [(id F_lGrp), (id zS), seval, hI, hlt1, h6, hh1]
   repeat refine ob ?_
   have hadd : addClaim size (ps.map (·.1)) x = (ps.set j ({ p.1 with claims := p.1.claims ++ [mkClaim size x] }, nx1 + 2)).map (·.1) := by rw [List.map_set]; unfold addClaim; rw [← hj, hgd, if_neg (by omega)]
   rw [hadd] at hL1
   have hok2 := addClaim_ok size (ps.map (·.1)) x hok
   rw [hadd] at hok2
   have hsub : ∀ q r, (ps.set j ({ p.1 with claims := p.1.claims ++ [mkClaim size x] }, nx1 + 2))[q]? = some r → r = ({ p.1 with claims := p.1.claims ++ [mkClaim size x] }, nx1 + 2) ∧ q = j ∨ q ≠ j ∧ ps[q]? = some r := by
    intro q r hq
    by_cases hqj : q = j
    ·
     subst hqj; rw [List.getElem?_set_self hjl] at hq; exact .inl ⟨(Option.some.inj hq).symm, rfl⟩
    rw [List.getElem?_set_ne (fun h => hqj h.symm)] at hq; exact .inr ⟨hqj, hq⟩
   have hrow := eRow_set3 (fOwn 103) (fOwn 103) ps j p ({ p.1 with claims := p.1.claims ++ [mkClaim size x] }, nx1 + 2) hp rfl (fun _ _ _ _ => rfl)
   have hfo : fOwn 103 j ({ p.1 with claims := p.1.claims ++ [mkClaim size x] }, nx1 + 2) = .own (b + 103) (nx1 + 2) (p.1.claims.length + 1) 5 := by simp [fOwn, hb]
   rw [hfo, ← spl_one _ _ _ (by rw [eRow_len]; omega)] at hrow
   refine ⟨_, (wk_on (tbl 103 69 (ps.set j ({ p.1 with claims := p.1.claims ++ [mkClaim size x] }, nx1 + 2))) [3, 4, 10, 11, 12, 51, 52, 53] [49, 10, 11] (tbl_sub (fun q r hq => ?tq36) _)).trans (wk_nb 0), list.length - (k + 1), by omega, k + 1, ps.set j ({ p.1 with claims := p.1.claims ++ [mkClaim size x] }, nx1 + 2), s, nx1 + 3, by omega, rfl, hL1, by rw [List.length_set]; exact hpl, hok2, ?sq36⟩
   case sq36 => (simp only [(id F_lGrp), (id zS), seval, hrow]; rfl)
   case tq36 =>
    rcases hsub q r hq with ⟨rfl, rfl⟩ | ⟨h1, h2⟩
    ·
     simp only [← hb, up_apply, F103, F102, seval, if_true, if_false, reduceIte, List.length_append, List.length_cons, List.length_nil, Nat.zero_add, flat_snoc, cClaim, mkClaim, hhold, gAmt]
    have g1 : 1000 * (q + 1) + 103 ≠ b + 103 := by omega
    have g2 : 1000 * (q + 1) + 103 ≠ b + 102 := by omega
    simp only [up_apply, g1, g2, if_false, show 1000 * (q + 1) + 103 ≠ 49 by omega, show 1000 * (q + 1) + 103 ≠ 16 by omega, show 1000 * (q + 1) + 103 ≠ 11 by omega, show 1000 * (q + 1) + 103 ≠ 10 by omega]
    exact tbl_at (by decide) h2
  by_cases hh2 : (size : Int) ≤ ((x.b % (size + 1) : Nat) : Int)
  ·
   refine awR [] [none, none, none, none, some (79, false), some (79, false), some (79, false), none] ?_
   simp only [(id F_lGrp), (id zS), seval, hI, hlt1, h6, hh1, hh2]
   repeat refine ob ?_
   refine awT ?_
   refine awR [] [none] ?_
   simp only [(id F_lGrp), (id zS), seval, hI, hlt1, h6, hh1, hh2]
   repeat refine ob ?_
   have w6 : ((x.c : Nat) : Int).tmod 3 = ((x.c % 3 : Nat) : Int) := tmodN x.c 3
   have w7 : IntKind.i64.wrap ((x.c % 3 : Nat) : Int) = ((x.c % 3 : Nat) : Int) := wri _ (by omega)
   have hhold : mkHolder size (x.a % size) x.b = -1 := by unfold mkHolder; rw [if_pos (by rw [← hj]; omega)]
   refine awp_nb b ?_
   dsimp only
   refine awD (scq [1, 5, 7, 9, 11, 13, 15, 17, 19, 21, 23, 25, 27, 29, 31] (.two 1 16 (scq [32, 35, 36, 38, 41, 43, 44] .nil) (scq [35] (.two 1 18 (scq [36, 38, 41, 43, 44] .nil) (.two 1 19 (scq [38, 41, 43, 44] .nil) (scq [3, 41, 43, 44] .nil)))))) [none, none, none, none, none, none, none, none, none, none, none, none, none, none, none, none, none, none, none, none, none, none, none] ?_
   simp only [(id F_lGrp), (id zS), seval, hI, hlt1, h6, hh1, hh2, hget, F103, F102, hx1, hx2, htb, cN4, cRat, w6, w7]
   repeat refine ob ?_
   refine ⟨?_, ?_⟩
   ·
    repeat refine ob ?_
    refine ⟨_, (aAmount x.d hx3.2.2.2), (by first | rfl | simp [allA, pure1, pureCs, pureC, A1.cells, flat_pure cAgr_pure, flat_pure cDebt_pure, flat_pure cEst_pure]), ?_⟩
    try unfold Later
    try simp only [(id F_lGrp), (id zS), seval, hI, hlt1, h6, hh1, hh2, hget, F103, F102, hx1, hx2, htb, cN4, cRat, w6, w7]
    repeat refine ob ?_
    refine awR [] [none, none] ?_
    simp only [(id F_lGrp), (id zS), seval, hI, hlt1, h6, hh1, hh2]
    repeat refine ob ?_
    have hadd : addClaim size (ps.map (·.1)) x = (ps.set j ({ p.1 with claims := p.1.claims ++ [mkClaim size x] }, nx1 + 2)).map (·.1) := by rw [List.map_set]; unfold addClaim; rw [← hj, hgd, if_neg (by omega)]
    rw [hadd] at hL1
    have hok2 := addClaim_ok size (ps.map (·.1)) x hok
    rw [hadd] at hok2
    have hsub : ∀ q r, (ps.set j ({ p.1 with claims := p.1.claims ++ [mkClaim size x] }, nx1 + 2))[q]? = some r → r = ({ p.1 with claims := p.1.claims ++ [mkClaim size x] }, nx1 + 2) ∧ q = j ∨ q ≠ j ∧ ps[q]? = some r := by
     intro q r hq
     by_cases hqj : q = j
     ·
      subst hqj; rw [List.getElem?_set_self hjl] at hq; exact .inl ⟨(Option.some.inj hq).symm, rfl⟩
     rw [List.getElem?_set_ne (fun h => hqj h.symm)] at hq; exact .inr ⟨hqj, hq⟩
    have hrow := eRow_set3 (fOwn 103) (fOwn 103) ps j p ({ p.1 with claims := p.1.claims ++ [mkClaim size x] }, nx1 + 2) hp rfl (fun _ _ _ _ => rfl)
    have hfo : fOwn 103 j ({ p.1 with claims := p.1.claims ++ [mkClaim size x] }, nx1 + 2) = .own (b + 103) (nx1 + 2) (p.1.claims.length + 1) 5 := by simp [fOwn, hb]
    rw [hfo, ← spl_one _ _ _ (by rw [eRow_len]; omega)] at hrow
    refine ⟨_, (wk_on (tbl 103 69 (ps.set j ({ p.1 with claims := p.1.claims ++ [mkClaim size x] }, nx1 + 2))) [3, 4, 10, 11, 12, 51, 52, 53] [49, 10, 11] (tbl_sub (fun q r hq => ?tq41) _)).trans (wk_nb 0), list.length - (k + 1), by omega, k + 1, ps.set j ({ p.1 with claims := p.1.claims ++ [mkClaim size x] }, nx1 + 2), s, nx1 + 3, by omega, rfl, hL1, by rw [List.length_set]; exact hpl, hok2, ?sq41⟩
    case sq41 => (simp only [(id F_lGrp), (id zS), seval, hrow]; rfl)
    case tq41 =>
     rcases hsub q r hq with ⟨rfl, rfl⟩ | ⟨h1, h2⟩
     ·
      simp only [← hb, up_apply, F103, F102, seval, if_true, if_false, reduceIte, List.length_append, List.length_cons, List.length_nil, Nat.zero_add, flat_snoc, cClaim, mkClaim, hhold, gAmt]
     have g1 : 1000 * (q + 1) + 103 ≠ b + 103 := by omega
     have g2 : 1000 * (q + 1) + 103 ≠ b + 102 := by omega
     simp only [up_apply, g1, g2, if_false, show 1000 * (q + 1) + 103 ≠ 49 by omega, show 1000 * (q + 1) + 103 ≠ 16 by omega, show 1000 * (q + 1) + 103 ≠ 11 by omega, show 1000 * (q + 1) + 103 ≠ 10 by omega]
     exact tbl_at (by decide) h2
   repeat refine ob ?_
   refine ⟨_, (aAmount x.d hx3.2.2.2), (by first | rfl | simp [allA, pure1, pureCs, pureC, A1.cells, flat_pure cAgr_pure, flat_pure cDebt_pure, flat_pure cEst_pure]), ?_⟩
   try unfold Later
   try simp only [(id F_lGrp), (id zS), seval, hI, hlt1, h6, hh1, hh2, hget, F103, F102, hx1, hx2, htb, cN4, cRat, w6, w7]
   repeat refine ob ?_
   refine ⟨?_, ?_⟩
   ·
    repeat refine ob ?_
    refine awR [] [none, none] ?_
    simp only [(id F_lGrp), (id zS), seval, hI, hlt1, h6, hh1, hh2]
    repeat refine ob ?_
    have hadd : addClaim size (ps.map (·.1)) x = (ps.set j ({ p.1 with claims := p.1.claims ++ [mkClaim size x] }, nx1 + 2)).map (·.1) := by rw [List.map_set]; unfold addClaim; rw [← hj, hgd, if_neg (by omega)]
    rw [hadd] at hL1
    have hok2 := addClaim_ok size (ps.map (·.1)) x hok
    rw [hadd] at hok2
    have hsub : ∀ q r, (ps.set j ({ p.1 with claims := p.1.claims ++ [mkClaim size x] }, nx1 + 2))[q]? = some r → r = ({ p.1 with claims := p.1.claims ++ [mkClaim size x] }, nx1 + 2) ∧ q = j ∨ q ≠ j ∧ ps[q]? = some r := by
     intro q r hq
     by_cases hqj : q = j
     ·
      subst hqj; rw [List.getElem?_set_self hjl] at hq; exact .inl ⟨(Option.some.inj hq).symm, rfl⟩
     rw [List.getElem?_set_ne (fun h => hqj h.symm)] at hq; exact .inr ⟨hqj, hq⟩
    have hrow := eRow_set3 (fOwn 103) (fOwn 103) ps j p ({ p.1 with claims := p.1.claims ++ [mkClaim size x] }, nx1 + 2) hp rfl (fun _ _ _ _ => rfl)
    have hfo : fOwn 103 j ({ p.1 with claims := p.1.claims ++ [mkClaim size x] }, nx1 + 2) = .own (b + 103) (nx1 + 2) (p.1.claims.length + 1) 5 := by simp [fOwn, hb]
    rw [hfo, ← spl_one _ _ _ (by rw [eRow_len]; omega)] at hrow
    refine ⟨_, (wk_on (tbl 103 69 (ps.set j ({ p.1 with claims := p.1.claims ++ [mkClaim size x] }, nx1 + 2))) [3, 4, 10, 11, 12, 51, 52, 53] [49, 10, 11] (tbl_sub (fun q r hq => ?tq43) _)).trans (wk_nb 0), list.length - (k + 1), by omega, k + 1, ps.set j ({ p.1 with claims := p.1.claims ++ [mkClaim size x] }, nx1 + 2), s, nx1 + 3, by omega, rfl, hL1, by rw [List.length_set]; exact hpl, hok2, ?sq43⟩
    case sq43 => (simp only [(id F_lGrp), (id zS), seval, hrow]; rfl)
    case tq43 =>
     rcases hsub q r hq with ⟨rfl, rfl⟩ | ⟨h1, h2⟩
     ·
      simp only [← hb, up_apply, F103, F102, seval, if_true, if_false, reduceIte, List.length_append, List.length_cons, List.length_nil, Nat.zero_add, flat_snoc, cClaim, mkClaim, hhold, gAmt]
     have g1 : 1000 * (q + 1) + 103 ≠ b + 103 := by omega
     have g2 : 1000 * (q + 1) + 103 ≠ b + 102 := by omega
     simp only [up_apply, g1, g2, if_false, show 1000 * (q + 1) + 103 ≠ 49 by omega, show 1000 * (q + 1) + 103 ≠ 16 by omega, show 1000 * (q + 1) + 103 ≠ 11 by omega, show 1000 * (q + 1) + 103 ≠ 10 by omega]
     exact tbl_at (by decide) h2
   repeat refine ob ?_
   refine ⟨?_, ?_⟩
   ·
    repeat refine ob ?_
    refine awR [] [none, none] ?_
    simp only [(id F_lGrp), (id zS), seval, hI, hlt1, h6, hh1, hh2]
    repeat refine ob ?_
    have hadd : addClaim size (ps.map (·.1)) x = (ps.set j ({ p.1 with claims := p.1.claims ++ [mkClaim size x] }, nx1 + 2)).map (·.1) := by rw [List.map_set]; unfold addClaim; rw [← hj, hgd, if_neg (by omega)]
    rw [hadd] at hL1
    have hok2 := addClaim_ok size (ps.map (·.1)) x hok
    rw [hadd] at hok2
    have hsub : ∀ q r, (ps.set j ({ p.1 with claims := p.1.claims ++ [mkClaim size x] }, nx1 + 2))[q]? = some r → r = ({ p.1 with claims := p.1.claims ++ [mkClaim size x] }, nx1 + 2) ∧ q = j ∨ q ≠ j ∧ ps[q]? = some r := by
     intro q r hq
     by_cases hqj : q = j
     ·
      subst hqj; rw [List.getElem?_set_self hjl] at hq; exact .inl ⟨(Option.some.inj hq).symm, rfl⟩
     rw [List.getElem?_set_ne (fun h => hqj h.symm)] at hq; exact .inr ⟨hqj, hq⟩
    have hrow := eRow_set3 (fOwn 103) (fOwn 103) ps j p ({ p.1 with claims := p.1.claims ++ [mkClaim size x] }, nx1 + 2) hp rfl (fun _ _ _ _ => rfl)
    have hfo : fOwn 103 j ({ p.1 with claims := p.1.claims ++ [mkClaim size x] }, nx1 + 2) = .own (b + 103) (nx1 + 2) (p.1.claims.length + 1) 5 := by simp [fOwn, hb]
    rw [hfo, ← spl_one _ _ _ (by rw [eRow_len]; omega)] at hrow
    refine ⟨_, (wk_on (tbl 103 69 (ps.set j ({ p.1 with claims := p.1.claims ++ [mkClaim size x] }, nx1 + 2))) [3, 4, 10, 11, 12, 51, 52, 53] [49, 10, 11] (tbl_sub (fun q r hq => ?tq45) _)).trans (wk_nb 0), list.length - (k + 1), by omega, k + 1, ps.set j ({ p.1 with claims := p.1.claims ++ [mkClaim size x] }, nx1 + 2), s, nx1 + 3, by omega, rfl, hL1, by rw [List.length_set]; exact hpl, hok2, ?sq45⟩
    case sq45 => (simp only [(id F_lGrp), (id zS), seval, hrow]; rfl)
    case tq45 =>
     rcases hsub q r hq with ⟨rfl, rfl⟩ | ⟨h1, h2⟩
     ·
      simp only [← hb, up_apply, F103, F102, seval, if_true, if_false, reduceIte, List.length_append, List.length_cons, List.length_nil, Nat.zero_add, flat_snoc, cClaim, mkClaim, hhold, gAmt]
     have g1 : 1000 * (q + 1) + 103 ≠ b + 103 := by omega
     have g2 : 1000 * (q + 1) + 103 ≠ b + 102 := by omega
     simp only [up_apply, g1, g2, if_false, show 1000 * (q + 1) + 103 ≠ 49 by omega, show 1000 * (q + 1) + 103 ≠ 16 by omega, show 1000 * (q + 1) + 103 ≠ 11 by omega, show 1000 * (q + 1) + 103 ≠ 10 by omega]
     exact tbl_at (by decide) h2
   repeat refine ob ?_
   refine awR [] [none, none] ?_
   simp only [(id F_lGrp), (id zS), seval, hI, hlt1, h6, hh1, hh2]
   repeat refine ob ?_
   have hadd : addClaim size (ps.map (·.1)) x = (ps.set j ({ p.1 with claims := p.1.claims ++ [mkClaim size x] }, nx1 + 2)).map (·.1) := by rw [List.map_set]; unfold addClaim; rw [← hj, hgd, if_neg (by omega)]
   rw [hadd] at hL1
   have hok2 := addClaim_ok size (ps.map (·.1)) x hok
   rw [hadd] at hok2
   have hsub : ∀ q r, (ps.set j ({ p.1 with claims := p.1.claims ++ [mkClaim size x] }, nx1 + 2))[q]? = some r → r = ({ p.1 with claims := p.1.claims ++ [mkClaim size x] }, nx1 + 2) ∧ q = j ∨ q ≠ j ∧ ps[q]? = some r := by
    intro q r hq
    by_cases hqj : q = j
    ·
     subst hqj; rw [List.getElem?_set_self hjl] at hq; exact .inl ⟨(Option.some.inj hq).symm, rfl⟩
    rw [List.getElem?_set_ne (fun h => hqj h.symm)] at hq; exact .inr ⟨hqj, hq⟩
   have hrow := eRow_set3 (fOwn 103) (fOwn 103) ps j p ({ p.1 with claims := p.1.claims ++ [mkClaim size x] }, nx1 + 2) hp rfl (fun _ _ _ _ => rfl)
   have hfo : fOwn 103 j ({ p.1 with claims := p.1.claims ++ [mkClaim size x] }, nx1 + 2) = .own (b + 103) (nx1 + 2) (p.1.claims.length + 1) 5 := by simp [fOwn, hb]
   rw [hfo, ← spl_one _ _ _ (by rw [eRow_len]; omega)] at hrow
   refine ⟨_, (wk_on (tbl 103 69 (ps.set j ({ p.1 with claims := p.1.claims ++ [mkClaim size x] }, nx1 + 2))) [3, 4, 10, 11, 12, 51, 52, 53] [49, 10, 11] (tbl_sub (fun q r hq => ?tq47) _)).trans (wk_nb 0), list.length - (k + 1), by omega, k + 1, ps.set j ({ p.1 with claims := p.1.claims ++ [mkClaim size x] }, nx1 + 2), s, nx1 + 3, by omega, rfl, hL1, by rw [List.length_set]; exact hpl, hok2, ?sq47⟩
   case sq47 => (simp only [(id F_lGrp), (id zS), seval, hrow]; rfl)
   case tq47 =>
    rcases hsub q r hq with ⟨rfl, rfl⟩ | ⟨h1, h2⟩
    ·
     simp only [← hb, up_apply, F103, F102, seval, if_true, if_false, reduceIte, List.length_append, List.length_cons, List.length_nil, Nat.zero_add, flat_snoc, cClaim, mkClaim, hhold, gAmt]
    have g1 : 1000 * (q + 1) + 103 ≠ b + 103 := by omega
    have g2 : 1000 * (q + 1) + 103 ≠ b + 102 := by omega
    simp only [up_apply, g1, g2, if_false, show 1000 * (q + 1) + 103 ≠ 49 by omega, show 1000 * (q + 1) + 103 ≠ 16 by omega, show 1000 * (q + 1) + 103 ≠ 11 by omega, show 1000 * (q + 1) + 103 ≠ 10 by omega]
    exact tbl_at (by decide) h2
  refine awR [] [none, none, none, none, some (79, false), some (79, false), some (79, false), none] ?_
  simp only [(id F_lGrp), (id zS), seval, hI, hlt1, h6, hh1, hh2]
  repeat refine ob ?_
  refine awF ?_
  refine awK ?_
  simp only [(id F_lGrp), (id zS), seval]
  have w6 : ((x.c : Nat) : Int).tmod 3 = ((x.c % 3 : Nat) : Int) := tmodN x.c 3
  have w7 : IntKind.i64.wrap ((x.c % 3 : Nat) : Int) = ((x.c % 3 : Nat) : Int) := wri _ (by omega)
  have hhold : mkHolder size (x.a % size) x.b = ((x.b % (size + 1) : Nat) : Int) := by unfold mkHolder; rw [if_neg (by rw [← hj]; omega)]
  refine awp_nb b ?_
  dsimp only
  refine awD (scq [1, 5, 7, 9, 11, 13, 15, 17, 19, 21, 23, 25, 27, 29, 31] (.two 1 16 (scq [32, 35, 36, 38, 41, 43, 44] .nil) (scq [35] (.two 1 18 (scq [36, 38, 41, 43, 44] .nil) (.two 1 19 (scq [38, 41, 43, 44] .nil) (scq [3, 41, 43, 44] .nil)))))) [none, none, none, none, none, none, none, none, none, none, none, none, none, none, none, none, none, none, none, none, none, none, none] ?_
  simp only [(id F_lGrp), (id zS), seval, hI, hlt1, h6, hh1, hh2, hget, F103, F102, hx1, hx2, htb, cN4, cRat, w6, w7]
  repeat refine ob ?_
  refine ⟨?_, ?_⟩
  ·
   repeat refine ob ?_
   refine ⟨_, (aAmount x.d hx3.2.2.2), (by first | rfl | simp [allA, pure1, pureCs, pureC, A1.cells, flat_pure cAgr_pure, flat_pure cDebt_pure, flat_pure cEst_pure]), ?_⟩
   try unfold Later
   try simp only [(id F_lGrp), (id zS), seval, hI, hlt1, h6, hh1, hh2, hget, F103, F102, hx1, hx2, htb, cN4, cRat, w6, w7]
   repeat refine ob ?_
   refine awR [] [none, none] ?_
   simp only [(id F_lGrp), (id zS), seval, hI, hlt1, h6, hh1, hh2]
   repeat refine ob ?_
   have hadd : addClaim size (ps.map (·.1)) x = (ps.set j ({ p.1 with claims := p.1.claims ++ [mkClaim size x] }, nx1 + 2)).map (·.1) := by rw [List.map_set]; unfold addClaim; rw [← hj, hgd, if_neg (by omega)]
   rw [hadd] at hL1
   have hok2 := addClaim_ok size (ps.map (·.1)) x hok
   rw [hadd] at hok2
   have hsub : ∀ q r, (ps.set j ({ p.1 with claims := p.1.claims ++ [mkClaim size x] }, nx1 + 2))[q]? = some r → r = ({ p.1 with claims := p.1.claims ++ [mkClaim size x] }, nx1 + 2) ∧ q = j ∨ q ≠ j ∧ ps[q]? = some r := by
    intro q r hq
    by_cases hqj : q = j
    ·
     subst hqj; rw [List.getElem?_set_self hjl] at hq; exact .inl ⟨(Option.some.inj hq).symm, rfl⟩
    rw [List.getElem?_set_ne (fun h => hqj h.symm)] at hq; exact .inr ⟨hqj, hq⟩
   have hrow := eRow_set3 (fOwn 103) (fOwn 103) ps j p ({ p.1 with claims := p.1.claims ++ [mkClaim size x] }, nx1 + 2) hp rfl (fun _ _ _ _ => rfl)
   have hfo : fOwn 103 j ({ p.1 with claims := p.1.claims ++ [mkClaim size x] }, nx1 + 2) = .own (b + 103) (nx1 + 2) (p.1.claims.length + 1) 5 := by simp [fOwn, hb]
   rw [hfo, ← spl_one _ _ _ (by rw [eRow_len]; omega)] at hrow
   refine ⟨_, (wk_on (tbl 103 69 (ps.set j ({ p.1 with claims := p.1.claims ++ [mkClaim size x] }, nx1 + 2))) [3, 4, 10, 11, 12, 51, 52, 53] [49, 10, 11] (tbl_sub (fun q r hq => ?tq51) _)).trans (wk_nb 0), list.length - (k + 1), by omega, k + 1, ps.set j ({ p.1 with claims := p.1.claims ++ [mkClaim size x] }, nx1 + 2), s, nx1 + 3, by omega, rfl, hL1, by rw [List.length_set]; exact hpl, hok2, ?sq51⟩
   case sq51 => (simp only [(id F_lGrp), (id zS), seval, hrow]; rfl)
   case tq51 =>
    rcases hsub q r hq with ⟨rfl, rfl⟩ | ⟨h1, h2⟩
    ·
     simp only [← hb, up_apply, F103, F102, seval, if_true, if_false, reduceIte, List.length_append, List.length_cons, List.length_nil, Nat.zero_add, flat_snoc, cClaim, mkClaim, hhold, gAmt]
    have g1 : 1000 * (q + 1) + 103 ≠ b + 103 := by omega
    have g2 : 1000 * (q + 1) + 103 ≠ b + 102 := by omega
    simp only [up_apply, g1, g2, if_false, show 1000 * (q + 1) + 103 ≠ 49 by omega, show 1000 * (q + 1) + 103 ≠ 16 by omega, show 1000 * (q + 1) + 103 ≠ 11 by omega, show 1000 * (q + 1) + 103 ≠ 10 by omega]
    exact tbl_at (by decide) h2
  repeat refine ob ?_
  refine ⟨_, (aAmount x.d hx3.2.2.2), (by first | rfl | simp [allA, pure1, pureCs, pureC, A1.cells, flat_pure cAgr_pure, flat_pure cDebt_pure, flat_pure cEst_pure]), ?_⟩
  try unfold Later
  try simp only [(id F_lGrp), (id zS), seval, hI, hlt1, h6, hh1, hh2, hget, F103, F102, hx1, hx2, htb, cN4, cRat, w6, w7]
  repeat refine ob ?_
  refine ⟨?_, ?_⟩
  ·
   repeat refine ob ?_
   refine awR [] [none, none] ?_
   simp only [(id F_lGrp), (id zS), seval, hI, hlt1, h6, hh1, hh2]
   repeat refine ob ?_
   have hadd : addClaim size (ps.map (·.1)) x = (ps.set j ({ p.1 with claims := p.1.claims ++ [mkClaim size x] }, nx1 + 2)).map (·.1) := by rw [List.map_set]; unfold addClaim; rw [← hj, hgd, if_neg (by omega)]
   rw [hadd] at hL1
   have hok2 := addClaim_ok size (ps.map (·.1)) x hok
   rw [hadd] at hok2
   have hsub : ∀ q r, (ps.set j ({ p.1 with claims := p.1.claims ++ [mkClaim size x] }, nx1 + 2))[q]? = some r → r = ({ p.1 with claims := p.1.claims ++ [mkClaim size x] }, nx1 + 2) ∧ q = j ∨ q ≠ j ∧ ps[q]? = some r := by
    intro q r hq
    by_cases hqj : q = j
    ·
     subst hqj; rw [List.getElem?_set_self hjl] at hq; exact .inl ⟨(Option.some.inj hq).symm, rfl⟩
    rw [List.getElem?_set_ne (fun h => hqj h.symm)] at hq; exact .inr ⟨hqj, hq⟩
   have hrow := eRow_set3 (fOwn 103) (fOwn 103) ps j p ({ p.1 with claims := p.1.claims ++ [mkClaim size x] }, nx1 + 2) hp rfl (fun _ _ _ _ => rfl)
   have hfo : fOwn 103 j ({ p.1 with claims := p.1.claims ++ [mkClaim size x] }, nx1 + 2) = .own (b + 103) (nx1 + 2) (p.1.claims.length + 1) 5 := by simp [fOwn, hb]
   rw [hfo, ← spl_one _ _ _ (by rw [eRow_len]; omega)] at hrow
   refine ⟨_, (wk_on (tbl 103 69 (ps.set j ({ p.1 with claims := p.1.claims ++ [mkClaim size x] }, nx1 + 2))) [3, 4, 10, 11, 12, 51, 52, 53] [49, 10, 11] (tbl_sub (fun q r hq => ?tq53) _)).trans (wk_nb 0), list.length - (k + 1), by omega, k + 1, ps.set j ({ p.1 with claims := p.1.claims ++ [mkClaim size x] }, nx1 + 2), s, nx1 + 3, by omega, rfl, hL1, by rw [List.length_set]; exact hpl, hok2, ?sq53⟩
   case sq53 => (simp only [(id F_lGrp), (id zS), seval, hrow]; rfl)
   case tq53 =>
    rcases hsub q r hq with ⟨rfl, rfl⟩ | ⟨h1, h2⟩
    ·
     simp only [← hb, up_apply, F103, F102, seval, if_true, if_false, reduceIte, List.length_append, List.length_cons, List.length_nil, Nat.zero_add, flat_snoc, cClaim, mkClaim, hhold, gAmt]
    have g1 : 1000 * (q + 1) + 103 ≠ b + 103 := by omega
    have g2 : 1000 * (q + 1) + 103 ≠ b + 102 := by omega
    simp only [up_apply, g1, g2, if_false, show 1000 * (q + 1) + 103 ≠ 49 by omega, show 1000 * (q + 1) + 103 ≠ 16 by omega, show 1000 * (q + 1) + 103 ≠ 11 by omega, show 1000 * (q + 1) + 103 ≠ 10 by omega]
    exact tbl_at (by decide) h2
  repeat refine ob ?_
  refine ⟨?_, ?_⟩
  ·
   repeat refine ob ?_
   refine awR [] [none, none] ?_
   simp only [(id F_lGrp), (id zS), seval, hI, hlt1, h6, hh1, hh2]
   repeat refine ob ?_
   have hadd : addClaim size (ps.map (·.1)) x = (ps.set j ({ p.1 with claims := p.1.claims ++ [mkClaim size x] }, nx1 + 2)).map (·.1) := by rw [List.map_set]; unfold addClaim; rw [← hj, hgd, if_neg (by omega)]
   rw [hadd] at hL1
   have hok2 := addClaim_ok size (ps.map (·.1)) x hok
   rw [hadd] at hok2
   have hsub : ∀ q r, (ps.set j ({ p.1 with claims := p.1.claims ++ [mkClaim size x] }, nx1 + 2))[q]? = some r → r = ({ p.1 with claims := p.1.claims ++ [mkClaim size x] }, nx1 + 2) ∧ q = j ∨ q ≠ j ∧ ps[q]? = some r := by
    intro q r hq
    by_cases hqj : q = j
    ·
     subst hqj; rw [List.getElem?_set_self hjl] at hq; exact .inl ⟨(Option.some.inj hq).symm, rfl⟩
    rw [List.getElem?_set_ne (fun h => hqj h.symm)] at hq; exact .inr ⟨hqj, hq⟩
   have hrow := eRow_set3 (fOwn 103) (fOwn 103) ps j p ({ p.1 with claims := p.1.claims ++ [mkClaim size x] }, nx1 + 2) hp rfl (fun _ _ _ _ => rfl)
   have hfo : fOwn 103 j ({ p.1 with claims := p.1.claims ++ [mkClaim size x] }, nx1 + 2) = .own (b + 103) (nx1 + 2) (p.1.claims.length + 1) 5 := by simp [fOwn, hb]
   rw [hfo, ← spl_one _ _ _ (by rw [eRow_len]; omega)] at hrow
   refine ⟨_, (wk_on (tbl 103 69 (ps.set j ({ p.1 with claims := p.1.claims ++ [mkClaim size x] }, nx1 + 2))) [3, 4, 10, 11, 12, 51, 52, 53] [49, 10, 11] (tbl_sub (fun q r hq => ?tq55) _)).trans (wk_nb 0), list.length - (k + 1), by omega, k + 1, ps.set j ({ p.1 with claims := p.1.claims ++ [mkClaim size x] }, nx1 + 2), s, nx1 + 3, by omega, rfl, hL1, by rw [List.length_set]; exact hpl, hok2, ?sq55⟩
   case sq55 => (simp only [(id F_lGrp), (id zS), seval, hrow]; rfl)
   case tq55 =>
    rcases hsub q r hq with ⟨rfl, rfl⟩ | ⟨h1, h2⟩
    ·
     simp only [← hb, up_apply, F103, F102, seval, if_true, if_false, reduceIte, List.length_append, List.length_cons, List.length_nil, Nat.zero_add, flat_snoc, cClaim, mkClaim, hhold, gAmt]
    have g1 : 1000 * (q + 1) + 103 ≠ b + 103 := by omega
    have g2 : 1000 * (q + 1) + 103 ≠ b + 102 := by omega
    simp only [up_apply, g1, g2, if_false, show 1000 * (q + 1) + 103 ≠ 49 by omega, show 1000 * (q + 1) + 103 ≠ 16 by omega, show 1000 * (q + 1) + 103 ≠ 11 by omega, show 1000 * (q + 1) + 103 ≠ 10 by omega]
    exact tbl_at (by decide) h2
  repeat refine ob ?_
  refine awR [] [none, none] ?_
  simp only [(id F_lGrp), (id zS), seval, hI, hlt1, h6, hh1, hh2]
  repeat refine ob ?_
  have hadd : addClaim size (ps.map (·.1)) x = (ps.set j ({ p.1 with claims := p.1.claims ++ [mkClaim size x] }, nx1 + 2)).map (·.1) := by rw [List.map_set]; unfold addClaim; rw [← hj, hgd, if_neg (by omega)]
  rw [hadd] at hL1
  have hok2 := addClaim_ok size (ps.map (·.1)) x hok
  rw [hadd] at hok2
  have hsub : ∀ q r, (ps.set j ({ p.1 with claims := p.1.claims ++ [mkClaim size x] }, nx1 + 2))[q]? = some r → r = ({ p.1 with claims := p.1.claims ++ [mkClaim size x] }, nx1 + 2) ∧ q = j ∨ q ≠ j ∧ ps[q]? = some r := by
   intro q r hq
   by_cases hqj : q = j
   ·
    subst hqj; rw [List.getElem?_set_self hjl] at hq; exact .inl ⟨(Option.some.inj hq).symm, rfl⟩
   rw [List.getElem?_set_ne (fun h => hqj h.symm)] at hq; exact .inr ⟨hqj, hq⟩
  have hrow := eRow_set3 (fOwn 103) (fOwn 103) ps j p ({ p.1 with claims := p.1.claims ++ [mkClaim size x] }, nx1 + 2) hp rfl (fun _ _ _ _ => rfl)
  have hfo : fOwn 103 j ({ p.1 with claims := p.1.claims ++ [mkClaim size x] }, nx1 + 2) = .own (b + 103) (nx1 + 2) (p.1.claims.length + 1) 5 := by simp [fOwn, hb]
  rw [hfo, ← spl_one _ _ _ (by rw [eRow_len]; omega)] at hrow
  refine ⟨_, (wk_on (tbl 103 69 (ps.set j ({ p.1 with claims := p.1.claims ++ [mkClaim size x] }, nx1 + 2))) [3, 4, 10, 11, 12, 51, 52, 53] [49, 10, 11] (tbl_sub (fun q r hq => ?tq57) _)).trans (wk_nb 0), list.length - (k + 1), by omega, k + 1, ps.set j ({ p.1 with claims := p.1.claims ++ [mkClaim size x] }, nx1 + 2), s, nx1 + 3, by omega, rfl, hL1, by rw [List.length_set]; exact hpl, hok2, ?sq57⟩
  case sq57 => (simp only [(id F_lGrp), (id zS), seval, hrow]; rfl)
  case tq57 =>
   rcases hsub q r hq with ⟨rfl, rfl⟩ | ⟨h1, h2⟩
   ·
    simp only [← hb, up_apply, F103, F102, seval, if_true, if_false, reduceIte, List.length_append, List.length_cons, List.length_nil, Nat.zero_add, flat_snoc, cClaim, mkClaim, hhold, gAmt]
   have g1 : 1000 * (q + 1) + 103 ≠ b + 103 := by omega
   have g2 : 1000 * (q + 1) + 103 ≠ b + 102 := by omega
   simp only [up_apply, g1, g2, if_false, show 1000 * (q + 1) + 103 ≠ 49 by omega, show 1000 * (q + 1) + 103 ≠ 16 by omega, show 1000 * (q + 1) + 103 ≠ 11 by omega, show 1000 * (q + 1) + 103 ≠ 10 by omega]
   exact tbl_at (by decide) h2
 refine awR [] [none] ?_
 simp only [(id F_lGrp), (id zS), seval, hI, hlt1]
 repeat refine ob ?_
 refine awF ?_
 refine awQ ?_
 simp only [(id F_lGrp), (id zS), seval]
 refine awR [] [none, none, none] ?_
 simp only [(id F_lGrp), (id zS), seval, hI, hlt1]
 repeat refine ob ?_
 obtain rfl : k = list.length := by omega
 rw [List.drop_length, List.foldl_nil] at hL1
 refine awp_on (tbl 103 69 ps) [4, 10, 11, 12, 107, 108, 109] [49, 10, 11] (by intro y B h; obtain ⟨q, r, rfl, h2, h3⟩ := tbl_some h; right; simpa [up_apply, show 1000 * (q + 1) + 103 ≠ 49 by omega, show 1000 * (q + 1) + 103 ≠ 16 by omega, show 1000 * (q + 1) + 103 ≠ 11 by omega, show 1000 * (q + 1) + 103 ≠ 10 by omega] using h) ?_
 simp only [(id F_lGrp), (id zS), seval]
 have hag0 : ∀ p ∈ ps, p.1.agrs = [] := fun p hp => (hok p.1 (List.mem_map.2 ⟨p, hp, rfl⟩)).2
 refine awp_wk (wk_cells 49 (eRw (fOwn 103) ps 0) (by rfl) (by show (5 : Nat) ≠ 0; decide) (by rw [eRw_len]; exact (eRow_len (fOwn 103) ps 0).symm) (eRow_eRw (fOwn 103) ps 0 hag0)) ?_
 simp only [(id F_lGrp), (id zS), seval]
 have hokB0 : ∀ e ∈ ps.map (·.1), okB e := fun e he => ⟨(hok e he).1, by rw [(hok e he).2]; simp, by rw [(hok e he).2]; simp⟩
 obtain ⟨es0, hes0⟩ : ∃ es0, es0 = ps.map (·.1) := ⟨_, rfl⟩
 rw [← hes0] at hL1
 refine awp_on (tbl 103 69 ps) [4, 10, 11, 12, 107, 108, 109] [49, 10, 11] (by intro y B h; obtain ⟨q, r, rfl, h2, h3⟩ := tbl_some h; right; simpa [up_apply, show 1000 * (q + 1) + 103 ≠ 49 by omega, show 1000 * (q + 1) + 103 ≠ 16 by omega, show 1000 * (q + 1) + 103 ≠ 11 by omega, show 1000 * (q + 1) + 103 ≠ 10 by omega] using h) ?_
 try unfold Later
 try simp only [(id F_lGrp), (id zS), seval, hI, hlt1]
 repeat' first|apply awS|apply awB
 refine awp_loopw (fun n st => ∃ k ps s nx, k ≤ pools.length ∧ n = pools.length - k ∧ (pools.drop k).foldl (addAg size) (ps.map (·.1)) = pools.foldl (addAg size) es0 ∧ ps.length = size ∧ (∀ e ∈ ps.map (·.1), okB e) ∧ st = ⟨mkT [(4, .val (.one (.sh 3 debts.length (flat cN3 debts)))), (10, .val (.one (.ptr 10 ny 0))), (11, .val (.one (.ptr 11 (ny + 1) 0))), (12, one (.int .i64 (size : Int))), (107, .val (.one (.sh 3 pools.length (flat cN3 pools)))), (108, one (.int .i64 pools.length)), (109, one (.int .i64 k))], mkOn (tbl 103 69 ps) [(49, ⟨s, 67, 5, size, eRw (fOwn 103) ps 0⟩), (10, ⟨ny, 30, 2, 1, [.lit (.slice none 0 0), .lit (.slice none 0 0)]⟩), (11, ⟨ny + 1, 30, 2, 1, [.own 49 s size 5, .lit (.slice none 0 0)]⟩)], nx, 0⟩) (pools.length) ⟨0, ps, _, _, by omega, by omega, by rw [hes0]; rfl, hpl, hokB0, rfl⟩ ?_
 rintro n2 st ⟨k, ps, s, nx2, hk, rfl, hL2, hpl, hoB, rfl⟩
 by_cases hlt2 : (k : Int) < (pools.length : Int)
 ·
  refine awR [] [none] ?_
  simp only [(id F_lGrp), (id zS), seval, hI, hlt1, hlt2]
  repeat refine ob ?_
  refine awT ?_
  refine awK ?_
  simp only [(id F_lGrp), (id zS), seval]
  have hltn : k < pools.length := by omega
  have hp3 := hpo _ (List.getElem_mem hltn)
  have hatl := flat_at cN3_len pools k hltn
  rw [List.drop_eq_getElem_cons hltn, List.foldl_cons] at hL2
  generalize pools[k] = p at *
  have hjl : p.a % size < ps.length := by rw [hpl]; exact Nat.mod_lt _ (by omega)
  have hw4 := tmodN p.a size
  refine awR [] [none, none, none, none] ?_
  simp only [(id F_lGrp), (id zS), seval, hI, hlt1, hlt2, hatl, cN3]
  repeat refine ob ?_
  refine awR [] [none, none, none, none, none, none] ?_
  simp only [(id F_lGrp), (id zS), seval, hI, hlt1, hlt2, hw4, cN3]
  repeat refine ob ?_
  obtain ⟨j, hj⟩ : ∃ j, p.a % size = j := ⟨_, rfl⟩
  rw [hj] at hjl ⊢
  obtain ⟨q, hq⟩ : ∃ q, ps[j]? = some q := ⟨_, List.getElem?_eq_getElem hjl⟩
  have hqm : q.1 ∈ ps.map (·.1) := List.mem_map.2 ⟨q, List.mem_of_getElem? hq, rfl⟩
  have hokj := hoB q.1 hqm
  have hge : (ps.map (·.1)).getD (p.a % size) ztEst = q.1 := by rw [hj, List.getD_eq_getElem?_getD, List.getElem?_map, hq]; rfl
  have hate := eRw_at (fOwn 103) ps j q hq
  have hown : fOwn 103 j q = .own (1000 * (j + 1) + 103) q.2 q.1.claims.length 5 := rfl
  rw [hown] at hate
  obtain ⟨b9, hb9⟩ : ∃ b, b = 1000 * (j + 1) + 103 := ⟨_, rfl⟩
  rw [← hb9] at hate
  have htb : tbl 103 69 ps b9 = some ⟨q.2, 69, 5, q.1.claims.length, flat cClaim q.1.claims⟩ := by rw [hb9]; exact tbl_at (by decide) hq
  have hg4 := eRw_get4 (fOwn 103) ps j q hq
  have hfl := eRw_len (fOwn 103) ps 0
  have hset : spl (eRw (fOwn 103) ps 0) (j * 5 + 4) [.sh 1 (q.1.agrs ++ [bgN q.1 p]).length (flat cAgr (q.1.agrs ++ [bgN q.1 p]))] = eRw (fOwn 103) (ps.set j (⟨q.1.cash, q.1.claims, (q.1.agrs ++ [bgN q.1 p])⟩, q.2)) 0 := by rw [spl_one _ _ _ (by rw [eRw_len]; omega)]; exact eRw_set4 (fOwn 103) ps j q _ hq rfl
  have hag : addAg size (ps.map (·.1)) p = if ((q.1.agrs.length : Int) < 2) then (ps.set j (⟨q.1.cash, q.1.claims, (q.1.agrs ++ [bgN q.1 p])⟩, q.2)).map (·.1) else ps.map (·.1) := by unfold addAg; rw [hge, hj, List.map_set]
  by_cases h2 : (q.1.agrs.length : Int) < 2
  ·
   refine awR [] [none, none, none, none, none, none, none, none] ?_
   simp only [(id F_lGrp), (id zS), seval, hI, hlt1, hlt2, h2, hg4]
   repeat refine ob ?_
   refine awT ?_
   have hagr : q.1.claims.length ≤ 30 ∧ q.1.agrs.length ≤ 1000000000000 ∧ ∀ a ∈ q.1.agrs, a.length ≤ 1000000000000 ∧ ∀ t ∈ a, t.length ≤ 1000000000000 := ⟨by have := hokj.1; omega, by have := hokj.2.1; omega, fun a ha => ⟨by have := (hokj.2.2 a ha).1; omega, fun t ht => by have := (hokj.2.2 a ha).2 t ht; omega⟩⟩
   repeat' first|apply awS|apply awB
   refine awp_drawsI [135] (by kernel_rfl) (.cons 0 true (.cons 2 true (.cons 3 true (.cons 4 true (.cons 5 true (.cons 6 true (.cons 7 true (.cons 8 true (.two 1 9 (.cons 9 false (.cons 10 true (.cons 11 true (.cons 12 false .nil)))) (.cons 1 true (.cons 10 true (.cons 11 true (.cons 12 false .nil))))))))))))) (by kernel_rfl) (gs := [none, none, none, none, none, none, none, none, none, none, none, none, none]) (by kernel_rfl) (by simp only [(id zS), seval]; rfl) (by decide) ?_
   simp only [(id F_lGrp), (id zS), seval, hI, hlt1, hlt2, h2, hate, cN3, (id SD), (id SD)]
   repeat refine ob ?_
   refine ⟨?_, ?_⟩
   ·
    repeat refine ob ?_
    refine ⟨_, agree_I q.1 p _ _ b9 q.2 ?_ ?_ (by omega) hp3 hagr.1 hagr.2.1 hagr.2.2, ?_⟩
    ·
     intro x B hB
     simp only [up_apply] at hB
     repeat (split at hB; · omega)
     exact tbl_names hB
    ·
     simp only [up_apply]
     repeat rw [if_neg (by omega)]
     exact htb
    rintro res H' nx' ⟨rfl, rfl⟩
    try unfold Later
    try simp only [(id F_lGrp), (id zS), seval, hI, hlt1, hlt2, h2, hate, cN3, (id SD)]
    repeat refine ob ?_
    refine awR [] [none, none] ?_
    simp only [(id F_lGrp), (id zS), seval, hI, hlt1, hlt2, h2]
    repeat refine ob ?_
    have hnew := addAg_ok size (ps.map (·.1)) p hoB
    rw [hag, if_pos h2] at hL2 hnew
    refine ⟨_, wk_on (tbl 103 69 (ps.set j (⟨q.1.cash, q.1.claims, (q.1.agrs ++ [bgN q.1 p])⟩, q.2))) [4, 10, 11, 12, 107, 108, 109] [49, 10, 11] (tbl_sub (fun i r hr => ?tq66) _), pools.length - (k + 1), by omega, k + 1, (ps.set j (⟨q.1.cash, q.1.claims, (q.1.agrs ++ [bgN q.1 p])⟩, q.2)), s, ?nq66, by omega, rfl, hL2, by rw [List.length_set]; exact hpl, hnew, ?sq66⟩
    case sq66 => (simp only [(id F_lGrp), (id zS), seval, hset]; rfl)
    case tq66 =>
     by_cases hij : i = j
     ·
      subst hij
      rw [List.getElem?_set_self hjl] at hr
      obtain rfl := Option.some.inj hr
      simp only [up_apply]
      repeat rw [if_neg (by omega)]
      exact tbl_at (by decide) hq
     rw [List.getElem?_set_ne (fun h => hij h.symm)] at hr
     simp only [up_apply]
     repeat rw [if_neg (by omega)]
     exact tbl_at (by decide) hr
   repeat refine ob ?_
   refine ⟨_, agree_I q.1 p _ _ b9 q.2 ?_ ?_ (by omega) hp3 hagr.1 hagr.2.1 hagr.2.2, ?_⟩
   ·
    intro x B hB
    simp only [up_apply] at hB
    repeat (split at hB; · omega)
    exact tbl_names hB
   ·
    simp only [up_apply]
    repeat rw [if_neg (by omega)]
    exact htb
   rintro res H' nx' ⟨rfl, rfl⟩
   try unfold Later
   try simp only [(id F_lGrp), (id zS), seval, hI, hlt1, hlt2, h2, hate, cN3, (id SD)]
   repeat refine ob ?_
   refine awR [] [none, none] ?_
   simp only [(id F_lGrp), (id zS), seval, hI, hlt1, hlt2, h2]
   repeat refine ob ?_
   have hnew := addAg_ok size (ps.map (·.1)) p hoB
   rw [hag, if_pos h2] at hL2 hnew
   refine ⟨_, wk_on (tbl 103 69 (ps.set j (⟨q.1.cash, q.1.claims, (q.1.agrs ++ [bgN q.1 p])⟩, q.2))) [4, 10, 11, 12, 107, 108, 109] [49, 10, 11] (tbl_sub (fun i r hr => ?tq68) _), pools.length - (k + 1), by omega, k + 1, (ps.set j (⟨q.1.cash, q.1.claims, (q.1.agrs ++ [bgN q.1 p])⟩, q.2)), s, ?nq68, by omega, rfl, hL2, by rw [List.length_set]; exact hpl, hnew, ?sq68⟩
   case sq68 => (simp only [(id F_lGrp), (id zS), seval, hset]; rfl)
   case tq68 =>
    by_cases hij : i = j
    ·
     subst hij
     rw [List.getElem?_set_self hjl] at hr
     obtain rfl := Option.some.inj hr
     simp only [up_apply]
     repeat rw [if_neg (by omega)]
     exact tbl_at (by decide) hq
    rw [List.getElem?_set_ne (fun h => hij h.symm)] at hr
    simp only [up_apply]
    repeat rw [if_neg (by omega)]
    exact tbl_at (by decide) hr
  refine awR [] [none, none, none, none, none, none, none, none] ?_
  simp only [(id F_lGrp), (id zS), seval, hI, hlt1, hlt2, h2, hg4]
  repeat refine ob ?_
  refine awF ?_
  refine awK ?_
  simp only [(id F_lGrp), (id zS), seval]
  refine awR [] [none, none] ?_
  simp only [(id F_lGrp), (id zS), seval, hI, hlt1, hlt2, h2]
  repeat refine ob ?_
  have hnew := addAg_ok size (ps.map (·.1)) p hoB
  rw [hag, if_neg h2] at hL2 hnew
  refine ⟨_, wk_on (tbl 103 69 ps) [4, 10, 11, 12, 107, 108, 109] [49, 10, 11] (by intro y B h; obtain ⟨q, r, rfl, h2, h3⟩ := tbl_some h; right; simpa [up_apply, show 1000 * (q + 1) + 103 ≠ 49 by omega, show 1000 * (q + 1) + 103 ≠ 16 by omega, show 1000 * (q + 1) + 103 ≠ 11 by omega, show 1000 * (q + 1) + 103 ≠ 10 by omega] using h), pools.length - (k + 1), by omega, k + 1, ps, s, ?nq71, by omega, rfl, hL2, hpl, hnew, ?sq71⟩
  case sq71 => (simp only [(id F_lGrp), (id zS), seval]; rfl)
 refine awR [] [none] ?_
 simp only [(id F_lGrp), (id zS), seval, hI, hlt1, hlt2]
 repeat refine ob ?_
 refine awF ?_
 refine awQ ?_
 simp only [(id F_lGrp), (id zS), seval]
 refine awR [] [none, none, none] ?_
 simp only [(id F_lGrp), (id zS), seval, hI, hlt1, hlt2]
 repeat refine ob ?_
 obtain rfl : k = pools.length := by omega
 rw [List.drop_length, List.foldl_nil] at hL2
 refine awp_on (tbl 103 69 ps) [10, 11, 12, 139, 140, 141] [49, 10, 11] (by intro y B h; obtain ⟨q, r, rfl, h2, h3⟩ := tbl_some h; right; simpa [up_apply, show 1000 * (q + 1) + 103 ≠ 49 by omega, show 1000 * (q + 1) + 103 ≠ 16 by omega, show 1000 * (q + 1) + 103 ≠ 11 by omega, show 1000 * (q + 1) + 103 ≠ 10 by omega] using h) ?_
 simp only [(id F_lGrp), (id zS), seval]
 refine awp_wk (wk_cells 11 [.own 49 s size 5, .sh 4 0 []] (by rfl) (by show (2 : Nat) ≠ 0; decide) (by rfl) (fun κ vs h => ?_)) ?_
 ·
  obtain ⟨v1, vs1, rfl, d1, h⟩ := denVs_cons h
  obtain ⟨v2, vs2, rfl, d2, h⟩ := denVs_cons h
  exact ⟨d1, den_nilsh 4 d2, h⟩
 simp only [(id F_lGrp), (id zS), seval]
 obtain ⟨es, hes⟩ : ∃ es, es = ps.map (·.1) := ⟨_, rfl⟩
 rw [← hes] at hL2 hoB
 have hel : es.length = size := by rw [hes, List.length_map]; exact hpl
 have hg9 : ∀ q ∈ ps, q.1.claims.length ≤ 1000 := fun q hq => by
  have := (hoB q.1 (by rw [hes]; exact List.mem_map.2 ⟨q, hq, rfl⟩)).1
  omega
 refine awp_on (tbl 103 69 ps) [10, 11, 12, 139, 140, 141] [49, 10, 11] (by intro y B h; obtain ⟨q, r, rfl, h2, h3⟩ := tbl_some h; right; simpa [up_apply, show 1000 * (q + 1) + 103 ≠ 49 by omega, show 1000 * (q + 1) + 103 ≠ 16 by omega, show 1000 * (q + 1) + 103 ≠ 11 by omega, show 1000 * (q + 1) + 103 ≠ 10 by omega] using h) ?_
 try unfold Later
 try simp only [(id F_lGrp), (id zS), seval, hI, hlt1, hlt2]
 repeat' first|apply awS|apply awB
 refine awp_loopw (fun n st => ∃ k ds nx, k ≤ debts.length ∧ n = debts.length - k ∧ (debts.drop k).foldl (addDb es) ds = debts.foldl (addDb es) [] ∧ ds.length ≤ 3 ∧ (∀ x ∈ ds, x.legs.length ≤ 4) ∧ st = ⟨mkT [(10, .val (.one (.ptr 10 ny 0))), (11, .val (.one (.ptr 11 (ny + 1) 0))), (12, one (.int .i64 (size : Int))), (139, .val (.one (.sh 3 debts.length (flat cN3 debts)))), (140, one (.int .i64 debts.length)), (141, one (.int .i64 k))], mkOn (tbl 103 69 ps) [(49, ⟨s, 67, 5, size, eRw (fOwn 103) ps 0⟩), (10, ⟨ny, 30, 2, 1, [.lit (.slice none 0 0), .lit (.slice none 0 0)]⟩), (11, ⟨ny + 1, 30, 2, 1, [.own 49 s size 5, .sh 4 ds.length (flat cDebt ds)]⟩)], nx, 0⟩) (debts.length) ⟨0, [], _, by omega, by omega, rfl, by simp, by simp, rfl⟩ ?_
 rintro n3 st ⟨k, ds, nx3, hk, rfl, hL3, hdn, hdl, rfl⟩
 by_cases hlt3 : (k : Int) < (debts.length : Int)
 ·
  refine awR [] [none] ?_
  simp only [(id F_lGrp), (id zS), seval, hI, hlt1, hlt2, hlt3]
  repeat refine ob ?_
  refine awT ?_
  refine awK ?_
  simp only [(id F_lGrp), (id zS), seval]
  have hltn : k < debts.length := by omega
  have hd3 := hdo _ (List.getElem_mem hltn)
  have hatl := flat_at cN3_len debts k hltn
  rw [List.drop_eq_getElem_cons hltn, List.foldl_cons] at hL3
  generalize debts[k] = d at *
  refine awR [] [none, none, none, none] ?_
  simp only [(id F_lGrp), (id zS), seval, hI, hlt1, hlt2, hlt3, hatl, cN3]
  repeat refine ob ?_
  by_cases h3 : (ds.length : Int) < 3
  ·
   refine awR [] [none, none, none, none] ?_
   simp only [(id F_lGrp), (id zS), seval, hI, hlt1, hlt2, hlt3, h3]
   repeat refine ob ?_
   refine awT ?_
   refine awR [151] [none, none, none, none, none] ?_
   simp only [(id F_lGrp), (id zS), seval, hI, hlt1, hlt2, hlt3, h3, cN3, (id SD)]
   repeat refine ob ?_
   refine ⟨_, owe_In size ps hpl ds d _ _ s ?_ ?_ ?_ hd3 (by omega) hg9 (by omega) (fun x hx => by have := hdl x hx; omega), ?_⟩
   ·
    intro x B hB
    simp only [up_apply] at hB
    repeat (split at hB; · omega)
    exact tbl_names hB
   ·
    simp only [up_apply]; rfl
   ·
    intro j q hq
    simp only [up_apply]
    repeat rw [if_neg (by omega)]
    exact tbl_at (by decide) hq
   rintro res H' nx' ⟨rfl, rfl⟩
   rw [← hes]
   try unfold Later
   try simp only [(id F_lGrp), (id zS), seval, hI, hlt1, hlt2, hlt3, h3, cN3, (id SD)]
   repeat refine ob ?_
   refine awR [] [none, none] ?_
   simp only [(id F_lGrp), (id zS), seval, hI, hlt1, hlt2, hlt3, h3]
   repeat refine ob ?_
   have hnew := addDb_ok es ds d hdl hdn
   have hag : addDb es ds d = ds ++ [owN ⟨es, ds⟩ d] := by unfold addDb; rw [if_pos h3]
   rw [hag] at hL3 hnew
   refine ⟨_, wk_on (tbl 103 69 ps) [10, 11, 12, 139, 140, 141] [49, 10, 11] (by intro y B h; obtain ⟨q, r, rfl, h2, h3⟩ := tbl_some h; right; simpa [up_apply, show 1000 * (q + 1) + 103 ≠ 49 by omega, show 1000 * (q + 1) + 103 ≠ 16 by omega, show 1000 * (q + 1) + 103 ≠ 11 by omega, show 1000 * (q + 1) + 103 ≠ 10 by omega] using h), debts.length - (k + 1), by omega, k + 1, (ds ++ [owN ⟨es, ds⟩ d]), ?nq79, by omega, rfl, hL3, hnew.2, hnew.1, ?sq79⟩
   case sq79 => (simp only [(id F_lGrp), (id zS), seval]; rfl)
  refine awR [] [none, none, none, none] ?_
  simp only [(id F_lGrp), (id zS), seval, hI, hlt1, hlt2, hlt3, h3]
  repeat refine ob ?_
  refine awF ?_
  refine awK ?_
  simp only [(id F_lGrp), (id zS), seval]
  refine awR [] [none, none] ?_
  simp only [(id F_lGrp), (id zS), seval, hI, hlt1, hlt2, hlt3, h3]
  repeat refine ob ?_
  have hnew := addDb_ok es ds d hdl hdn
  have hag : addDb es ds d = ds := by unfold addDb; rw [if_neg h3]
  rw [hag] at hL3 hnew
  refine ⟨_, wk_on (tbl 103 69 ps) [10, 11, 12, 139, 140, 141] [49, 10, 11] (by intro y B h; obtain ⟨q, r, rfl, h2, h3⟩ := tbl_some h; right; simpa [up_apply, show 1000 * (q + 1) + 103 ≠ 49 by omega, show 1000 * (q + 1) + 103 ≠ 16 by omega, show 1000 * (q + 1) + 103 ≠ 11 by omega, show 1000 * (q + 1) + 103 ≠ 10 by omega] using h), debts.length - (k + 1), by omega, k + 1, ds, ?nq82, by omega, rfl, hL3, hnew.2, hnew.1, ?sq82⟩
  case sq82 => (simp only [(id F_lGrp), (id zS), seval]; rfl)
 refine awR [] [none] ?_
 simp only [(id F_lGrp), (id zS), seval, hI, hlt1, hlt2, hlt3]
 repeat refine ob ?_
 refine awF ?_
 refine awQ ?_
 simp only [(id F_lGrp), (id zS), seval]
 refine awR [] [none, none] ?_
 simp only [(id F_lGrp), (id zS), seval, hI, hlt1, hlt2, hlt3]
 repeat refine ob ?_
 rw [List.drop_eq_nil_of_le (by omega), List.foldl_nil] at hL3
 refine awp_on (tbl 103 69 ps) [10] [10, 49] (by intro y B h; obtain ⟨q, r, rfl, h2, h3⟩ := tbl_some h; right; simpa [up_apply, show 1000 * (q + 1) + 103 ≠ 49 by omega, show 1000 * (q + 1) + 103 ≠ 16 by omega, show 1000 * (q + 1) + 103 ≠ 11 by omega, show 1000 * (q + 1) + 103 ≠ 10 by omega] using h) ?_
 simp only [(id F_lGrp), (id zS), seval]
 refine awX ?_
 have hE : grpE n cash list pools = es := by unfold grpE; rw [hsz, ← hL1]; exact hL2.symm
 simp only [(id F_lGrp), (id zS), seval]
 subst hpl
 try refine ⟨trivial, ?_⟩
 exact ⟨ps, s, by rw [hE]; exact hes.symm, by simp only [grpN, hE, ← hL3], by simp only [grpN, hE, ← hL3]⟩
end Go.Proofs.YtogeijhepjcbgaaGreatDoor
