/- The builders Pick and Choose; walked by the abstract machine. -/
import Derived.Test.YtokmkopihhnggaaGreatDoorGu4M
import Derived.Test.YtokmkopihhnggaaGreatDoorCg3M
import Derived.Test.YtokmkopihhnggaaGreatDoorSg1M
import Derived.Test.YtokmkopihhnggaaGreatDoorCg4M
set_option linter.unusedVariables false
set_option linter.unusedSimpArgs false
set_option linter.defProp false
set_option linter.unusedSectionVars false
namespace Go.Proofs.YtokmkopihhnggaaGreatDoor
open Go Go.RowKit
def pkN (k n : Nat) : Nat := if n = 0 then 0 else k % n
def chL (bits : Nat) : List GDisp → Nat → List Nat
 | [], _ => []
 | d :: l, i => pkN (bits / 2 ^ (3 * (i % 5)) % 8) d.opts.length :: chL bits l (i + 1)
theorem chL_len (bits : Nat) : ∀ (l : List GDisp) (i : Nat), (chL bits l i).length = l.length
 | [], _ => rfl
 | _ :: l, i => by simp [chL, chL_len bits l]
def cN (n : Nat) : List C := [.lit (.int .i64 (n : Int))]
theorem cN_len (n : Nat) : (cN n).length = 1 := rfl
theorem cN_pure (n : Nat) : pureCs (cN n) = true := rfl
theorem cN_cI : ∀ l : List Nat, flat cN l = flat cI (l.map fun n : Nat => (n : Int))
 | [] => rfl
 | n :: l => by rw [flat_cons, List.map_cons, flat_cons, cN_cI l]; rfl
theorem repl_cN (n : Nat) : repl n [C.lit (.int .i64 0)] = flat cN (List.replicate n 0) := by
 induction n with
 | zero => rfl
 | succ n ih => rw [List.replicate_succ, flat_cons, ← ih]; rfl
theorem shr7u (n j : Nat) (hn : n < 65536) (hj : j ≤ 16) : IntKind.u16.wrap ((BitVec.ofInt IntKind.u16.bits ((n : Int).fdiv (2 ^ min j IntKind.u16.bits)) &&& BitVec.ofInt IntKind.u16.bits 7).toNat : Int) = ((n / 2 ^ j % 8 : Nat) : Int) := by
 have h1 : (BitVec.ofInt 16 ((n : Int).fdiv (2 ^ min j 16)) &&& BitVec.ofInt 16 7).toNat = n / 2 ^ j % 8 := by
  rw [Nat.min_eq_left hj]
  have h1 : (n : Int).fdiv (2 ^ j) = ((n / 2 ^ j : Nat) : Int) := by
   have : (2 : Int) ^ j = ((2 ^ j : Nat) : Int) := by norm_cast
   rw [this, Int.fdiv_eq_ediv_of_nonneg _ (Int.natCast_nonneg _)]; norm_cast
  have h2 : n / 2 ^ j < 65536 := Nat.lt_of_le_of_lt (Nat.div_le_self _ _) hn
  rw [h1, BitVec.ofInt_natCast, BitVec.toNat_and, BitVec.toNat_ofNat, Nat.mod_eq_of_lt (a := n / 2 ^ j) (by omega)]
  exact Nat.and_two_pow_sub_one_eq_mod (n := 3) _
 have h3 : IntKind.u16.bits = 16 := rfl
 rw [h3, h1]
 exact wr16 _ (by omega)
set_option maxRecDepth 100000 in
set_option maxHeartbeats 4000000 in
theorem pick_A (k n : Nat) (hk : k ≤ 1000000) (hn : n ≤ 1000000) : ACall Tryz.prog 13 [.one (.lit (.int .i64 (k : Int))), .one (.lit (.int .i64 (n : Int)))] (one (.int .i64 ((pkN k n : Nat) : Int))) := by
 refine acall_of Tryz.func13 rfl (by decide) (N := 14) rfl (by simp) (R := [.tmp 4]) rfl fun en k0 => ?_
 refine awN ?_
 simp only [(id zS), seval]
 repeat refine ob ?_
 by_cases h0 : (n : Int) ≤ 0
 ·skip
  refine awN ?_
  simp only [(id zS), seval, h0]
  repeat refine ob ?_
  refine awT ?_
  refine awN ?_
  simp only [(id zS), seval, h0]
  repeat refine ob ?_
  refine awX ?_
  simp only [(id zS), seval]
  have hn0 : n = 0 := by omega
  simp [pkN, hn0]
 skip
 refine awN ?_
 simp only [(id zS), seval, h0]
 repeat refine ob ?_
 refine awF ?_
 refine awK ?_
 simp only [(id zS), seval]
 have w1 : ((k : Nat) : Int).tmod n = ((k % n : Nat) : Int) := tmodN k n
 have w2 : ((k % n : Nat) : Int) + n = ((k % n + n : Nat) : Int) := by norm_cast
 have w3 : ((k % n + n : Nat) : Int).tmod n = ((k % n : Nat) : Int) := by rw [tmodN, Nat.add_mod_right, Nat.mod_mod]
 have hkn : k % n < n := Nat.mod_lt _ (by omega)
 refine awN ?_
 simp only [(id zS), seval, h0, w1, w2, w3]
 repeat refine ob ?_
 refine awX ?_
 simp only [(id zS), seval]
 have hn0 : ¬ n = 0 := by omega
 simp [pkN, hn0]
def F86 := And.intro zS (And.intro tf141 (And.intro tf22 (And.intro tf142 (And.intro tf134 (And.intro tf7 (And.intro tf135 (And.intro tf138 (And.intro tf12 (And.intro tf4 (And.intro tf107 (And.intro tf108 (tf13))))))))))))
set_option maxRecDepth 100000 in
set_option maxHeartbeats 4000000 in
theorem choose_A (l : List GDisp) (bits : Nat) (hbits : bits < 65536) (hl : l.length ≤ 1000000 ∧ ∀ d ∈ l, d.opts.length ≤ 1000000) : ACall Tryz.prog 20 [.one (.sh 3 l.length (flat cDisp l)), .one (.lit (.int .u16 bits))] (.val (.one (.sh 1 (chL bits l 0).length (flat cN (chL bits l 0))))) := by
 have hl1 := hl.1
 refine acall_of Tryz.func20 rfl (by decide) (N := 35) rfl (by simp) (R := [.tmp 4]) rfl fun en k0 => ?_
 refine awN ?_
 simp only [(id F86), seval]
 repeat refine ob ?_
 refine awN ?_
 simp only [(id F86), seval, repl_cN]
 repeat refine ob ?_
 refine awN ?_
 simp only [(id F86), seval]
 repeat refine ob ?_
 have hll := hl.1
 refine awp_keep [0, 1, 5, 10, 11, 12] [9] ?_
 try unfold Later
 try simp only [(id F86), seval]
 repeat' first|apply awS|apply awB
 refine awp_loopw (fun n st => ∃ i0 out nx, i0 ≤ l.length ∧ n = l.length - i0 ∧ out ++ chL bits (l.drop i0) i0 = [] ++ chL bits l 0 ∧ out.length = i0 ∧ st = ⟨mkT [(0, .val (.one (.sh 3 l.length (flat cDisp l)))), (1, one (.int .u16 (bits : Int))), (5, .val (.one (.own 9 0 l.length 1))), (10, .val (.one (.sh 3 l.length (flat cDisp l)))), (11, one (.int .i64 l.length)), (12, one (.int .i64 i0))], mkH [(9, ⟨0, 3, 1, l.length, flat cN (out ++ List.replicate (l.length - i0) 0)⟩)], nx, 0⟩) (l.length) ⟨0, [], _, by omega, by omega, by rfl, (by first | omega | assumption | rfl | simp | (simp; omega)), rfl⟩ ?_
 rintro n0 st ⟨i0, out, nx0, hk0, rfl, hL0, hV0_1, rfl⟩
 by_cases hlt0 : i0 < l.length
 ·skip
  have hI0 : (i0 : Int) < (l.length : Int) := by omega
  have hat0 := flat_at cDisp_len l i0 hlt0
  try rw [Nat.mul_one] at hat0
  rw [List.drop_eq_getElem_cons hlt0] at hL0
  have hdl := hl.2 _ (List.getElem_mem hlt0)
  generalize l[i0] = d at *
  simp only [chL] at hL0
  refine awN ?_
  simp only [(id F86), seval, hI0, hat0]
  repeat refine ob ?_
  refine awT ?_
  refine awK ?_
  simp only [(id F86), seval]
  refine awN ?_
  simp only [(id F86), seval, hI0, hat0]
  repeat refine ob ?_
  obtain ⟨m, hm⟩ : ∃ m, m = 3 * (i0 % 5) := ⟨_, rfl⟩
  have w1 : ((i0 : Nat) : Int).tmod 5 = ((i0 % 5 : Nat) : Int) := tmodN i0 5
  have w2 : (3 : Int) * ((i0 % 5 : Nat) : Int) = ((m : Nat) : Int) := by rw [hm]; norm_cast
  have w3 : IntKind.u64.wrap (m : Int) = ((m : Nat) : Int) := wr64 m (by omega)
  have w4 := shr7u bits m hbits (by omega)
  obtain ⟨b, hb⟩ : ∃ b, b = bits / 2 ^ m % 8 := ⟨_, rfl⟩
  rw [← hb] at w4
  have w5 : IntKind.i64.wrap (b : Int) = ((b : Nat) : Int) := wri b (by omega)
  obtain ⟨v, hv⟩ : ∃ v, v = pkN b d.opts.length := ⟨_, rfl⟩
  have hpk := pick_A b d.opts.length (by omega) hdl
  rw [← hv] at hpk
  have hXl : (out ++ List.replicate (l.length - i0) 0).length = l.length := by simp; omega
  have hset := flat_set cN_len (out ++ List.replicate (l.length - i0) 0) i0 v (by omega)
  rw [Nat.mul_one] at hset
  have hXs : (out ++ List.replicate (l.length - i0) 0).set i0 v = out ++ [v] ++ List.replicate (l.length - (i0 + 1)) 0 := by
   rw [List.set_append_right _ _ (by omega), hV0_1, Nat.sub_self, show l.length - i0 = (l.length - (i0 + 1)) + 1 by omega, List.replicate_succ, List.set_cons_zero, List.append_assoc]
   try rfl
  rw [hXs] at hset
  simp only [cN] at hset
  have hfl := flat_length cN_len (out ++ List.replicate (l.length - i0) 0)
  rw [hXl, Nat.mul_one] at hfl
  refine awN ?_
  simp only [(id F86), seval, hI0, hat0, hat0, cDisp, w1, w2, w3, w4, w5, hset, hfl]
  repeat refine ob ?_
  refine ⟨_, hpk, rfl, ?_⟩
  try unfold Later
  try simp only [(id F86), seval, hI0, hat0, hat0, cDisp, w1, w2, w3, w4, w5, hset, hfl]
  repeat refine ob ?_
  refine awN ?_
  simp only [(id F86), seval, hI0, hat0]
  repeat refine ob ?_
  repeat refine ob ?_
  refine ⟨_, wk_keep [0, 1, 5, 10, 11, 12] [9], l.length - (i0 + 1), by omega, i0 + 1, (out ++ [v]), ?a7_nx, by omega, rfl, ?i7_0, ?i7_1, ?st7⟩
  case st7 => (simp only [(id F86), seval, hI0, hat0]; first | rfl | (simp [hI0, hat0, Nat.add_mul]; done))
  case i7_0 => (rw [hv, hb, hm]; simpa using hL0)
  case i7_1 => (first | omega | assumption | (simp; omega) | (simp_all; done))
 skip
 obtain rfl : i0 = l.length := by omega
 have hI0 : ¬ (l.length : Int) < (l.length : Int) := by omega
 rw [List.drop_length] at hL0
 simp only [chL] at hL0
 have hout : out = chL bits l 0 := by simpa using hL0
 refine awN ?_
 simp only [(id F86), seval, hI0]
 repeat refine ob ?_
 refine awF ?_
 refine awQ ?_
 simp only [(id F86), seval]
 refine awN ?_
 simp only [(id F86), seval, hI0]
 repeat refine ob ?_
 refine awX ?_
 simp only [(id F86), seval, flat_pure cN_pure]
 simp [hout, chL_len]
def prE (Q : GRat → Prop) (e : GEst) : Prop := Q e.cash ∧ (∀ c ∈ e.claims, Q c.amount) ∧ ∀ a ∈ e.agrs, ∀ t ∈ a, ∀ p ∈ t, Q p.cap
section
variable {Q : GRat → Prop} (h0 : Q gZ) (h1 : ∀ x, Q (enc (qAmt x))) (h2 : ∀ n : Nat, n < 9 → Q (enc (((n : Nat) : Int) : Rat)))
include h0 h2
theorem bgN_pr (e : GEst) (p : N3) : ∀ t ∈ bgN e p, ∀ q ∈ t, Q q.cap := by
 have k1 : tOK (fun q => Q q.cap) (bgT p (bgL e.agrs p e.claims 0 ⟨[], [], []⟩)) := by
  have k2 := bgL_tOK (Q := fun q => Q q.cap) e.agrs p e.claims.length (fun i _ _ => by
   unfold bgP
   split
   ·exact h2 _ (Nat.mod_lt _ (by decide))
   exact h0) e.claims 0 ⟨[], [], []⟩ (by omega) ⟨by simp, by simp, by simp⟩
  unfold bgT
  split
  ·exact put_tOK _ _ _ k2 (h2 _ (Nat.lt_of_lt_of_le (Nat.mod_lt _ (by decide)) (by decide)))
  exact k2
 intro t ht q hq
 simp only [bgN, List.mem_cons, List.not_mem_nil, or_false] at ht
 rcases ht with rfl | rfl | rfl
 ·exact k1.1 q hq
 ·exact k1.2.1 q hq
 exact k1.2.2 q hq
include h1
theorem grpE_pr (n : Nat) (cash : List Nat) (list : List N4) (pools : List N3) : ∀ e ∈ grpE n cash list pools, prE Q e := by
 unfold grpE
 refine foldl_inv (Pr := fun es : List GEst => ∀ e ∈ es, prE Q e) _ (fun es p h => ?_) _ _ (foldl_inv (Pr := fun es : List GEst => ∀ e ∈ es, prE Q e) _ (fun es x h => ?_) _ _ fun e he => ?_)
 ·unfold addAg
  split
  ·refine set_all h _ _ fun hj => ?_
   rw [getD_at _ _ hj]
   obtain ⟨k1, k2, k3⟩ := h _ (List.getElem_mem hj)
   refine ⟨k1, k2, fun a ha => ?_⟩
   rcases List.mem_append.1 ha with ha | ha
   ·exact k3 a ha
   obtain rfl := List.mem_singleton.1 ha
   exact bgN_pr h0 h2 _ p
  exact h
 ·unfold addClaim
  split
  ·exact h
  refine set_all h _ _ fun hj => ?_
  rw [getD_at _ _ hj]
  obtain ⟨k1, k2, k3⟩ := h _ (List.getElem_mem hj)
  refine ⟨k1, fun c hc => ?_, k3⟩
  rcases List.mem_append.1 hc with hc | hc
  ·exact k2 c hc
  obtain rfl := List.mem_singleton.1 hc
  exact h1 x.d
 obtain ⟨i, _, rfl⟩ := List.mem_map.1 he
 refine ⟨?_, by simp [mkEst], by simp [mkEst]⟩
 unfold mkEst
 dsimp only
 split
 ·exact h1 _
 exact h0
theorem grpD_pr (n : Nat) (cash : List Nat) (list : List N4) (pools debts : List N3) : ∀ d ∈ (grpN n cash list pools debts).debts, Q d.whole := by
 unfold grpN
 dsimp only
 refine foldl_inv (Pr := fun ds : List GDebt => ∀ d ∈ ds, Q d.whole) _ (fun ds p h => ?_) _ _ (by simp)
 unfold addDb
 split
 ·intro d hd
  rcases List.mem_append.1 hd with hd | hd
  ·exact h d hd
  obtain rfl := List.mem_singleton.1 hd
  exact h1 p.c
 exact h
end
def xE (e : GEst) : Prop := okB e ∧ prE (sB 1) e
def xG (g : GGrp) : Prop := g.ests.length ≤ 8 ∧ (∀ e ∈ g.ests, xE e) ∧ g.debts.length ≤ 3 ∧ ∀ d ∈ g.debts, sB 1 d.whole ∧ d.legs.length ≤ 4
theorem sB1_gZ : sB 1 gZ := ⟨by decide, by decide⟩
theorem sB_nine (n : Nat) (h : n < 9) : sB 1 (enc (((n : Nat) : Int) : Rat)) := by
 refine sB_enc ⟨?_, ?_⟩
 ·have : ((((n : Nat) : Int) : Rat)).num = (n : Int) := rfl
  rw [this]
  simp
  omega
 have : ((((n : Nat) : Int) : Rat)).den = 1 := rfl
 rw [this]; decide
theorem grpN_x (n : Nat) (cash : List Nat) (list : List N4) (pools debts : List N3) : xG (grpN n cash list pools debts) := by
 obtain ⟨_, k2, k3⟩ := grpN_ok n cash list pools debts
 have k4 := grpE_len n cash list pools
 have k5 := grpE_okB n cash list pools
 have k6 := grpE_pr (Q := sB 1) sB1_gZ (fun x => sB_enc (amt_qB x)) sB_nine n cash list pools
 have k7 := grpD_pr (Q := sB 1) sB1_gZ (fun x => sB_enc (amt_qB x)) sB_nine n cash list pools debts
 exact ⟨by show (grpE n cash list pools).length ≤ 8; omega, fun e he => ⟨k5 e he, k6 e he⟩, k2, fun d hd => ⟨k7 d hd, k3 d hd⟩⟩
theorem sB_cq {r : GRat} (h : sB 1 r) : cqR r := ⟨Nat.le_trans h.1 (by decide), Nat.le_trans h.2 (by decide)⟩
theorem sB_ok {r : GRat} (h : sB 1 r) : ratOK r := ⟨Nat.le_trans h.1 (by decide), Nat.le_trans h.2 (by decide)⟩
theorem xG_cq {g : GGrp} (h : xG g) : cqG g := by
 obtain ⟨h1, h2, h3, h4⟩ := h
 refine ⟨by omega, fun e he => ?_, by omega, fun d hd => ⟨sB_cq (h4 d hd).1, by have := (h4 d hd).2; omega⟩⟩
 obtain ⟨⟨a1, a2, a3⟩, b1, b2, b3⟩ := h2 e he
 exact ⟨sB_cq b1, by omega, fun c hc => sB_cq (b2 c hc), by omega, fun a ha => ⟨by have := (a3 a ha).1; omega, fun t ht => ⟨by have := (a3 a ha).2 t ht; omega, fun p hp => sB_cq (b3 a ha t ht p hp)⟩⟩⟩
theorem xG_ok {g : GGrp} (h : xG g) : grpOK g := by
 obtain ⟨h1, h2, h3, h4⟩ := h
 refine ⟨fun e he => ?_, fun d hd => sB_ok (h4 d hd).1⟩
 obtain ⟨⟨a1, a2, a3⟩, b1, b2, b3⟩ := h2 e he
 exact ⟨sB_ok b1, fun c hc => sB_ok (b2 c hc), by omega, fun a ha => ⟨fun t ht => by have := (a3 a ha).2 t ht; omega, fun p hp => by
  obtain ⟨t, ht, hp⟩ := List.mem_flatten.1 hp
  exact sB_ok (b3 a ha t ht p hp)⟩⟩
theorem xG_sg {g : GGrp} (h : xG g) : sgG g := by
 obtain ⟨h1, h2, h3, h4⟩ := h
 refine ⟨by omega, fun e he => ?_, by omega, fun d hd => by have := (h4 d hd).2; omega⟩
 obtain ⟨⟨a1, a2, a3⟩, _⟩ := h2 e he
 exact ⟨by omega, by omega, fun a ha => ⟨by have := (a3 a ha).1; omega, fun t ht => by have := (a3 a ha).2 t ht; omega⟩⟩
theorem opG_sB {o : GOpt} (h : opG o) : sB 1 o.amount := by
 obtain ⟨⟨q, hq, hb, _⟩, _⟩ := h
 rw [hq]; exact sB_enc hb
theorem cqD_of {l : List GDisp} (hl : l.length ≤ 1000000) (h : ∀ d ∈ l, okD d) : cqD l := by
 refine ⟨⟨hl, fun d hd => ⟨by have := (h d hd).2.1; omega, fun x hx => sB_ok (opG_sB ((h d hd).2.2 x hx))⟩⟩, fun d hd x hx => sB_cq (opG_sB ((h d hd).2.2 x hx))⟩
theorem sgE_cl {e : GEst} (h : sgE e) : sgE (clE e) := by
 obtain ⟨h1, h2, h3⟩ := h
 refine ⟨by simpa [clE] using h1, by simpa [clE] using h2, fun a ha => ?_⟩
 obtain ⟨b, hb, rfl⟩ := List.mem_map.1 ha
 refine ⟨by simpa [clA] using (h3 b hb).1, fun t ht => ?_⟩
 obtain ⟨u, hu, rfl⟩ := List.mem_map.1 ht
 simpa [clT] using (h3 b hb).2 u hu
theorem sgE_st {e : GEst} (h : sgE e) (k : Nat) (o : GOpt) : sgE (stC e k o) := ⟨by simpa [stC] using h.1, h.2.1, h.2.2⟩
theorem sg_st {es : List GEst} (h : es.length ≤ 1000000000000 ∧ ∀ e ∈ es, sgE e) (i k : Nat) (o : GOpt) : (stE es i k o).length ≤ 1000000000000 ∧ ∀ e ∈ stE es i k o, sgE e :=
 ⟨by rw [stE_len]; exact h.1, set_all h.2 _ _ fun hi => by rw [getD_at es i hi]; exact sgE_st (h.2 _ (List.getElem_mem hi)) k o⟩
theorem sg_ap (c : List Int) : ∀ (l : List GDisp) (i : Nat) (es : List GEst), es.length ≤ 1000000000000 ∧ (∀ e ∈ es, sgE e) → (apF c l i es).length ≤ 1000000000000 ∧ ∀ e ∈ apF c l i es, sgE e
 | [], _, _, h => h
 | d :: l, i, es, h => sg_ap c l (i + 1) _ (sg_st h _ _ _)
theorem sg_cl {g : GGrp} (h : sgG g) : ((clG g).ests.length ≤ 1000000000000 ∧ ∀ e ∈ (clG g).ests, sgE e) ∧ (clG g).debts.length ≤ 1000000000000 ∧ ∀ d ∈ (clG g).debts, d.legs.length ≤ 1000000000000 := by
 obtain ⟨h1, h2, h3, h4⟩ := h
 refine ⟨⟨by simpa [clG] using h1, fun e he => ?_⟩, by simpa [clG] using h3, fun d hd => ?_⟩
 ·obtain ⟨x, hx, rfl⟩ := List.mem_map.1 he
  exact sgE_cl (h2 x hx)
 obtain ⟨x, hx, rfl⟩ := List.mem_map.1 hd
 exact h4 x hx
theorem sgG_nil : sgG ⟨[], []⟩ := ⟨by simp, by simp, by simp, by simp⟩
theorem apS_sg {g : GGrp} (h : sgG g) (dc : Int) (l : List GDisp) (c : List Int) : sgG (apS dc g l c).1 := by
 obtain ⟨h1, h2, h3⟩ := sg_cl h
 unfold apS
 split
 ·split
  ·split
   ·obtain ⟨k1, k2⟩ := sg_ap c l 0 _ h1
    exact ⟨k1, k2, h2, h3⟩
   exact sgG_nil
  exact sgG_nil
 exact sgG_nil
end Go.Proofs.YtokmkopihhnggaaGreatDoor
