/- The builders Pick and Choose; walked by the abstract machine. -/
import Derived.Test.YtokmkopihhnggaaGu3M
import Derived.Test.YtokmkopihhnggaaPl2M
set_option linter.unusedVariables false
set_option linter.unusedSimpArgs false
set_option linter.defProp false
set_option linter.unnecessarySimpa false
section
/- The builders Pick and Choose; walked by the abstract machine. -/
namespace Go.Proofs.Ytokmkopihhnggaa
open Go Go.RowKit
def pkN (k n : Nat) : Nat := if n = 0 then 0 else k % n
def chL (bits : Nat) : List GDisp → Nat → List Nat
  | [], _ => []
  | d :: l, i => pkN (bits / 2 ^ (3 * (i % 5)) % 8) d.opts.length :: chL bits l (i + 1)
theorem chL_len (bits : Nat) : ∀ (l : List GDisp) (i : Nat), (chL bits l i).length = l.length
  | [], _ => rfl
  | _ :: l, i => by simp [chL, chL_len bits l]
theorem chL_ok (bits : Nat) : ∀ (l : List GDisp) (i : Nat), (∀ d ∈ l, 1 ≤ d.opts.length) → okCh l (chL bits l i)
  | [], _, _ => trivial
  | d :: l, i, h => by
    refine ⟨?_, chL_ok bits l (i + 1) fun x hx => h x (List.mem_cons_of_mem _ hx)⟩
    have h1 := h d (by simp)
    unfold pkN
    rw [if_neg (by omega)]
    exact Nat.mod_lt _ (by omega)
def cN (n : Nat) : List C := [.lit (.int .i64 (n : Int))]
theorem cN_len (n : Nat) : (cN n).length = 1 := rfl
theorem cN_pure (n : Nat) : pureCs (cN n) = true := rfl
theorem cN_cI : ∀ l : List Nat, flat cN l = flat cI (l.map fun n : Nat => (n : Int))
  | [] => rfl
  | n :: l => by rw [flat_cons, List.map_cons, flat_cons, cN_cI l]; rfl
theorem repl_cN (n : Nat) : repl n [C.lit (.int .i64 0)] = flat cN (List.replicate n 0) := by
  induction n with
  | zero => rfl
  | succ n ih => rw [List.replicate_succ, flat_cons, ← ih]; rfl
theorem shr7u (n j : Nat) (hn : n < 65536) (hj : j ≤ 16) : IntKind.u16.wrap ((BitVec.ofInt IntKind.u16.bits ((n : Int).fdiv (2 ^ min j IntKind.u16.bits)) &&& BitVec.ofInt IntKind.u16.bits 7).toNat : Int) = ((n / 2 ^ j % 8 : Nat) : Int) := by
  have h1 : (BitVec.ofInt 16 ((n : Int).fdiv (2 ^ min j 16)) &&& BitVec.ofInt 16 7).toNat = n / 2 ^ j % 8 := by
    rw [Nat.min_eq_left hj]
    have h1 : (n : Int).fdiv (2 ^ j) = ((n / 2 ^ j : Nat) : Int) := by
      have : (2 : Int) ^ j = ((2 ^ j : Nat) : Int) := by norm_cast
      rw [this, Int.fdiv_eq_ediv_of_nonneg _ (Int.natCast_nonneg _)]; norm_cast
    have h2 : n / 2 ^ j < 65536 := Nat.lt_of_le_of_lt (Nat.div_le_self _ _) hn
    rw [h1, BitVec.ofInt_natCast, BitVec.toNat_and, BitVec.toNat_ofNat, Nat.mod_eq_of_lt (a := n / 2 ^ j) (by omega)]
    exact Nat.and_two_pow_sub_one_eq_mod (n := 3) _
  have h3 : IntKind.u16.bits = 16 := rfl
  rw [h3, h1]
  exact wr16 _ (by omega)
set_option maxRecDepth 100000 in
set_option maxHeartbeats 4000000 in
theorem pick_A (k n : Nat) (hk : k ≤ 1000000) (hn : n ≤ 1000000) : ACall Try.prog 6 [.one (.lit (.int .i64 (k : Int))), .one (.lit (.int .i64 (n : Int)))] (one (.int .i64 ((pkN k n : Nat) : Int))) := by
 refine acall_of Try.func6 rfl (by decide) (N := 14) rfl (by simp) (R := [.tmp 4]) rfl fun en k0 => ?_
 refine awR [] [none] ?_
 simp only [(id zS), seval]
 repeat refine ob ?_
 by_cases h0 : (n : Int) ≤ 0
 ·
  refine awR [] [none, none] ?_
  simp only [(id zS), seval, h0]
  repeat refine ob ?_
  refine awT ?_
  refine awR [] [none] ?_
  simp only [(id zS), seval, h0]
  repeat refine ob ?_
  refine awX ?_
  simp only [(id zS), seval]
  have hn0 : n = 0 := by omega
  simp [pkN, hn0]
 refine awR [] [none, none] ?_
 simp only [(id zS), seval, h0]
 repeat refine ob ?_
 refine awF ?_
 refine awK ?_
 simp only [(id zS), seval]
 have w1 : ((k : Nat) : Int).tmod n = ((k % n : Nat) : Int) := tmodN k n
 have w2 : ((k % n : Nat) : Int) + n = ((k % n + n : Nat) : Int) := by norm_cast
 have w3 : ((k % n + n : Nat) : Int).tmod n = ((k % n : Nat) : Int) := by rw [tmodN, Nat.add_mod_right, Nat.mod_mod]
 have hkn : k % n < n := Nat.mod_lt _ (by omega)
 refine awR [] [none, none, none, none, none, none, none, none] ?_
 simp only [(id zS), seval, h0, w1, w2, w3]
 repeat refine ob ?_
 refine awX ?_
 simp only [(id zS), seval]
 have hn0 : ¬ n = 0 := by omega
 simp [pkN, hn0]
def F_lCh := And.intro zS (And.intro tf0 (And.intro tf92 (And.intro tf1 (And.intro tf2 (And.intro tf93 (And.intro tf3 (And.intro tf4 (And.intro tf21 (And.intro tf51 (And.intro tf52 (And.intro tf53 (tf94))))))))))))
set_option maxRecDepth 100000 in
set_option maxHeartbeats 4000000 in
theorem choose_A (l : List GDisp) (bits : Nat) (hbits : bits < 65536) (hl : l.length ≤ 1000000 ∧ ∀ d ∈ l, d.opts.length ≤ 1000000) : ACall Try.prog 10 [.one (.sh 3 l.length (flat cDisp l)), .one (.lit (.int .u16 bits))] (.val (.one (.sh 1 (chL bits l 0).length (flat cN (chL bits l 0))))) := by
 have hl1 := hl.1
 refine acall_of Try.func10 rfl (by decide) (N := 35) rfl (by simp) (R := [.tmp 4]) rfl fun en k0 => ?_
 refine awR [] [none] ?_
 simp only [(id F_lCh), seval]
 repeat refine ob ?_
 refine awR [] [none, none, none, none] ?_
 simp only [(id F_lCh), seval, repl_cN]
 repeat refine ob ?_
 refine awR [] [none, none, none] ?_
 simp only [(id F_lCh), seval]
 repeat refine ob ?_
 have hll := hl.1
 refine awp_keep [0, 1, 5, 10, 11, 12] [9] ?_
 try unfold Later
 try simp only [(id F_lCh), seval]
 repeat' first|apply awS|apply awB
 refine awp_loopw (fun n st => ∃ i0 out nx, i0 ≤ l.length ∧ n = l.length - i0 ∧ out ++ chL bits (l.drop i0) i0 = [] ++ chL bits l 0 ∧ out.length = i0 ∧ st = ⟨mkT [(0, .val (.one (.sh 3 l.length (flat cDisp l)))), (1, one (.int .u16 (bits : Int))), (5, .val (.one (.own 9 0 l.length 1))), (10, .val (.one (.sh 3 l.length (flat cDisp l)))), (11, one (.int .i64 l.length)), (12, one (.int .i64 i0))], mkH [(9, ⟨0, 3, 1, l.length, flat cN (out ++ List.replicate (l.length - i0) 0)⟩)], nx, 0⟩) (l.length) ⟨0, [], _, by omega, by omega, by rfl, (by first | omega | assumption | rfl | simp | (simp; omega)), rfl⟩ ?_
 rintro n0 st ⟨i0, out, nx0, hk0, rfl, hL0, hV0_1, rfl⟩
 by_cases hlt0 : i0 < l.length
 ·
  have hI0 : (i0 : Int) < (l.length : Int) := by omega
  have hat0 := flat_at cDisp_len l i0 hlt0
  try rw [Nat.mul_one] at hat0
  rw [List.drop_eq_getElem_cons hlt0] at hL0
  have hdl := hl.2 _ (List.getElem_mem hlt0)
  generalize l[i0] = d at *
  simp only [chL] at hL0
  refine awR [] [none] ?_
  simp only [(id F_lCh), seval, hI0, hat0]
  repeat refine ob ?_
  refine awT ?_
  refine awK ?_
  simp only [(id F_lCh), seval]
  refine awR [] [none, none] ?_
  simp only [(id F_lCh), seval, hI0, hat0]
  repeat refine ob ?_
  obtain ⟨m, hm⟩ : ∃ m, m = 3 * (i0 % 5) := ⟨_, rfl⟩
  have w1 : ((i0 : Nat) : Int).tmod 5 = ((i0 % 5 : Nat) : Int) := tmodN i0 5
  have w2 : (3 : Int) * ((i0 % 5 : Nat) : Int) = ((m : Nat) : Int) := by rw [hm]; norm_cast
  have w3 : IntKind.u64.wrap (m : Int) = ((m : Nat) : Int) := wr64 m (by omega)
  have w4 := shr7u bits m hbits (by omega)
  obtain ⟨b, hb⟩ : ∃ b, b = bits / 2 ^ m % 8 := ⟨_, rfl⟩
  rw [← hb] at w4
  have w5 : IntKind.i64.wrap (b : Int) = ((b : Nat) : Int) := wri b (by omega)
  obtain ⟨v, hv⟩ : ∃ v, v = pkN b d.opts.length := ⟨_, rfl⟩
  have hpk := pick_A b d.opts.length (by omega) hdl
  rw [← hv] at hpk
  have hXl : (out ++ List.replicate (l.length - i0) 0).length = l.length := by simp; omega
  have hset := flat_set cN_len (out ++ List.replicate (l.length - i0) 0) i0 v (by omega)
  rw [Nat.mul_one] at hset
  have hXs : (out ++ List.replicate (l.length - i0) 0).set i0 v = out ++ [v] ++ List.replicate (l.length - (i0 + 1)) 0 := by
   rw [List.set_append_right _ _ (by omega), hV0_1, Nat.sub_self, show l.length - i0 = (l.length - (i0 + 1)) + 1 by omega, List.replicate_succ, List.set_cons_zero, List.append_assoc]
   try rfl
  rw [hXs] at hset
  simp only [cN] at hset
  have hfl := flat_length cN_len (out ++ List.replicate (l.length - i0) 0)
  rw [hXl, Nat.mul_one] at hfl
  refine awR [] [none, none, none, none, none, none, none, none, none, none, none, none, none, none, none, none, none, none, none] ?_
  simp only [(id F_lCh), seval, hI0, hat0, hat0, cDisp, w1, w2, w3, w4, w5, hset, hfl]
  repeat refine ob ?_
  refine ⟨_, hpk, rfl, ?_⟩
  try unfold Later
  try simp only [(id F_lCh), seval, hI0, hat0, hat0, cDisp, w1, w2, w3, w4, w5, hset, hfl]
  repeat refine ob ?_
  refine awR [] [none, none] ?_
  simp only [(id F_lCh), seval, hI0, hat0]
  repeat refine ob ?_
  repeat refine ob ?_
  refine ⟨_, wk_keep [0, 1, 5, 10, 11, 12] [9], l.length - (i0 + 1), by omega, i0 + 1, (out ++ [v]), ?a7_nx, by omega, rfl, ?i7_0, ?i7_1, ?st7⟩
  case st7 => (simp only [(id F_lCh), seval, hI0, hat0]; first | rfl | (simp [hI0, hat0, Nat.add_mul]; done))
  case i7_0 => (rw [hv, hb, hm]; simpa using hL0)
  case i7_1 => (first | omega | assumption | (simp; omega) | (simp_all; done))
 obtain rfl : i0 = l.length := by omega
 have hI0 : ¬ (l.length : Int) < (l.length : Int) := by omega
 rw [List.drop_length] at hL0
 simp only [chL] at hL0
 have hout : out = chL bits l 0 := by simpa using hL0
 refine awR [] [none] ?_
 simp only [(id F_lCh), seval, hI0]
 repeat refine ob ?_
 refine awF ?_
 refine awQ ?_
 simp only [(id F_lCh), seval]
 refine awR [] [none, none] ?_
 simp only [(id F_lCh), seval, hI0]
 repeat refine ob ?_
 refine awX ?_
 simp only [(id F_lCh), seval, flat_pure cN_pure]
 simp [hout, chL_len]
end Go.Proofs.Ytokmkopihhnggaa
end
section
/- dispute.chooses, Choice and Index at outcomes that exist; walked by the abstract machine. -/
namespace Go.Proofs.Ytokmkopihhnggaa
open Go Go.RowKit
def few6 (l : List GDisp) : Prop := l.length ≤ 6 ∧ ∀ d ∈ l, 1 ≤ d.opts.length ∧ d.opts.length ≤ 3
theorem few6_drop {l : List GDisp} (h : few6 l) (j : Nat) : prD (l.drop j) ≤ 729 := by
  have h1 := prD_le (l.drop j) fun d hd => (h.2 d (List.mem_of_mem_drop hd)).2
  have h2 : (l.drop j).length ≤ 6 := by rw [List.length_drop]; have := h.1; omega
  exact Nat.le_trans h1 (Nat.pow_le_pow_right (by decide) h2)
def F_dChN := And.intro zS (And.intro tf0 (And.intro tf92 (And.intro tf1 (And.intro tf2 (And.intro tf93 (And.intro tf3 (And.intro tf4 (tf21))))))))
set_option maxRecDepth 100000 in
set_option maxHeartbeats 4000000 in
theorem chooseN_A (l : List GDisp) (c : List Nat) (hc : okCh l c) (hl : l.length ≤ 1000000) : ACall Try.prog 18 [.one (.sh 3 l.length (flat cDisp l)), .one (.sh 1 c.length (flat cN c))] (one (.bool true)) := by
 have hcl := okCh_len hc
 rw [hcl]
 refine acall_of Try.func18 rfl (by decide) (N := 27) rfl (by simp) (R := [.tmp 4]) rfl fun en k0 => ?_
 refine awR [] [none] ?_
 simp only [(id F_dChN), seval]
 repeat refine ob ?_
 refine awR [] [none, none, none] ?_
 simp only [(id F_dChN), seval]
 repeat refine ob ?_
 refine awp_keep [0, 1, 4, 7, 8, 9] [] ?_
 try unfold Later
 try simp only [(id F_dChN), seval]
 repeat' first|apply awS|apply awB
 refine awp_loopw (fun n st => ∃ i0 nx, i0 ≤ l.length ∧ n = l.length - i0 ∧ st = ⟨mkT [(0, .val (.one (.sh 3 l.length (flat cDisp l)))), (1, .val (.one (.sh 1 l.length (flat cN c)))), (4, .val (.one (.lit (.bool false)))), (7, .val (.one (.sh 1 l.length (flat cN c)))), (8, one (.int .i64 l.length)), (9, one (.int .i64 i0))], mkH [], nx, 0⟩) (l.length) ⟨0, _, by omega, by omega, rfl⟩ ?_
 rintro n0 st ⟨i0, nx0, hk0, rfl, rfl⟩
 by_cases hlt0 : i0 < l.length
 ·
  have hI0 : (i0 : Int) < (l.length : Int) := by omega
  have hat0 := flat_at cDisp_len l i0 hlt0
  try rw [Nat.mul_one] at hat0
  have hc0 : i0 < c.length := by omega
  have hatc := flat_at cN_len c i0 hc0
  rw [Nat.mul_one] at hatc
  have hx9 := okCh_at hc i0 hlt0 hc0
  generalize c[i0] = x at *
  have n1 : ¬ ((x : Nat) : Int) < 0 := by omega
  have n2 : ¬ ((l[i0].opts.length : Int) ≤ ((x : Nat) : Int)) := by omega
  generalize l[i0] = d at *
  refine awR [] [none] ?_
  simp only [(id F_dChN), seval, hI0, hat0]
  repeat refine ob ?_
  refine awT ?_
  refine awK ?_
  simp only [(id F_dChN), seval]
  refine awR [] [none, none, none, none, none] ?_
  simp only [(id F_dChN), seval, hI0, hat0, hatc, cN]
  repeat refine ob ?_
  refine awR [] [none, none, none, some (16, false), some (16, false), some (16, false), some (16, false), some (16, false), some (16, false), some (16, false), some (16, false), none] ?_
  simp only [(id F_dChN), seval, hI0, hat0, cDisp, hat0, n1, n2]
  repeat refine ob ?_
  refine awF ?_
  refine awK ?_
  simp only [(id F_dChN), seval]
  refine awR [] [none, none] ?_
  simp only [(id F_dChN), seval, hI0, hat0]
  repeat refine ob ?_
  repeat refine ob ?_
  refine ⟨_, wk_keep [0, 1, 4, 7, 8, 9] [], l.length - (i0 + 1), by omega, i0 + 1, ?a6_nx, by omega, rfl, ?st6⟩
  case st6 => (simp only [(id F_dChN), seval, hI0, hat0]; first | rfl | (simp [hI0, hat0, Nat.add_mul]; done))
 obtain rfl : i0 = l.length := by omega
 have hI0 : ¬ (l.length : Int) < (l.length : Int) := by omega
 refine awR [] [none] ?_
 simp only [(id F_dChN), seval, hI0]
 repeat refine ob ?_
 refine awF ?_
 refine awQ ?_
 simp only [(id F_dChN), seval]
 refine awR [] [none] ?_
 simp only [(id F_dChN), seval, hI0]
 repeat refine ob ?_
 refine awX ?_
 (first | (simp only [(id F_dChN), seval, hI0]; done) | (simp only [(id F_dChN), seval]; first | (simp [hI0]; done)))
def F_dChc := And.intro zS (And.intro tf0 (And.intro tf92 (And.intro tf1 (And.intro tf2 (And.intro tf93 (And.intro tf3 (And.intro tf4 (And.intro tf5 (And.intro tf21 (And.intro tf6 (tf94)))))))))))
set_option maxRecDepth 100000 in
set_option maxHeartbeats 4000000 in
theorem dChoice_A (l : List GDisp) (k : Nat) (hl : few6 l) (hok : dispsOK l) (hk : k < prD l) : ACall Try.prog 8 [.one (.sh 3 l.length (flat cDisp l)), .one (.lit (.int .i64 (k : Int)))] (.tup [.one (.sh 1 (dgt l k).length (flat cN (dgt l k))), .one (.lit (.bool true))]) := by
 have hl1 := hl.1
 refine acall_of Try.func8 rfl (by decide) (N := 48) rfl (by simp) (R := [.tmp 4, .tmp 5]) rfl fun en k0 => ?_
 refine awR [] [none, none] ?_
 simp only [(id F_dChc), seval]
 repeat refine ob ?_
 have hC := dCount_A l hok
 obtain ⟨hcn, hp7, hp1⟩ := fewD_cn hl
 rw [hcn] at hC
 have m1 : ¬ ((k : Nat) : Int) < 0 := by omega
 have m2 : ¬ ((prD l : Nat) : Int) ≤ (k : Int) := by omega
 have m3 : ¬ (4096 : Int) < ((prD l : Nat) : Int) := by omega
 refine awR [] [none, none, none] ?_
 simp only [(id F_dChc), seval, flat_pure cDisp_pure]
 repeat refine ob ?_
 refine ⟨_, hC, (by first | rfl | simp [allA, pure1, pureCs, pureC, A1.cells, flat_pure cDisp_pure, flat_pure cN_pure]), ?_⟩
 try unfold Later
 try simp only [(id F_dChc), seval, flat_pure cDisp_pure]
 repeat refine ob ?_
 refine awR [] [none, none, none, some (14, false), some (14, false), some (14, false), none, none, some (19, false), some (19, false), none] ?_
 simp only [(id F_dChc), seval, m1, m2, m3]
 repeat refine ob ?_
 refine awF ?_
 refine awK ?_
 simp only [(id F_dChc), seval]
 refine awR [] [none, none, none, none] ?_
 simp only [(id F_dChc), seval, repl_cN]
 repeat refine ob ?_
 refine awR [] [none, none, none] ?_
 simp only [(id F_dChc), seval]
 repeat refine ob ?_
 have hll := hl.1
 refine awp_keep [1, 7, 26, 27, 28] [25] ?_
 try unfold Later
 try simp only [(id F_dChc), seval]
 repeat' first|apply awS|apply awB
 refine awp_loopw (fun n st => ∃ i0 out q nx, i0 ≤ l.length ∧ n = l.length - i0 ∧ out ++ dgt (l.drop i0) q = [] ++ dgt l k ∧ out.length = i0 ∧ q ≤ 1000 ∧ st = ⟨mkT [(1, one (.int .i64 q)), (7, .val (.one (.own 25 0 l.length 1))), (26, .val (.one (.sh 3 l.length (flat cDisp l)))), (27, one (.int .i64 l.length)), (28, one (.int .i64 i0))], mkH [(25, ⟨0, 3, 1, l.length, flat cN (out ++ List.replicate (l.length - i0) 0)⟩)], nx, 0⟩) (l.length) ⟨0, [], k, _, by omega, by omega, by rfl, (by first | omega | assumption | rfl | simp | (simp; omega)), (by first | omega | assumption | rfl | simp | (simp; omega)), rfl⟩ ?_
 rintro n0 st ⟨i0, out, q, nx0, hk0, rfl, hL0, hV0_1, hV0_2, rfl⟩
 by_cases hlt0 : i0 < l.length
 ·
  have hI0 : (i0 : Int) < (l.length : Int) := by omega
  have hat0 := flat_at cDisp_len l i0 hlt0
  try rw [Nat.mul_one] at hat0
  rw [List.drop_eq_getElem_cons hlt0] at hL0
  have hdl := hl.2 _ (List.getElem_mem hlt0)
  generalize l[i0] = d at *
  simp only [dgt] at hL0
  refine awR [] [none] ?_
  simp only [(id F_dChc), seval, hI0, hat0]
  repeat refine ob ?_
  refine awT ?_
  refine awK ?_
  simp only [(id F_dChc), seval]
  refine awR [] [none, none, none, none, none, none] ?_
  simp only [(id F_dChc), seval, hI0, hat0, cDisp]
  repeat refine ob ?_
  have w1 : ((q : Nat) : Int).tmod (d.opts.length : Int) = ((q % d.opts.length : Nat) : Int) := tmodN q d.opts.length
  obtain ⟨v, hv⟩ : ∃ v, v = q % d.opts.length := ⟨_, rfl⟩
  rw [← hv] at w1
  have hXl : (out ++ List.replicate (l.length - i0) 0).length = l.length := by simp; omega
  have hset := flat_set cN_len (out ++ List.replicate (l.length - i0) 0) i0 v (by omega)
  rw [Nat.mul_one] at hset
  have hXs : (out ++ List.replicate (l.length - i0) 0).set i0 v = out ++ [v] ++ List.replicate (l.length - (i0 + 1)) 0 := by
   rw [List.set_append_right _ _ (by omega), hV0_1, Nat.sub_self, show l.length - i0 = (l.length - (i0 + 1)) + 1 by omega, List.replicate_succ, List.set_cons_zero, List.append_assoc]
   try rfl
  rw [hXs] at hset
  simp only [cN] at hset
  have hfl := flat_length cN_len (out ++ List.replicate (l.length - i0) 0)
  rw [hXl, Nat.mul_one] at hfl
  refine awR [] [none, none, none, none, none, none, none, none, none] ?_
  simp only [(id F_dChc), seval, hI0, hat0, cDisp, w1, hset, hfl]
  repeat refine ob ?_
  obtain ⟨q2, hq2⟩ : ∃ q2, q2 = q / d.opts.length := ⟨_, rfl⟩
  have hq3 : q2 ≤ q := hq2 ▸ Nat.div_le_self _ _
  have w5 : ((q : Nat) : Int).tdiv (d.opts.length : Int) = ((q2 : Nat) : Int) := by rw [hq2]; exact (Int.ofNat_tdiv q d.opts.length).symm
  have w6 : IntKind.i64.wrap ((q2 : Nat) : Int) = ((q2 : Nat) : Int) := wri q2 (by omega)
  refine awR [] [none, none, none, none, none, none] ?_
  simp only [(id F_dChc), seval, hI0, hat0, cDisp, w5, w6]
  repeat refine ob ?_
  refine awR [] [none, none] ?_
  simp only [(id F_dChc), seval, hI0, hat0]
  repeat refine ob ?_
  repeat refine ob ?_
  refine ⟨_, wk_keep [1, 7, 26, 27, 28] [25], l.length - (i0 + 1), by omega, i0 + 1, (out ++ [v]), (q2), ?a10_nx, by omega, rfl, ?i10_0, ?i10_1, ?i10_2, ?st10⟩
  case st10 => (simp only [(id F_dChc), seval, hI0, hat0]; first | rfl | (simp [hI0, hat0, Nat.add_mul]; done))
  case i10_0 => (rw [hv, hq2]; simpa using hL0)
  case i10_1 => (first | omega | assumption | (simp; omega) | (simp_all; done))
  case i10_2 => (first | omega | assumption | (simp; omega) | (simp_all; done))
 obtain rfl : i0 = l.length := by omega
 have hI0 : ¬ (l.length : Int) < (l.length : Int) := by omega
 rw [List.drop_length] at hL0
 simp only [dgt] at hL0
 have hout : out = dgt l k := by simpa [dgt] using hL0
 refine awR [] [none] ?_
 simp only [(id F_dChc), seval, hI0]
 repeat refine ob ?_
 refine awF ?_
 refine awQ ?_
 simp only [(id F_dChc), seval]
 refine awR [] [none, none, none] ?_
 simp only [(id F_dChc), seval, hI0]
 repeat refine ob ?_
 refine awX ?_
 simp only [(id F_dChc), seval, flat_pure cN_pure]
 simp [hout, dgt_len]
def F_dIdx := And.intro zS (And.intro tf0 (And.intro tf92 (And.intro tf1 (And.intro tf2 (And.intro tf93 (And.intro tf3 (And.intro tf4 (tf21))))))))
set_option maxRecDepth 100000 in
set_option maxHeartbeats 4000000 in
theorem dIndex_A (l : List GDisp) (c : List Nat) (hl : few6 l) (hok : dispsOK l) (hc : okCh l c) : ACall Try.prog 9 [.one (.sh 3 l.length (flat cDisp l)), .one (.sh 1 c.length (flat cN c))] (.tup [.one (.lit (.int .i64 ((ixD l c : Nat) : Int))), .one (.lit (.bool true))]) := by
 have hl1 := hl.1
 have hcl := okCh_len hc
 rw [hcl]
 refine acall_of Try.func9 rfl (by decide) (N := 45) rfl (by simp) (R := [.tmp 4, .tmp 5]) rfl fun en k0 => ?_
 refine awR [] [none, none] ?_
 simp only [(id F_dIdx), seval]
 repeat refine ob ?_
 have hCh := chooseN_A l c hc (by omega)
 rw [hcl] at hCh
 have hC := dCount_A l hok
 obtain ⟨hcn, hp7, hp1⟩ := fewD_cn hl
 rw [hcn] at hC
 have m3 : ¬ (4096 : Int) < ((prD l : Nat) : Int) := by omega
 refine awR [] [none, none, none, none, none, none, some (13, false), some (13, false), some (13, false), some (13, false), none, none, some (19, false), some (19, false), some (19, false), none] ?_
 simp only [(id F_dIdx), seval, m3, flat_pure cDisp_pure, flat_pure cN_pure]
 repeat refine ob ?_
 refine ⟨_, hCh, (by first | rfl | simp [allA, pure1, pureCs, pureC, A1.cells, flat_pure cDisp_pure, flat_pure cN_pure]), ?_⟩
 try unfold Later
 try simp only [(id F_dIdx), seval, m3, flat_pure cDisp_pure, flat_pure cN_pure]
 repeat refine ob ?_
 refine ⟨_, hC, (by first | rfl | simp [allA, pure1, pureCs, pureC, A1.cells, flat_pure cDisp_pure, flat_pure cN_pure]), ?_⟩
 try unfold Later
 try simp only [(id F_dIdx), seval, m3, flat_pure cDisp_pure, flat_pure cN_pure]
 repeat refine ob ?_
 refine awF ?_
 refine awK ?_
 simp only [(id F_dIdx), seval]
 refine awR [] [none] ?_
 simp only [(id F_dIdx), seval]
 repeat refine ob ?_
 refine awR [] [none, none, none, none] ?_
 simp only [(id F_dIdx), seval]
 repeat refine ob ?_
 refine awp_keep [0, 1, 6, 7] [] ?_
 try unfold Later
 try simp only [(id F_dIdx), seval]
 repeat' first|apply awS|apply awB
 refine awp_loopw (fun n st => ∃ j t nx, -1 ≤ j ∧ j < (l.length : Int) ∧ n = (j + 1).toNat ∧ t = ixD (l.drop (j + 1).toNat) (c.drop (j + 1).toNat) ∧ st = ⟨mkT [(0, .val (.one (.sh 3 l.length (flat cDisp l)))), (1, .val (.one (.sh 1 l.length (flat cN c)))), (6, one (.int .i64 (t : Int))), (7, one (.int .i64 j))], mkH [], nx, 0⟩) (l.length) ⟨(l.length : Int) - 1, 0, _, by omega, by omega, by omega, by rw [show ((l.length : Int) - 1 + 1).toNat = l.length by omega, List.drop_length]; rfl, rfl⟩ ?_
 rintro n0 st ⟨j, t, nx0, hj1, hj2, rfl, ht, rfl⟩
 by_cases hj0 : (0 : Int) ≤ j
 ·
  obtain ⟨i, rfl⟩ : ∃ i : Nat, j = i := ⟨j.toNat, by omega⟩
  have hil : i < l.length := by omega
  have hic : i < c.length := by omega
  rw [show ((i : Int) + 1).toNat = i + 1 by omega] at ht
  have ht9 := ixD_lt (okCh_drop hc (i + 1))
  rw [← ht] at ht9
  have hp9 := few6_drop hl (i + 1)
  have hx9 := okCh_at hc i hil hic
  have hdl := hl.2 _ (List.getElem_mem hil)
  have hatd := flat_at cDisp_len l i hil
  have hatc := flat_at cN_len c i hic
  rw [Nat.mul_one] at hatc
  obtain ⟨d, hld⟩ : ∃ d, l[i] = d := ⟨_, rfl⟩
  obtain ⟨x, hcx⟩ : ∃ x, c[i] = x := ⟨_, rfl⟩
  rw [hld] at hatd hdl hx9
  rw [hcx] at hatc hx9
  refine awR [] [none, none] ?_
  simp only [(id F_dIdx), seval, hj0]
  repeat refine ob ?_
  refine awT ?_
  refine awK ?_
  simp only [(id F_dIdx), seval]
  obtain ⟨u, hu⟩ : ∃ u, u = t * d.opts.length := ⟨_, rfl⟩
  have hu9 : u ≤ 729 * 3 := hu ▸ Nat.mul_le_mul (by omega) hdl.2
  have w1 : (t : Int) * (d.opts.length : Int) = ((u : Nat) : Int) := by rw [hu]; norm_cast
  obtain ⟨z, hz⟩ : ∃ z, z = u + x := ⟨_, rfl⟩
  have w2 : ((u : Nat) : Int) + ((x : Nat) : Int) = ((z : Nat) : Int) := by rw [hz]; norm_cast
  refine awD (scq [1, 3, 5, 7, 9, 11, 13, 15, 17, 19, 21, 23, 25, 27] .nil) [none, none, none, none, none, none, none, none, none, none, none, none, none, none] ?_
  simp only [(id F_dIdx), seval, hj0, hatd, hatc, cDisp, cN, w1, w2]
  repeat refine ob ?_
  refine awR [] [none, none, none] ?_
  simp only [(id F_dIdx), seval, hj0]
  repeat refine ob ?_
  repeat refine ob ?_
  refine ⟨_, wk_keep [0, 1, 6, 7] [], i, by omega, (i : Int) - 1, z, ?na, by omega, by omega, by omega, ?eq, ?st⟩
  case st => (simp only [(id F_dIdx), seval]; first | rfl | (simp; done))
  case eq => (rw [show ((i : Int) - 1 + 1).toNat = i by omega, List.drop_eq_getElem_cons hil, List.drop_eq_getElem_cons hic, hz, hu, ht, hld, hcx]; rfl)
 obtain rfl : j = -1 := by omega
 have ht0 : t = ixD l c := ht
 refine awR [] [none, none] ?_
 simp only [(id F_dIdx), seval, hj0]
 repeat refine ob ?_
 refine awF ?_
 refine awQ ?_
 simp only [(id F_dIdx), seval]
 refine awR [] [none, none, none] ?_
 simp only [(id F_dIdx), seval, hj0]
 repeat refine ob ?_
 refine awX ?_
 simp only [(id F_dIdx), seval]
 simp [ht0]
end Go.Proofs.Ytokmkopihhnggaa
end
section
/- The builder of disputes: the list a row of the caller's own; walked by the abstract machine. -/
namespace Go.Proofs.Ytokmkopihhnggaa
open Go Go.RowKit
def F_lDq := And.intro zS (And.intro tf66 (And.intro tf68 (And.intro tf25 (And.intro tf71 (And.intro tf1 (And.intro tf27 (And.intro tf75 (And.intro tf62 (And.intro tf35 (And.intro tf47 (And.intro tf76 (And.intro tf95 (And.intro tf51 (And.intro tf52 (And.intro tf82 (And.intro tf6 (tf37)))))))))))))))))
set_option maxRecDepth 100000 in
set_option maxHeartbeats 4000000 in
theorem disputesP_I (g : GGrp) (list : List N4) (m : Nat) (H : Hp) (ny : Nat) (hng : g.ests.length ≤ 1000000) (hcl : ∀ e ∈ g.ests, e.claims.length ≤ 1000000) (hln : list.length ≤ 9223372036854775807) (hls : ∀ x ∈ list, okN4 x) (hm : m ≤ 1000) (hbH : ∀ y B, H y = some B → y < 1000) :
  ACallI Try.prog 5 [.agg (cGrp g), .one (.sh 4 list.length (flat cN4 list)), .one (.lit (.int .i64 m))] H ny
   (fun res H' _ => ∃ l all s, l.length = min (min list.length m) (spE g.ests 0 []).length ∧ (l.map dLeg ++ all).Perm (spE g.ests 0 []) ∧ (∀ d ∈ l, okD d) ∧ res = .val (.one (.own 1044 s l.length 3)) ∧ H' = mkOn H [(1044, ⟨s, 64, 3, l.length, flat cDisp l⟩)]) := by
 refine acallI_of 1000 Try.func5 rfl (by decide) (N := 56) rfl (by simp) (Rl := [.tmp 6]) rfl fun en k0 => ?_
 refine awR [] [none, none] ?_
 simp only [(id F_lDq), seval, cGrp]
 repeat refine ob ?_
 refine awR [] [none] ?_
 simp only [(id F_lDq), seval, cGrp]
 repeat refine ob ?_
 have hSp := spots_A g hng hcl
 have hsl9 := spE_len g.ests 0 [] hcl
 rw [List.length_nil] at hsl9
 refine awR [] [none, none, none] ?_
 simp only [(id F_lDq), seval, cGrp, cGrp, flat_pure cEst_pure, flat_pure cDebt_pure]
 repeat refine ob ?_
 refine ⟨_, hSp, (by first | rfl | simp [allA, pure1, pureCs, pureC, A1.cells, cGrp, flat_pure cEst_pure, flat_pure cDebt_pure, flat_pure cLeg_pure]), ?_⟩
 try unfold Later
 try simp only [(id F_lDq), seval, cGrp, cGrp, flat_pure cEst_pure, flat_pure cDebt_pure]
 repeat refine ob ?_
 refine awR [] [none, none, none] ?_
 simp only [(id F_lDq), seval, cGrp]
 repeat refine ob ?_
 refine awp_nil 7 1044 64 3 (by decide) (by rfl) ?_
 refine awp_on H [2, 7, 8, 14, 15, 16] [1044] (by intro y B h; right; have h9 := hbH y B h; simp only [up_apply]; (repeat rw [if_neg (by omega)]); exact h) ?_
 try unfold Later
 try simp only [(id F_lDq), seval, cGrp]
 repeat' first|apply awS|apply awB
 refine awp_loopw (fun n st => ∃ j out all s nx, j ≤ list.length ∧ n = list.length - j ∧ out.length = j ∧ j ≤ m ∧ (out.map dLeg ++ all).Perm (spE g.ests 0 []) ∧ (∀ d ∈ out, okD d) ∧ st = ⟨mkT [(2, one (.int .i64 m)), (7, .val (.one (.own 1044 s out.length 3))), (8, .val (.one (.sh 2 all.length (flat cLeg all)))), (14, .val (.one (.sh 4 list.length (flat cN4 list)))), (15, one (.int .i64 list.length)), (16, one (.int .i64 j))], mkOn H [(1044, ⟨s, 64, 3, out.length, flat cDisp out⟩)], nx, 1000⟩) (list.length) ⟨0, [], spE g.ests 0 [], _, _, by omega, by omega, rfl, by omega, by simp, by simp, rfl⟩ ?_
 rintro n0 st ⟨j, out, all, s, nx0, hj0, rfl, hoj, hjm, hperm, hok, rfl⟩
 by_cases hlt0 : (j : Int) < (list.length : Int)
 ·
  have hj : j < list.length := by omega
  have hat0 := flat_at cN4_len list j hj
  obtain ⟨x, hxj⟩ : ∃ x, list[j] = x := ⟨_, rfl⟩
  have hx : okN4 x := hxj ▸ hls _ (List.getElem_mem hj)
  rw [hxj] at hat0
  have hxa : x.a < 65536 := hx.1
  refine awR [] [none] ?_
  simp only [(id F_lDq), seval, cGrp, hlt0, hat0]
  repeat refine ob ?_
  refine awT ?_
  refine awK ?_
  simp only [(id F_lDq), seval]
  refine awR [] [none, none, none, none] ?_
  simp only [(id F_lDq), seval, cGrp, hlt0, hat0, cN4]
  repeat refine ob ?_
  by_cases h1 : (m : Int) ≤ (out.length : Int)
  ·
   refine awR [] [none, none, none, none, none, some (24, false), some (24, false), some (24, false), none] ?_
   simp only [(id F_lDq), seval, cGrp, hlt0, hat0, h1]
   repeat refine ob ?_
   refine awT ?_
   refine awQ ?_
   simp only [(id F_lDq), seval]
   refine awR [] [none, none] ?_
   simp only [(id F_lDq), seval, cGrp, hlt0, hat0, h1]
   repeat refine ob ?_
   refine awp_on H [6] [1044] (by intro y B h; right; have h9 := hbH y B h; simp only [up_apply]; (repeat rw [if_neg (by omega)]); exact h) ?_
   simp only [(id F_lDq), seval]
   refine awX ?_
   simp only [(id F_lDq), seval]
   have hpl := hperm.length_eq
   rw [List.length_append, List.length_map] at hpl
   exact ⟨out, all, s, by omega, hperm, hok, rfl, rfl⟩
  by_cases h2 : (all.length : Int) = 0
  ·
   refine awR [] [none, none, none, none, none, some (24, false), some (24, false), some (24, false), none] ?_
   simp only [(id F_lDq), seval, cGrp, hlt0, hat0, h1, h2]
   repeat refine ob ?_
   refine awT ?_
   refine awQ ?_
   simp only [(id F_lDq), seval]
   refine awR [] [none, none] ?_
   simp only [(id F_lDq), seval, cGrp, hlt0, hat0, h1, h2]
   repeat refine ob ?_
   refine awp_on H [6] [1044] (by intro y B h; right; have h9 := hbH y B h; simp only [up_apply]; (repeat rw [if_neg (by omega)]); exact h) ?_
   simp only [(id F_lDq), seval]
   refine awX ?_
   simp only [(id F_lDq), seval]
   have hpl := hperm.length_eq
   rw [List.length_append, List.length_map] at hpl
   exact ⟨out, all, s, by omega, hperm, hok, rfl, rfl⟩
  refine awR [] [none, none, none, none, none, some (24, false), some (24, false), some (24, false), none] ?_
  simp only [(id F_lDq), seval, cGrp, hlt0, hat0, h1, h2]
  repeat refine ob ?_
  refine awF ?_
  refine awK ?_
  simp only [(id F_lDq), seval]
  have hpl := hperm.length_eq
  rw [List.length_append, List.length_map] at hpl
  have w1 := tmodN x.a all.length
  have hkl : x.a % all.length < all.length := Nat.mod_lt _ (by omega)
  obtain ⟨k, hk⟩ : ∃ k, k = x.a % all.length := ⟨_, rfl⟩
  rw [← hk] at w1 hkl
  refine awR [] [none, none, none, none, none, none, none] ?_
  simp only [(id F_lDq), seval, cGrp, hlt0, hat0, h1, h2, cN4, w1]
  repeat refine ob ?_
  obtain ⟨p, hpk⟩ : ∃ p, all[k] = p := ⟨_, rfl⟩
  have hatl := flat_at cLeg_len all k hkl
  rw [hpk] at hatl
  have hlen1 := flat_length cDisp_len out
  have hal : (flat cLeg all).length = all.length * 2 := flat_length cLeg_len all
  repeat' first|apply awS|apply awB
  refine awp_drawsI [41] (by kernel_rfl) (.cons 0 true (.cons 1 true (.cons 2 true (.cons 3 true (.cons 5 true (.two 4 6 (.cons 6 false (.cons 7 true (.cons 8 false (.cons 9 false (.cons 10 true .nil))))) (.cons 4 true (.cons 7 true (.cons 8 false (.cons 9 false (.cons 10 true .nil))))))))))) (by kernel_rfl) (gs := [none, none, none, none, none, none, none, none, none, none, none]) (by kernel_rfl) (by simp only [(id zS), seval]; rfl) (by decide) ?_
  simp only [(id F_lDq), seval, cGrp, hlt0, hat0, h1, h2, hatl, cLeg, cN4, (id SD)]
  repeat refine ob ?_
  refine ⟨?_, ?_⟩
  ·
   repeat refine ob ?_
   refine ⟨_, opts_I2 x hx _ _ (fun y B hB => ?_), ?_⟩
   ·
    simp only [up_apply] at hB
    repeat (split at hB; · omega)
    have := hbH y B hB; omega
   rintro res H' nx' ⟨l, so1, hl1, hl3, hlg, rfl, rfl⟩
   simp only [(id F_lDq), seval, (id SD), hatl, cLeg, cN4]
   repeat refine ob ?_
   refine awp_pubc 2066 1044 (out.length * 3 + 2) (by rfl) (by rfl) (by (try simp only [(id F_lDq), seval]); rw [List.getElem?_append_right (by rw [flat_length cDisp_len]; omega), flat_length cDisp_len, Nat.add_sub_cancel_left]; rfl) (by decide) (by show (4 : Nat) ≠ 0; decide) (by show (3 : Nat) ≠ 0; decide) rfl ?_
   have hst9 : ∀ q9 : List C, q9.length = 3 → ∀ y, (flat cDisp out ++ q9).set (out.length * 3 + 2) y = flat cDisp out ++ q9.set 2 y := fun q9 h9 y => by rw [List.set_append_right _ _ (by rw [flat_length cDisp_len]; omega), flat_length cDisp_len, Nat.add_sub_cancel_left]
   simp only [(id F_lDq), seval]
   rw [hst9 _ (by rfl)]
   simp only [(id F_lDq), seval, List.set_cons_succ, List.set_cons_zero]
   have hk1 : ((k : Int) + 1).toNat = k + 1 := by omega
   have hft := flat_take cLeg_len all k
   have hfd := flat_drop cLeg_len all (k + 1)
   have hfk : List.take ((all.length - (k + 1)) * 2) (flat cLeg (all.drop (k + 1))) = flat cLeg (all.drop (k + 1)) := List.take_of_length_le (by rw [flat_length cLeg_len, List.length_drop]; omega)
   refine awD (scq [1, 3, 5, 9, 11, 13, 15, 6, 16, 19] .nil) [none, none, none, none, none, none, none, none, none, none] ?_
   simp only [(id F_lDq), seval, cGrp, hlt0, hat0, h1, h2, hk1, hft, hfd, hfk, Nat.sub_zero]
   repeat refine ob ?_
   refine awp_pub (t := 8) (by rfl) (by rfl) (by decide) (by rfl) ?_
   simp only [(id F_lDq), seval]
   have hl8 : k + (all.length - (k + 1)) = (all.take k ++ all.drop (k + 1)).length := by simp; omega
   rw [show flat cLeg (all.take k) ++ flat cLeg (all.drop (k + 1)) = flat cLeg (all.take k ++ all.drop (k + 1)) by rw [flat_append]]
   rw [hl8]
   obtain ⟨al2, hal2⟩ : ∃ a, a = all.take k ++ all.drop (k + 1) := ⟨_, rfl⟩
   rw [← hal2]
   refine awR [] [none, none] ?_
   simp only [(id F_lDq), seval, cGrp, hlt0, hat0, h1, h2]
   repeat refine ob ?_
   repeat refine ob ?_
   have hperm2 : ((out ++ [(⟨p.1, p.2, l⟩ : GDisp)]).map dLeg ++ al2).Perm (spE g.ests 0 []) := by
    rw [hal2]
    refine List.Perm.trans ?_ hperm
    rw [List.map_append, List.append_assoc]
    refine List.Perm.append_left _ ?_
    have h1 : all = all.take k ++ (p :: all.drop (k + 1)) := by rw [← hpk, ← List.drop_eq_getElem_cons hkl, List.take_append_drop]
    show (p :: (all.take k ++ all.drop (k + 1))).Perm all
    conv => rhs; rw [h1]
    exact List.perm_middle.symm
   have hokd : ∀ d ∈ (out ++ [(⟨p.1, p.2, l⟩ : GDisp)]), okD d := by
    intro d hd
    rcases List.mem_append.1 hd with h | h
    ·
     exact hok d h
    obtain rfl := List.mem_singleton.1 h
    exact ⟨hl1, hl3, hlg⟩
   refine ⟨_, wk_on H [2, 7, 8, 14, 15, 16] [1044] (by intro y B h; right; have h9 := hbH y B h; simp only [up_apply]; (repeat rw [if_neg (by omega)]); exact h), list.length - (j + 1), by omega, j + 1, (out ++ [(⟨p.1, p.2, l⟩ : GDisp)]), al2, ?ss18, ?na18, by omega, rfl, by simp; omega, by omega, hperm2, hokd, ?st18⟩
   case st18 => (simp only [(id F_lDq), seval, flat_snoc, cDisp, List.length_append, List.length_cons, List.length_nil]; first | rfl | (simp; done))
  repeat refine ob ?_
  refine ⟨_, opts_I2 x hx _ _ (fun y B hB => ?_), ?_⟩
  ·
   simp only [up_apply] at hB
   repeat (split at hB; · omega)
   have := hbH y B hB; omega
  rintro res H' nx' ⟨l, so1, hl1, hl3, hlg, rfl, rfl⟩
  simp only [(id F_lDq), seval, (id SD), hatl, cLeg, cN4]
  repeat refine ob ?_
  refine awp_pubc 2066 1044 (out.length * 3 + 2) (by rfl) (by rfl) (by (try simp only [(id F_lDq), seval]); rw [List.getElem?_append_right (by rw [flat_length cDisp_len]; omega), flat_length cDisp_len, Nat.add_sub_cancel_left]; rfl) (by decide) (by show (4 : Nat) ≠ 0; decide) (by show (3 : Nat) ≠ 0; decide) rfl ?_
  have hst9 : ∀ q9 : List C, q9.length = 3 → ∀ y, (flat cDisp out ++ q9).set (out.length * 3 + 2) y = flat cDisp out ++ q9.set 2 y := fun q9 h9 y => by rw [List.set_append_right _ _ (by rw [flat_length cDisp_len]; omega), flat_length cDisp_len, Nat.add_sub_cancel_left]
  simp only [(id F_lDq), seval]
  rw [hst9 _ (by rfl)]
  simp only [(id F_lDq), seval, List.set_cons_succ, List.set_cons_zero]
  have hk1 : ((k : Int) + 1).toNat = k + 1 := by omega
  have hft := flat_take cLeg_len all k
  have hfd := flat_drop cLeg_len all (k + 1)
  have hfk : List.take ((all.length - (k + 1)) * 2) (flat cLeg (all.drop (k + 1))) = flat cLeg (all.drop (k + 1)) := List.take_of_length_le (by rw [flat_length cLeg_len, List.length_drop]; omega)
  refine awD (scq [1, 3, 5, 9, 11, 13, 15, 6, 16, 19] .nil) [none, none, none, none, none, none, none, none, none, none] ?_
  simp only [(id F_lDq), seval, cGrp, hlt0, hat0, h1, h2, hk1, hft, hfd, hfk, Nat.sub_zero]
  repeat refine ob ?_
  refine awp_pub (t := 8) (by rfl) (by rfl) (by decide) (by rfl) ?_
  simp only [(id F_lDq), seval]
  have hl8 : k + (all.length - (k + 1)) = (all.take k ++ all.drop (k + 1)).length := by simp; omega
  rw [show flat cLeg (all.take k) ++ flat cLeg (all.drop (k + 1)) = flat cLeg (all.take k ++ all.drop (k + 1)) by rw [flat_append]]
  rw [hl8]
  obtain ⟨al2, hal2⟩ : ∃ a, a = all.take k ++ all.drop (k + 1) := ⟨_, rfl⟩
  rw [← hal2]
  refine awR [] [none, none] ?_
  simp only [(id F_lDq), seval, cGrp, hlt0, hat0, h1, h2]
  repeat refine ob ?_
  repeat refine ob ?_
  have hperm2 : ((out ++ [(⟨p.1, p.2, l⟩ : GDisp)]).map dLeg ++ al2).Perm (spE g.ests 0 []) := by
   rw [hal2]
   refine List.Perm.trans ?_ hperm
   rw [List.map_append, List.append_assoc]
   refine List.Perm.append_left _ ?_
   have h1 : all = all.take k ++ (p :: all.drop (k + 1)) := by rw [← hpk, ← List.drop_eq_getElem_cons hkl, List.take_append_drop]
   show (p :: (all.take k ++ all.drop (k + 1))).Perm all
   conv => rhs; rw [h1]
   exact List.perm_middle.symm
  have hokd : ∀ d ∈ (out ++ [(⟨p.1, p.2, l⟩ : GDisp)]), okD d := by
   intro d hd
   rcases List.mem_append.1 hd with h | h
   ·
    exact hok d h
   obtain rfl := List.mem_singleton.1 h
   exact ⟨hl1, hl3, hlg⟩
  refine ⟨_, wk_on H [2, 7, 8, 14, 15, 16] [1044] (by intro y B h; right; have h9 := hbH y B h; simp only [up_apply]; (repeat rw [if_neg (by omega)]); exact h), list.length - (j + 1), by omega, j + 1, (out ++ [(⟨p.1, p.2, l⟩ : GDisp)]), al2, ?ss21, ?na21, by omega, rfl, by simp; omega, by omega, hperm2, hokd, ?st21⟩
  case st21 => (simp only [(id F_lDq), seval, flat_snoc, cDisp, List.length_append, List.length_cons, List.length_nil]; first | rfl | (simp; done))
 refine awR [] [none] ?_
 simp only [(id F_lDq), seval, cGrp, hlt0]
 repeat refine ob ?_
 refine awF ?_
 refine awQ ?_
 simp only [(id F_lDq), seval]
 refine awR [] [none, none] ?_
 simp only [(id F_lDq), seval, cGrp, hlt0]
 repeat refine ob ?_
 refine awp_on H [6] [1044] (by intro y B h; right; have h9 := hbH y B h; simp only [up_apply]; (repeat rw [if_neg (by omega)]); exact h) ?_
 simp only [(id F_lDq), seval]
 refine awX ?_
 simp only [(id F_lDq), seval]
 have hpl := hperm.length_eq
 rw [List.length_append, List.length_map] at hpl
 exact ⟨out, all, s, by omega, hperm, hok, rfl, rfl⟩
end Go.Proofs.Ytokmkopihhnggaa
end
