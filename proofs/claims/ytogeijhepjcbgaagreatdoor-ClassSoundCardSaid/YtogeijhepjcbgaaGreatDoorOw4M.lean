/- Late: ranks changed in a group that is the caller's own; walked by the abstract machine. -/
import Derived.Test.YtogeijhepjcbgaaGreatDoorOw3M
import Derived.Test.YtogeijhepjcbgaaGreatDoorFewM
import Derived.Test.YtogeijhepjcbgaaGreatDoorSm2M
import Derived.Test.YtogeijhepjcbgaaGreatDoorPlusM
set_option linter.unusedVariables false
set_option linter.unusedSimpArgs false
set_option linter.defProp false
set_option linter.unnecessarySimpa false
section
/- Late: ranks changed in a group that is the caller's own; walked by the abstract machine. -/
namespace Go.Proofs.YtogeijhepjcbgaaGreatDoor
open Go Go.RowKit
def lateB (bits k : Nat) : Nat := bits / 4 ^ (k % 8) % 4
def lateC (bits k : Nat) (c : GClaim) : GClaim := ⟨c.holder, if lateB bits k = 2 then 6 else if lateB bits k = 3 then 7 else c.rank, c.amount⟩
def lateL (bits : Nat) : List GClaim → Nat → List GClaim
  | [], _ => []
  | c :: l, k => lateC bits k c :: lateL bits l (k + 1)
def lateE (bits : Nat) : List GEst → Nat → List GEst
  | [], _ => []
  | e :: l, k => ⟨e.cash, lateL bits e.claims k, e.agrs⟩ :: lateE bits l (k + e.claims.length)
theorem lateL_len (bits : Nat) : ∀ (l : List GClaim) (k : Nat), (lateL bits l k).length = l.length
  | [], _ => rfl
  | c :: l, k => by simp [lateL, lateL_len bits l (k + 1)]
theorem lateE_len (bits : Nat) : ∀ (l : List GEst) (k : Nat), (lateE bits l k).length = l.length
  | [], _ => rfl
  | e :: l, k => by simp [lateE, lateE_len bits l]
theorem take_set_succ {α : Type} (X : List α) (c : Nat) (x : α) (h : c < X.length) : (X.set c x).take (c + 1) = X.take c ++ [x] := by
  rw [List.take_succ_eq_append_getElem (by simpa using h), List.getElem_set_self, List.take_set]
  congr 1
  exact List.set_eq_of_length_le (by rw [List.length_take]; omega)
theorem late_step (bits : Nat) (X R : List GClaim) (c m : Nat) (hc : c < X.length) (h : X.take c ++ lateL bits (X.drop c) m = R) : (X.set c (lateC bits m X[c])).take (c + 1) ++ lateL bits ((X.set c (lateC bits m X[c])).drop (c + 1)) (m + 1) = R := by
  rw [List.drop_eq_getElem_cons hc] at h
  rw [take_set_succ X c _ hc, List.drop_set, if_pos (by omega), ← h]
  simp [lateL]
theorem lateE_step (bits : Nat) (X R : List GEst) (c m : Nat) (hc : c < X.length) (h : X.take c ++ lateE bits (X.drop c) m = R) : (X.set c ⟨X[c].cash, lateL bits X[c].claims m, X[c].agrs⟩).take (c + 1) ++ lateE bits ((X.set c ⟨X[c].cash, lateL bits X[c].claims m, X[c].agrs⟩).drop (c + 1)) (m + X[c].claims.length) = R := by
  rw [List.drop_eq_getElem_cons hc] at h
  rw [take_set_succ X c _ hc, List.drop_set, if_pos (by omega), ← h]
  simp [lateE]
theorem shr3u (n j : Nat) (hn : n < 65536) (hj : j ≤ 16) : IntKind.u16.wrap ((BitVec.ofInt IntKind.u16.bits ((n : Int).fdiv (2 ^ min j IntKind.u16.bits)) &&& BitVec.ofInt IntKind.u16.bits 3).toNat : Int) = ((n / 2 ^ j % 4 : Nat) : Int) := by
  have h1 : (BitVec.ofInt 16 ((n : Int).fdiv (2 ^ min j 16)) &&& BitVec.ofInt 16 3).toNat = n / 2 ^ j % 4 := by
    rw [Nat.min_eq_left hj]
    have h1 : (n : Int).fdiv (2 ^ j) = ((n / 2 ^ j : Nat) : Int) := by
      have : (2 : Int) ^ j = ((2 ^ j : Nat) : Int) := by norm_cast
      rw [this, Int.fdiv_eq_ediv_of_nonneg _ (Int.natCast_nonneg _)]; norm_cast
    have h2 : n / 2 ^ j < 65536 := Nat.lt_of_le_of_lt (Nat.div_le_self _ _) hn
    rw [h1, BitVec.ofInt_natCast, BitVec.toNat_and, BitVec.toNat_ofNat, Nat.mod_eq_of_lt (a := n / 2 ^ j) (by omega)]
    exact Nat.and_two_pow_sub_one_eq_mod (n := 2) _
  have h3 : IntKind.u16.bits = 16 := rfl
  rw [h3, h1]
  exact wr16 _ (by omega)
def F_lLate := And.intro zS (And.intro tf48 (And.intro tf49 (And.intro tf32 (And.intro tf50 (And.intro tf85 (And.intro tf33 (And.intro tf52 (And.intro tf36 (And.intro tf53 (And.intro tf55 (And.intro tf14 (And.intro tf44 (And.intro tf46 (tf77))))))))))))))
set_option maxRecDepth 100000 in
set_option maxHeartbeats 4000000 in
theorem late_I (ps : List (GEst × Nat)) (ds : List GDebt) (bits n9 s t10 ny : Nat) (hpn : ps.length = n9) (hn9 : n9 ≤ 1000) (hbits : bits < 65536) (hcl : ∀ q ∈ ps, q.1.claims.length ≤ 1000) :
  ACallI Tryz.prog 22 [.agg [.own 49 s n9 5, .sh 4 ds.length (flat cDebt ds)], .one (.lit (.int .u16 bits))] (mkOn (tbl 103 69 ps) [(10, ⟨t10, 30, 2, 1, [.own 49 s n9 5, .sh 4 ds.length (flat cDebt ds)]⟩), (49, ⟨s, 67, 5, n9, eRw (fOwn 103) ps 0⟩)]) ny
   (fun res H' _ => ∃ ps1 t4, ps1.map (·.1) = lateE bits (ps.map (·.1)) 0 ∧ ps1.length = n9 ∧ res = .val (.agg [.own 49 s n9 5, .sh 4 ds.length (flat cDebt ds)]) ∧ H' = mkOn (tbl 103 69 ps1) [(10, ⟨t10, 30, 2, 1, [.own 49 s n9 5, .sh 4 ds.length (flat cDebt ds)]⟩), (49, ⟨s, 67, 5, n9, eRw (fOwn 103) ps1 0⟩), (504, ⟨t4, 30, 2, 1, [.own 49 s n9 5, .sh 4 ds.length (flat cDebt ds)]⟩)]) := by
 refine acallI_of 500 Tryz.func22 rfl (by decide) (N := 58) rfl (by simp) (Rl := [.cell 4 30]) rfl fun en k0 => ?_
 refine awR [] [none, none] ?_
 simp only [(id F_lLate), seval]
 repeat refine ob ?_
 refine awR [] [none] ?_
 simp only [(id F_lLate), seval]
 repeat refine ob ?_
 refine awR [] [none, none, none, none] ?_
 simp only [(id F_lLate), seval]
 repeat refine ob ?_
 refine awp_on (tbl 103 69 ps) [1, 2, 4, 5, 9, 10, 11] [10, 49, 502, 504] (by intro y B h; obtain ⟨a, r, rfl, h2, h3⟩ := tbl_some h; right; simp only [up_apply]; (repeat rw [if_neg (by omega)]); exact h) ?_
 try unfold Later
 try simp only [(id F_lLate), seval]
 repeat' first|apply awS|apply awB
 refine awp_loopw (fun n st => ∃ i k ps1 nx, i ≤ n9 ∧ n = n9 - i ∧ (ps1.map (·.1)).take i ++ lateE bits ((ps1.map (·.1)).drop i) k = lateE bits (ps.map (·.1)) 0 ∧ eRw (fOwn 103) ps1 0 = eRw (fOwn 103) ps 0 ∧ k ≤ 1000 * i ∧ (∀ q ∈ ps1, q.1.claims.length ≤ 1000) ∧ ps1.length = n9 ∧ st = ⟨mkT [(1, one (.int .u16 bits)), (2, .val (.one (.ptr 502 ny 0))), (4, .val (.one (.ptr 504 (ny + 1) 0))), (5, one (.int .i64 ((k : Nat) : Int))), (9, .val (.one (.own 49 s n9 5))), (10, one (.int .i64 n9)), (11, one (.int .i64 i))], mkOn (tbl 103 69 ps1) [(10, ⟨t10, 30, 2, 1, [.own 49 s n9 5, .sh 4 ds.length (flat cDebt ds)]⟩), (49, ⟨s, 67, 5, n9, eRw (fOwn 103) ps 0⟩), (502, ⟨ny, 30, 2, 1, [.own 49 s n9 5, .sh 4 ds.length (flat cDebt ds)]⟩), (504, ⟨ny + 1, 30, 2, 1, [.lit (.slice none 0 0), .lit (.slice none 0 0)]⟩)], nx, 500⟩) (n9) ⟨0, 0, ps, _, by omega, by omega, rfl, rfl, by omega, hcl, hpn, rfl⟩ ?_
 rintro n0 st ⟨i, k, ps1, nx0, hi, rfl, hL0, hrow, hk, hcm, hpl, rfl⟩
 by_cases hlt0 : (i : Int) < (n9 : Int)
 ·
  refine awR [] [none] ?_
  simp only [(id F_lLate), seval, hlt0]
  repeat refine ob ?_
  refine awT ?_
  refine awK ?_
  simp only [(id F_lLate), seval]
  refine awR [] [none, none] ?_
  simp only [(id F_lLate), seval, hlt0]
  repeat refine ob ?_
  have hil : i < ps1.length := by omega
  obtain ⟨q, hq⟩ : ∃ q, ps1[i]? = some q := ⟨_, List.getElem?_eq_getElem hil⟩
  have hq0 : ps1[i] = q := (List.getElem?_eq_some_iff.1 hq).2
  have hget := eRw_get3 (fOwn 103) ps1 i q hq
  rw [hrow] at hget
  have hfo : fOwn 103 i q = .own (1000 * (i + 1) + 103) q.2 q.1.claims.length 5 := rfl
  rw [hfo] at hget
  have hrl := eRw_len (fOwn 103) ps 0
  obtain ⟨b9, hb9⟩ : ∃ b, b = 1000 * (i + 1) + 103 := ⟨_, rfl⟩
  rw [← hb9] at hget
  have F9 : ∀ c, c % 1000 ≠ 103 → ((b9 = c) = False ∧ (c = b9) = False) := fun c hc => ⟨by simp; omega, by simp; omega⟩
  have htb : tbl 103 69 ps1 b9 = some ⟨q.2, 69, 5, q.1.claims.length, flat cClaim q.1.claims⟩ := by rw [hb9]; exact tbl_at (by decide) hq
  have hcq := hcm q (List.mem_of_getElem? hq)
  refine awR [] [none, none, none, none, none, none, none, none] ?_
  simp only [(id F_lLate), seval, hlt0, hget, F9, htb]
  repeat refine ob ?_
  refine awp_on (tbl 103 69 ps1) [1, 2, 4, 5, 6, 9, 10, 11, 19, 20, 21] [10, 49, 502, 504] (by intro y B h; obtain ⟨a, r, rfl, h2, h3⟩ := tbl_some h; right; simp only [up_apply]; (repeat rw [if_neg (by omega)]); exact h) ?_
  try unfold Later
  try simp only [(id F_lLate), seval, hlt0]
  repeat' first|apply awS|apply awB
  refine awp_loopw (fun n st => ∃ c X nx, c ≤ q.1.claims.length ∧ n = q.1.claims.length - c ∧ X.length = q.1.claims.length ∧ X.take c ++ lateL bits (X.drop c) (k + c) = lateL bits q.1.claims k ∧ st = ⟨mkT [(1, one (.int .u16 bits)), (2, .val (.one (.ptr 502 ny 0))), (4, .val (.one (.ptr 504 (ny + 1) 0))), (5, one (.int .i64 ((k + c : Nat) : Int))), (6, one (.int .i64 i)), (9, .val (.one (.own 49 s n9 5))), (10, one (.int .i64 n9)), (11, one (.int .i64 i)), (19, .val (.one (.own b9 q.2 q.1.claims.length 5))), (20, one (.int .i64 q.1.claims.length)), (21, one (.int .i64 c))], mkOn (tbl 103 69 (ps1.set i (⟨q.1.cash, X, q.1.agrs⟩, q.2))) [(10, ⟨t10, 30, 2, 1, [.own 49 s n9 5, .sh 4 ds.length (flat cDebt ds)]⟩), (49, ⟨s, 67, 5, n9, eRw (fOwn 103) ps 0⟩), (502, ⟨ny, 30, 2, 1, [.own 49 s n9 5, .sh 4 ds.length (flat cDebt ds)]⟩), (504, ⟨ny + 1, 30, 2, 1, [.lit (.slice none 0 0), .lit (.slice none 0 0)]⟩)], nx, 500⟩) (q.1.claims.length) ⟨0, q.1.claims, _, by omega, by omega, rfl, rfl, by rw [show ps1.set i (⟨q.1.cash, q.1.claims, q.1.agrs⟩, q.2) = ps1 by rw [show ((⟨q.1.cash, q.1.claims, q.1.agrs⟩, q.2) : GEst × Nat) = q from rfl, ← hq0]; exact List.set_getElem_self hil]; rfl⟩ ?_
  rintro n1 st ⟨c, X, nx1, hc, rfl, hXl, hLX, rfl⟩
  by_cases hlt1 : (c : Int) < (q.1.claims.length : Int)
  ·
   refine awR [] [none] ?_
   simp only [(id F_lLate), seval, hlt0, hlt1]
   repeat refine ob ?_
   refine awT ?_
   refine awK ?_
   simp only [(id F_lLate), seval]
   refine awR [] [none, none] ?_
   simp only [(id F_lLate), seval, hlt0, hlt1]
   repeat refine ob ?_
   have hcX : c < X.length := by omega
   have w1 : ((k + c : Nat) : Int).tmod 8 = (((k + c) % 8 : Nat) : Int) := by norm_cast
   have w2 : IntKind.u64.wrap (2 * (((k + c) % 8 : Nat) : Int)) = ((2 * ((k + c) % 8) : Nat) : Int) := by have := wr64 (2 * ((k + c) % 8)) (by omega); rw [← this]; norm_cast
   have w3 := shr3u bits (2 * ((k + c) % 8)) hbits (by omega)
   rw [four_pow] at w3
   change _ = ((lateB bits (k + c) : Nat) : Int) at w3
   obtain ⟨kc, hkc⟩ : ∃ kc : Int, kc = ((k + c : Nat) : Int) := ⟨_, rfl⟩
   have hfX := flat_length cClaim_len X
   have htX : tbl 103 69 (ps1.set i (⟨q.1.cash, X, q.1.agrs⟩, q.2)) b9 = some ⟨q.2, 69, 5, X.length, flat cClaim X⟩ := by rw [hb9]; exact tbl_at (p := (⟨q.1.cash, X, q.1.agrs⟩, q.2)) (by decide) (by rw [List.getElem?_set_self hil])
   refine awR [] [none, none, none, none, none, none, none] ?_
   simp only [(id F_lLate), seval, hlt0, hlt1, w1, w2, w3]
   repeat refine ob ?_
   by_cases x2 : ((lateB bits (k + c) : Nat) : Int) = 2
   ·
    have yx2 : lateB bits (k + c) = 2 := by omega
    refine awR [] [none, none] ?_
    simp only [(id F_lLate), seval, hlt0, hlt1, x2, yx2]
    repeat refine ob ?_
    refine awT ?_
    refine awR [] [none, none, none, none, none, none, none, none, none, none] ?_
    simp only [(id F_lLate), seval, hlt0, hlt1, x2, yx2, hget, F9, htX, hXl]
    repeat refine ob ?_
    refine awR [] [none, none, none] ?_
    simp only [(id F_lLate), seval, hlt0, hlt1, x2, yx2]
    repeat refine ob ?_
    refine awR [] [none, none] ?_
    simp only [(id F_lLate), seval, hlt0, hlt1, x2, yx2]
    repeat refine ob ?_
    repeat refine ob ?_
    have hx9 : lateC bits (k + c) X[c] = ⟨X[c].holder, 6, X[c].amount⟩ := by unfold lateC; simp [yx2]
    have hst9 := late_step bits X _ c (k + c) hcX hLX
    rw [hx9] at hst9
    have hset9 := flat_setf cClaim_len X c 1 [.lit (.int .i64 6)] ⟨X[c].holder, 6, X[c].amount⟩ hcX (by simp) (by simp [cClaim, spl])
    refine ⟨_, wk_on (tbl 103 69 (ps1.set i (⟨q.1.cash, (X.set c ⟨X[c].holder, 6, X[c].amount⟩), q.1.agrs⟩, q.2))) [1, 2, 4, 5, 6, 9, 10, 11, 19, 20, 21] [10, 49, 502, 504] (tbl_sub (fun a r hr => ?tq14) _), q.1.claims.length - (c + 1), by omega, c + 1, (X.set c ⟨X[c].holder, 6, X[c].amount⟩), ?na14, by omega, rfl, by rw [List.length_set]; exact hXl, hst9, ?st14⟩
    case st14 => (simp only [(id F_lLate), seval, F9, ← Nat.add_assoc, Int.natCast_add]; first | rfl | (simp; done))
    case tq14 =>
     by_cases hai : a = i
     ·
      subst hai
      rw [List.getElem?_set_self hil] at hr
      obtain rfl := Option.some.inj hr
      simp only [up_apply, ← hb9, if_true, List.length_set]
      rw [hset9, hXl]
     rw [List.getElem?_set_ne (fun h => hai h.symm)] at hr
     simp only [up_apply]
     repeat rw [if_neg (by omega)]
     exact tbl_at (by decide) (by rw [List.getElem?_set_ne (fun h => hai h.symm)]; exact hr)
   have yx2 : ¬ lateB bits (k + c) = 2 := by omega
   refine awR [] [none, none] ?_
   simp only [(id F_lLate), seval, hlt0, hlt1, x2, yx2]
   repeat refine ob ?_
   refine awF ?_
   by_cases x3 : ((lateB bits (k + c) : Nat) : Int) = 3
   ·
    have yx3 : lateB bits (k + c) = 3 := by omega
    refine awR [] [none, none] ?_
    simp only [(id F_lLate), seval, hlt0, hlt1, x2, yx2, x3, yx3]
    repeat refine ob ?_
    refine awT ?_
    refine awR [] [none, none, none, none, none, none, none, none, none, none] ?_
    simp only [(id F_lLate), seval, hlt0, hlt1, x2, yx2, x3, yx3, hget, F9, htX, hXl]
    repeat refine ob ?_
    refine awR [] [none, none, none] ?_
    simp only [(id F_lLate), seval, hlt0, hlt1, x2, yx2, x3, yx3]
    repeat refine ob ?_
    refine awR [] [none, none] ?_
    simp only [(id F_lLate), seval, hlt0, hlt1, x2, yx2, x3, yx3]
    repeat refine ob ?_
    repeat refine ob ?_
    have hx9 : lateC bits (k + c) X[c] = ⟨X[c].holder, 7, X[c].amount⟩ := by unfold lateC; simp [yx2, yx3]
    have hst9 := late_step bits X _ c (k + c) hcX hLX
    rw [hx9] at hst9
    have hset9 := flat_setf cClaim_len X c 1 [.lit (.int .i64 7)] ⟨X[c].holder, 7, X[c].amount⟩ hcX (by simp) (by simp [cClaim, spl])
    refine ⟨_, wk_on (tbl 103 69 (ps1.set i (⟨q.1.cash, (X.set c ⟨X[c].holder, 7, X[c].amount⟩), q.1.agrs⟩, q.2))) [1, 2, 4, 5, 6, 9, 10, 11, 19, 20, 21] [10, 49, 502, 504] (tbl_sub (fun a r hr => ?tq20) _), q.1.claims.length - (c + 1), by omega, c + 1, (X.set c ⟨X[c].holder, 7, X[c].amount⟩), ?na20, by omega, rfl, by rw [List.length_set]; exact hXl, hst9, ?st20⟩
    case st20 => (simp only [(id F_lLate), seval, F9, ← Nat.add_assoc, Int.natCast_add]; first | rfl | (simp; done))
    case tq20 =>
     by_cases hai : a = i
     ·
      subst hai
      rw [List.getElem?_set_self hil] at hr
      obtain rfl := Option.some.inj hr
      simp only [up_apply, ← hb9, if_true, List.length_set]
      rw [hset9, hXl]
     rw [List.getElem?_set_ne (fun h => hai h.symm)] at hr
     simp only [up_apply]
     repeat rw [if_neg (by omega)]
     exact tbl_at (by decide) (by rw [List.getElem?_set_ne (fun h => hai h.symm)]; exact hr)
   have yx3 : ¬ lateB bits (k + c) = 3 := by omega
   refine awR [] [none, none] ?_
   simp only [(id F_lLate), seval, hlt0, hlt1, x2, yx2, x3, yx3]
   repeat refine ob ?_
   refine awF ?_
   refine awK ?_
   simp only [(id F_lLate), seval]
   refine awR [] [none, none, none] ?_
   simp only [(id F_lLate), seval, hlt0, hlt1, x2, yx2, x3, yx3]
   repeat refine ob ?_
   refine awR [] [none, none] ?_
   simp only [(id F_lLate), seval, hlt0, hlt1, x2, yx2, x3, yx3]
   repeat refine ob ?_
   repeat refine ob ?_
   have hx9 : lateC bits (k + c) X[c] = X[c] := by unfold lateC; simp [yx2, yx3]
   have hst9 := late_step bits X _ c (k + c) hcX hLX
   rw [hx9] at hst9
   rw [List.set_getElem_self] at hst9
   refine ⟨_, wk_on (tbl 103 69 (ps1.set i (⟨q.1.cash, X, q.1.agrs⟩, q.2))) [1, 2, 4, 5, 6, 9, 10, 11, 19, 20, 21] [10, 49, 502, 504] (by intro y B h; obtain ⟨a, r, rfl, h2, h3⟩ := tbl_some h; right; simp only [up_apply]; (repeat rw [if_neg (by omega)]); exact h), q.1.claims.length - (c + 1), by omega, c + 1, X, ?na24, by omega, rfl, hXl, hst9, ?st24⟩
   case st24 => (simp only [(id F_lLate), seval, ← Nat.add_assoc, Int.natCast_add]; first | rfl | (simp; done))
  refine awR [] [none] ?_
  simp only [(id F_lLate), seval, hlt0, hlt1]
  repeat refine ob ?_
  refine awF ?_
  refine awQ ?_
  simp only [(id F_lLate), seval]
  obtain rfl : c = q.1.claims.length := by omega
  have hXX : X = lateL bits q.1.claims k := by rw [← hXl, List.take_length, List.drop_length] at hLX; simpa [lateL] using hLX
  refine awR [] [none, none] ?_
  simp only [(id F_lLate), seval, hlt0, hlt1]
  repeat refine ob ?_
  repeat refine ob ?_
  refine ⟨_, wk_on (tbl 103 69 (ps1.set i (⟨q.1.cash, X, q.1.agrs⟩, q.2))) [1, 2, 4, 5, 9, 10, 11] [10, 49, 502, 504] (by intro y B h; obtain ⟨a, r, rfl, h2, h3⟩ := tbl_some h; right; simp only [up_apply]; (repeat rw [if_neg (by omega)]); exact h), n9 - (i + 1), by omega, i + 1, k + q.1.claims.length, (ps1.set i (⟨q.1.cash, X, q.1.agrs⟩, q.2)), ?na27, by omega, rfl, ?hm27, ?hr27, ?hk27, ?hc27, by rw [List.length_set]; exact hpl, ?st27⟩
  case st27 => (simp only [(id F_lLate), seval]; first | rfl | (simp; done))
  case hm27 =>
   have h1 := lateE_step bits (ps1.map (·.1)) _ i k (by rw [List.length_map]; exact hil) hL0
   have h2 : (ps1.map (·.1))[i]'(by rw [List.length_map]; exact hil) = q.1 := by rw [List.getElem_map, hq0]
   rw [h2] at h1
   rw [List.map_set, hXX]
   exact h1
  case hr27 => rw [eRw_same (fOwn 103) ps1 i q (⟨q.1.cash, X, q.1.agrs⟩, q.2) hq rfl rfl (by simp [fOwn, hXl])]; exact hrow
  case hk27 => have := hcm q (List.mem_of_getElem? hq); rw [Nat.mul_add]; omega
  case hc27 =>
   intro r hr
   rcases List.mem_or_eq_of_mem_set hr with h | rfl
   ·
    exact hcm r h
   show X.length ≤ 1000
   rw [hXl]; exact hcm q (List.mem_of_getElem? hq)
 refine awR [] [none] ?_
 simp only [(id F_lLate), seval, hlt0]
 repeat refine ob ?_
 refine awF ?_
 refine awQ ?_
 simp only [(id F_lLate), seval]
 refine awR [] [none, none] ?_
 simp only [(id F_lLate), seval, hlt0]
 repeat refine ob ?_
 obtain rfl : i = n9 := by omega
 refine awp_on (tbl 103 69 ps1) [4] [10, 49, 504] (by intro y B h; obtain ⟨a, r, rfl, h2, h3⟩ := tbl_some h; right; simp only [up_apply]; (repeat rw [if_neg (by omega)]); exact h) ?_
 simp only [(id F_lLate), seval]
 refine awX ?_
 simp only [(id F_lLate), seval]
 have hE : ps1.map (·.1) = lateE bits (ps.map (·.1)) 0 := by
  rw [← hL0, List.take_of_length_le (by rw [List.length_map, hpl]; exact Nat.le_refl _), List.drop_eq_nil_of_le (by rw [List.length_map, hpl]; exact Nat.le_refl _)]
  simp [lateE]
 refine ⟨ps1, ny + 1, hE, hpl, ?_⟩
 rw [hrow]
end Go.Proofs.YtogeijhepjcbgaaGreatDoor
end
section
/- The arithmetic of both sides as contracts on plain data. -/
namespace Go.Proofs.YtogeijhepjcbgaaGreatDoor
open Go Go.RowKit
theorem aAdd (r1 r2 : GRat) (m n : Nat) (h1 : sB m r1) (h2 : sB n r2) (hm : m ≤ 100000000000) (hn : n ≤ 100000000000) (hm0 : 0 < m) (hn0 : 0 < n) : ACall Tryz.prog 68 [.agg (cRat r1), .agg (cRat r2)] (.val (.agg (cRat (enc (qOf r1 + qOf r2))))) :=
  acall_flat (fnOK_of Tryz.func68 (by decide) (by kernel_rfl)) [vRat r1, vRat r2] (vRat (enc (qOf r1 + qOf r2))) fun w => qAdd_any r1 r2 m n w h1 h2 hm hn hm0 hn0
theorem bPlus (p q : Rat) (m n : Nat) (hp : qB m p) (hq : qB n q) (hm : m ≤ 100000000000) (hn : n ≤ 100000000000) : ACall Tryz.prog 69 [.agg (cRat (enc p)), .agg (cRat (enc q))] (.val (.agg (cRat (enc (p + q))))) :=
  acall_flat (fnOK_of Tryz.func69 (by decide) (by kernel_rfl)) [vRat (enc p), vRat (enc q)] (vRat (enc (p + q))) fun w => rPlus_any p q m n w hp hq hm hn
theorem bMinus (p q : Rat) (m n : Nat) (hp : qB m p) (hq : qB n q) (hm : m ≤ 100000000000) (hn : n ≤ 100000000000) : ACall Tryz.prog 72 [.agg (cRat (enc p)), .agg (cRat (enc q))] (.val (.agg (cRat (enc (p - q))))) :=
  acall_flat (fnOK_of Tryz.func72 (by decide) (by kernel_rfl)) [vRat (enc p), vRat (enc q)] (vRat (enc (p - q))) fun w => rMinus_any p q m n w hp hq hm hn
theorem bFix (r : GRat) (h1 : r.num.size ≤ 500000000000) (h2 : r.den.size ≤ 500000000000) : ACall Tryz.prog 70 [.agg (cRat r)] (.val (.agg (cRat (enc (qOf r))))) :=
  acall_flat (fnOK_of Tryz.func70 (by decide) (by kernel_rfl)) [vRat r] (vRat (enc (qOf r))) fun w => rFix_any r w h1 h2
theorem bSignum (r : GRat) : ACall Tryz.prog 71 [.agg (cRat r)] (one (.int .i64 (sgnZ r))) :=
  acall_flat (fnOK_of Tryz.func71 (by decide) (by kernel_rfl)) [vRat r] (.int .i64 (sgnZ r)) fun w => Signum_any r w
theorem sgnZ_sub (p q : Rat) : sgnZ (enc (p - q)) = qCmp p q := by
  have h := sgnZ_enc (p - q)
  rw [h]
  unfold qSgn qCmp
  have h1 : p - q < 0 ↔ p < q := by grind
  have h2 : 0 < p - q ↔ q < p := by grind
  simp only [h1, h2]
def F_rCmp := And.intro zS (tf38)
set_option maxRecDepth 100000 in
set_option maxHeartbeats 4000000 in
theorem bCompare (r1 r2 : GRat) (m n : Nat) (h1 : sB m r1) (h2 : sB n r2) (hm : m ≤ 100000000000) (hn : n ≤ 100000000000) (hm0 : 0 < m) (hn0 : 0 < n) : ACall Tryz.prog 39 [.agg (cRat r1), .agg (cRat r2)] (one (.int .i64 (qCmp (qOf r1) (qOf r2)))) := by
 refine acall_of Tryz.func39 rfl (by decide) (N := 11) rfl (by simp) (R := [.tmp 4]) rfl fun en k0 => ?_
 refine awR [] [none, none, none] ?_
 simp only [(id F_rCmp), seval, cRat]
 repeat refine ob ?_
 refine awD (scq [1, 5, 2, 6, 8, 10, 13] .nil) [none, none, none, none, none, none, none] ?_
 simp only [(id F_rCmp), seval, cRat]
 repeat refine ob ?_
 refine ⟨_, (bFix r1 (by have := h1.1; omega) (by have := h1.2; omega)), rfl, ?_⟩
 try unfold Later
 try simp only [(id F_rCmp), seval, cRat]
 repeat refine ob ?_
 refine ⟨_, (bFix r2 (by have := h2.1; omega) (by have := h2.2; omega)), rfl, ?_⟩
 try unfold Later
 try simp only [(id F_rCmp), seval, cRat]
 repeat refine ob ?_
 refine ⟨_, (bMinus (qOf r1) (qOf r2) m n (h1.qB hm0) (h2.qB hn0) hm hn), rfl, ?_⟩
 try unfold Later
 try simp only [(id F_rCmp), seval, cRat]
 repeat refine ob ?_
 refine ⟨_, (bSignum _), rfl, ?_⟩
 try unfold Later
 try simp only [(id F_rCmp), seval, cRat]
 repeat refine ob ?_
 refine awX ?_
 (first | (simp only [(id F_rCmp), seval, cRat, sgnZ_sub]; done) | (simp only [(id F_rCmp), seval, cRat]; first | (simp [sgnZ_sub]; done)))
def F_rAdd := And.intro zS (And.intro tf38 (tf88))
set_option maxRecDepth 100000 in
set_option maxHeartbeats 4000000 in
theorem bAdd (r1 r2 : GRat) (m n : Nat) (h1 : sB m r1) (h2 : sB n r2) (hm : m ≤ 100000000000) (hn : n ≤ 100000000000) (hm0 : 0 < m) (hn0 : 0 < n) : ACall Tryz.prog 38 [.agg (cRat r1), .agg (cRat r2)] (.val (.agg (cRat (enc (qOf r1 + qOf r2))))) := by
 refine acall_of Tryz.func38 rfl (by decide) (N := 10) rfl (by simp) (R := [.cell 4 44]) rfl fun en k0 => ?_
 refine awR [] [none, none, none] ?_
 simp only [(id F_rAdd), seval, cRat]
 repeat refine ob ?_
 refine awD (scq [1, 5, 2, 6, 8, 10] .nil) [none, none, none, none, none, none] ?_
 simp only [(id F_rAdd), seval, cRat]
 repeat refine ob ?_
 refine ⟨_, (bFix r1 (by have := h1.1; omega) (by have := h1.2; omega)), rfl, ?_⟩
 try unfold Later
 try simp only [(id F_rAdd), seval, cRat]
 repeat refine ob ?_
 refine ⟨_, (bFix r2 (by have := h2.1; omega) (by have := h2.2; omega)), rfl, ?_⟩
 try unfold Later
 try simp only [(id F_rAdd), seval, cRat]
 repeat refine ob ?_
 refine ⟨_, (bPlus (qOf r1) (qOf r2) m n (h1.qB hm0) (h2.qB hn0) hm hn), rfl, ?_⟩
 try unfold Later
 try simp only [(id F_rAdd), seval, cRat]
 repeat refine ob ?_
 refine awX ?_
 (first | (simp only [(id F_rAdd), seval, cRat]; done) | (simp only [(id F_rAdd), seval, cRat]; first | (simp []; done)))
end Go.Proofs.YtogeijhepjcbgaaGreatDoor
end
