/- The waterfall: the next kink; Slopes and Next for an estate; walked by the abstract machine. -/
import Derived.Test.YtokmkopihhnggaaGreatDoorWs2M
import Derived.Test.YtokmkopihhnggaaGreatDoorWq1M
import Derived.Test.YtokmkopihhnggaaGreatDoorWp7M
import Derived.Test.YtokmkopihhnggaaGreatDoorWe1M
set_option linter.unusedVariables false
set_option linter.unusedSimpArgs false
set_option linter.defProp false
namespace Go.Proofs.YtokmkopihhnggaaGreatDoor
open Go Go.RowKit
def eqR : List Rat → List Rat → Bool
 | x :: l, y :: k => if x = y then eqR l k else false
 | _, _ => true
theorem eqR_cons (x y : Rat) (l k : List Rat) : eqR (x :: l) (y :: k) = if x = y then eqR l k else false := rfl
theorem eqR_nil (k : List Rat) : eqR [] k = true := by cases k <;> rfl
theorem eqR_iff : ∀ {l k : List Rat}, l.length = k.length → (eqR l k = true ↔ l = k)
 | [], [], _ => by simp [eqR]
 | x :: l, y :: k, h => by
  have h1 := eqR_iff (l := l) (k := k) (by simpa using h)
  rw [eqR]
  split
  ·rename_i e; rw [h1, e]; simp
  rename_i e; simp [e]
noncomputable def nxR (o : Option Rat) : AV := .tup [.agg (cRat (enc (o.getD 0))), .one (.lit (.bool o.isSome))]
noncomputable def slR (e : GEst) (m : Rat) : AV := .tup [.one (if wcSpec e = 0 then .sh 3 e.claims.length (flat cQ (wSlo (wLay e) m).cl) else .lit (.slice none 0 0)), .agg (cRat (enc (if wcSpec e = 0 then (wSlo (wLay e) m).rv else 0))), .one (.lit (.int .i64 (wcSpec e)))]
noncomputable def neR (e : GEst) (m : Rat) : AV := .tup [.agg (cRat (enc (if wcSpec e = 0 then (wNext (wLay e) m).getD 0 else 0))), .one (.lit (.bool (decide (wcSpec e = 0) && (wNext (wLay e) m).isSome))), .one (.lit (.int .i64 (wcSpec e)))]
def F40 := And.intro zS (And.intro tf50 (And.intro tf51 (tf18)))
set_option maxRecDepth 100000 in
set_option maxHeartbeats 4000000 in
theorem eqRats_A (l k : List Rat) (n9 : Nat) (hl : l.length = n9) (hk : k.length = n9) (hn : n9 ≤ 1000000) : ACall Tryz.prog 140 [.one (.sh 3 n9 (flat cQ l)), .one (.sh 3 n9 (flat cQ k))] (one (.bool (eqR l k))) := by
 subst hl
 refine acall_of Tryz.func140 rfl (by decide) (N := 26) rfl (by simp) (R := [.tmp 4]) rfl fun en k0 => ?_
 refine awN ?_
 simp only [(id F40), seval, cRat]
 repeat refine ob ?_
 refine awN ?_
 simp only [(id F40), seval, cRat, hk]
 repeat refine ob ?_
 refine awF ?_
 refine awK ?_
 simp only [(id F40), seval]
 refine awN ?_
 simp only [(id F40), seval, cRat]
 repeat refine ob ?_
 refine awp_keep [0, 1, 12, 13] [] ?_
 try unfold Later
 try simp only [(id F40), seval, cRat]
 repeat' first|apply awS|apply awB
 refine awp_loopw (fun n st => ∃ i0 nx, i0 ≤ l.length ∧ n = l.length - i0 ∧ eqR (l.drop i0) (k.drop i0) = eqR l (k.drop 0) ∧ st = ⟨mkT [(0, .val (.one (.sh 3 l.length (flat cQ l)))), (1, .val (.one (.sh 3 l.length (flat cQ k)))), (12, one (.int .i64 l.length)), (13, one (.int .i64 i0))], mkH [], nx, 0⟩) (l.length) ⟨0, _, by omega, by omega, by rfl, rfl⟩ ?_
 rintro n0 st ⟨i0, nx0, hk0, rfl, hL0, rfl⟩
 by_cases hlt0 : i0 < l.length
 ·
  have hI0 : (i0 : Int) < (l.length : Int) := by omega
  have hat0 := flat_at cQ_len l i0 hlt0
  try rw [Nat.mul_one] at hat0
  rw [List.drop_eq_getElem_cons hlt0] at hL0
  have hik : i0 < k.length := by omega
  have hatk := flat_at cQ_len k i0 hik
  simp only [cQ, cRat] at hatk
  rw [List.drop_eq_getElem_cons hik] at hL0
  generalize l[i0] = x at *
  simp only [eqR_cons, eqR_nil] at hL0
  refine awN ?_
  simp only [(id F40), seval, cRat, hI0, hat0]
  repeat refine ob ?_
  refine awT ?_
  refine awK ?_
  simp only [(id F40), seval]
  refine awN ?_
  simp only [(id F40), seval, cRat, hI0, hat0]
  repeat refine ob ?_
  by_cases heq : x = k[i0]
  ·
   have q3 : decide (x = k[i0]) = true := by simp [heq]
   have q1 := EqOK_two (enc x) (enc k[i0])
   have q2 := eqVs_two x k[i0]
   refine awD (scT 0 9 .nil) [none, none, none, none, none, none, none, none, none] ?_
   simp only [(id F40), seval, cRat, hI0, hat0, q3, hat0, hatk, cQ, q1, q2]
   repeat refine ob ?_
   refine awF ?_
   refine awK ?_
   simp only [(id F40), seval]
   refine awN ?_
   simp only [(id F40), seval, cRat, hI0, hat0, q3]
   repeat refine ob ?_
   repeat refine ob ?_
   refine ⟨_, wk_keep [0, 1, 12, 13] [], l.length - (i0 + 1), by omega, i0 + 1, ?a7_nx, by omega, rfl, ?i7_0, ?st7⟩
   case st7 => (simp only [(id F40), seval, cRat, hI0, hat0, q3]; first | rfl | (simp [hI0, hat0, q3, Nat.add_mul]; done))
   case i7_0 => (rw [if_pos heq, List.drop_zero] at hL0; exact hL0)
  have q3 : decide (x = k[i0]) = false := by simp [heq]
  have q1 := EqOK_two (enc x) (enc k[i0])
  have q2 := eqVs_two x k[i0]
  refine awD (scT 0 9 .nil) [none, none, none, none, none, none, none, none, none] ?_
  simp only [(id F40), seval, cRat, hI0, hat0, q3, hat0, hatk, cQ, q1, q2]
  repeat refine ob ?_
  refine awT ?_
  refine awN ?_
  simp only [(id F40), seval, cRat, hI0, hat0, q3]
  repeat refine ob ?_
  refine awX ?_
  try simp only [(id F40), seval]
  have h9 : eqR l k = false := by rw [List.drop_zero, if_neg heq] at hL0; exact hL0.symm
  rw [h9]
 obtain rfl : i0 = l.length := by omega
 have hI0 : ¬ (l.length : Int) < (l.length : Int) := by omega
 rw [List.drop_length] at hL0
 simp only [eqR_cons, eqR_nil] at hL0
 refine awN ?_
 simp only [(id F40), seval, cRat, hI0]
 repeat refine ob ?_
 refine awF ?_
 refine awQ ?_
 simp only [(id F40), seval]
 refine awN ?_
 simp only [(id F40), seval, cRat, hI0]
 repeat refine ob ?_
 refine awX ?_
 try simp only [(id F40), seval]
 have h9 : eqR l k = true := by rw [List.drop_zero] at hL0; exact hL0.symm
 rw [h9]
def F41 := And.intro zS (And.intro tf18 (And.intro tf76 (And.intro tf38 (tf39))))
set_option maxRecDepth 100000 in
set_option maxHeartbeats 4000000 in
theorem next_A (L : WL) (m : Rat) (K Sm M Z G K2 S2 Z2 : Nat) (hB : delB L K Sm M Z G K2 S2 Z2) (hM0 : 0 < M) (hMb : M ≤ 40000000) (hM : qB M m) (hm : 0 ≤ m) (hZ4 : Z2 ≤ 10000000000) (hU : ∀ x, 0 ≤ x → wOpen L.ranks x → qB M (x + wStep L x)) (hMu : ∀ x, 0 ≤ x → wOpen L.ranks x → wMu L (x + wStep L x) < wMu L x) (hPos : ∀ x, 0 ≤ x → wOpen L.ranks x → 0 < wStep L x) : ACall Tryz.prog 87 [.agg (cLay L), .agg (cRat (enc m))] (nxR (wNext L m)) := by
 obtain ⟨s0, hs0⟩ : ∃ s, wSlo L m = s := ⟨_, rfl⟩
 have hs0l : s0.cl.length = L.count := by rw [← hs0]; exact wSlo_len L m
 refine acall_of Tryz.func87 rfl (by decide) (N := 46) rfl (by simp) (R := [.cell 4 32, .tmp 5]) rfl fun en k0 => ?_
 refine awN ?_
 simp only [(id F41), seval, cRat, cLay]
 repeat refine ob ?_
 have hS0 := lSlo_A L m K Sm M Z G K2 S2 Z2 hB hM0 hM
 simp only [delR, hs0, cRat, cLay] at hS0
 refine awN ?_
 simp only [(id F41), seval, cRat, cLay, flat_pure cWT_pure, flat_pure cPool_pure, flat_pure cQ_pure]
 repeat refine ob ?_
 refine ⟨_, hS0, (by first | rfl | simp [allA, pure1, pureCs, pureC, A1.cells, flat_pure cWT_pure, flat_pure cPool_pure, flat_pure cQ_pure, cLay]), ?_⟩
 try unfold Later
 try simp only [(id F41), seval, cRat, cLay, flat_pure cWT_pure, flat_pure cPool_pure, flat_pure cQ_pure]
 repeat refine ob ?_
 refine awp_keep [2, 3, 4, 6, 7] [2, 3, 4, 7] ?_
 try unfold Later
 try simp only [(id F41), seval, cRat, cLay]
 repeat' first|apply awS|apply awB
 refine awp_loopw (fun n st => ∃ x nx, wMu L x < n ∧ wNextF L s0 n x = wNext L m ∧ qB M x ∧ 0 ≤ x ∧ st = ⟨mkT [(2, .val (.one (.ptr 2 0 0))), (3, .val (.one (.ptr 3 1 0))), (4, .val (.one (.ptr 4 2 0))), (6, .val (.one (.sh 3 L.count (flat cQ s0.cl)))), (7, .val (.one (.ptr 7 3 0)))], mkH [(2, ⟨0, 141, 6, 1, cLay L⟩), (3, ⟨1, 32, 3, 1, cRat (enc x)⟩), (4, ⟨2, 32, 3, 1, [.lit (.bool false), .lit (.string bEmpty), .lit (.string bEmpty)]⟩), (7, ⟨3, 32, 3, 1, cRat (enc s0.rv)⟩)], nx, 0⟩) (wMu L m + 1) ⟨m, _, Nat.lt_succ_self _, by rw [← hs0]; rfl, hM, hm, rfl⟩ ?_
 rintro n0 st ⟨x, nx0, hmu, hnx, hxB, hx0, rfl⟩
 obtain ⟨k0, rfl⟩ : ∃ k, n0 = k + 1 := ⟨n0 - 1, by omega⟩
 have hSt := step_A L x K Sm M Z G K2 S2 Z2 hB hM0 hxB hZ4
 simp only [stR, cRat, cLay] at hSt
 refine awN ?_
 simp only [(id F41), seval, cRat, cLay, flat_pure cWT_pure, flat_pure cPool_pure, flat_pure cQ_pure]
 repeat refine ob ?_
 refine ⟨_, hSt, (by first | rfl | simp [allA, pure1, pureCs, pureC, A1.cells, flat_pure cWT_pure, flat_pure cPool_pure, flat_pure cQ_pure, cLay]), ?_⟩
 try unfold Later
 try simp only [(id F41), seval, cRat, cLay, flat_pure cWT_pure, flat_pure cPool_pure, flat_pure cQ_pure]
 repeat refine ob ?_
 by_cases ho : wOpen L.ranks x
 ·
  refine awN ?_
  simp only [(id F41), seval, cRat, cLay, ho, decide_true, decide_false]
  repeat refine ob ?_
  refine awF ?_
  refine awK ?_
  simp only [(id F41), seval]
  have hx2 := hU x hx0 ho
  have hst : qB (M + M + 1) (wStep L x) := by have := hx2.sub hxB; rwa [show x + wStep L x - x = wStep L x by grind] at this
  have hAd := aAddQ x (wStep L x) _ _ hxB hst (by omega) (by omega)
  simp only [cRat] at hAd
  refine awN ?_
  simp only [(id F41), seval, cRat, cLay, ho]
  repeat refine ob ?_
  refine ⟨_, hAd, (by first | rfl | simp [allA, pure1, pureCs, pureC, A1.cells, flat_pure cWT_pure, flat_pure cPool_pure, flat_pure cQ_pure, cLay]), ?_⟩
  try unfold Later
  try simp only [(id F41), seval, cRat, cLay, ho]
  repeat refine ob ?_
  have hS1 := lSlo_A L (x + wStep L x) K Sm M Z G K2 S2 Z2 hB hM0 hx2
  simp only [delR, cRat, cLay] at hS1
  refine awN ?_
  simp only [(id F41), seval, cRat, cLay, ho, flat_pure cWT_pure, flat_pure cPool_pure, flat_pure cQ_pure]
  repeat refine ob ?_
  refine ⟨_, hS1, (by first | rfl | simp [allA, pure1, pureCs, pureC, A1.cells, flat_pure cWT_pure, flat_pure cPool_pure, flat_pure cQ_pure, cLay]), ?_⟩
  try unfold Later
  try simp only [(id F41), seval, cRat, cLay, ho, flat_pure cWT_pure, flat_pure cPool_pure, flat_pure cQ_pure]
  repeat refine ob ?_
  by_cases hrv : (wSlo L (x + wStep L x)).rv = s0.rv
  ·
   have q3 : decide ((wSlo L (x + wStep L x)).rv = s0.rv) = true := by simp [hrv]
   by_cases hcl : eqR (wSlo L (x + wStep L x)).cl s0.cl = true
   ·
    have q1 := EqOK_two (enc (wSlo L (x + wStep L x)).rv) (enc s0.rv)
    have q2 := eqVs_two (wSlo L (x + wStep L x)).rv s0.rv
    have hEq := eqRats_A (wSlo L (x + wStep L x)).cl s0.cl L.count (wSlo_len L _) hs0l (by have := hB.n; omega)
    refine awR [] [none, none, none, none, some (39, false), some (39, false), some (39, false), some (39, false), none] ?_
    simp only [(id F41), seval, cRat, cLay, ho, q3, hcl, flat_pure cWT_pure, flat_pure cPool_pure, flat_pure cQ_pure, q1, q2]
    repeat refine ob ?_
    refine ⟨_, hEq, (by first | rfl | simp [allA, pure1, pureCs, pureC, A1.cells, flat_pure cWT_pure, flat_pure cPool_pure, flat_pure cQ_pure, cLay]), ?_⟩
    try unfold Later
    try simp only [(id F41), seval, cRat, cLay, ho, q3, hcl, flat_pure cWT_pure, flat_pure cPool_pure, flat_pure cQ_pure, q1, q2]
    repeat refine ob ?_
    refine awF ?_
    refine awK ?_
    simp only [(id F41), seval]
    repeat refine ob ?_
    have hmu2 := hMu x hx0 ho
    refine ⟨_, wk_keep [2, 3, 4, 6, 7] [2, 3, 4, 7], k0, by omega, x + wStep L x, ?na, by omega, ?eq, hx2, ?pos, ?st⟩
    case st => (simp only [(id F41), seval, cRat, cLay, ho, hcl]; rfl)
    case eq => (rw [← hnx]; have h9 := (eqR_iff (by rw [wSlo_len, hs0l])).1 hcl; simp only [wNextF, ho, if_true, hrv, h9, and_self])
    case pos => (have := hPos x hx0 ho; grind)
   have q1 := EqOK_two (enc (wSlo L (x + wStep L x)).rv) (enc s0.rv)
   have q2 := eqVs_two (wSlo L (x + wStep L x)).rv s0.rv
   have hEq := eqRats_A (wSlo L (x + wStep L x)).cl s0.cl L.count (wSlo_len L _) hs0l (by have := hB.n; omega)
   refine awR [] [none, none, none, none, some (39, false), some (39, false), some (39, false), some (39, false), none] ?_
   simp only [(id F41), seval, cRat, cLay, ho, q3, hcl, flat_pure cWT_pure, flat_pure cPool_pure, flat_pure cQ_pure, q1, q2]
   repeat refine ob ?_
   refine ⟨_, hEq, (by first | rfl | simp [allA, pure1, pureCs, pureC, A1.cells, flat_pure cWT_pure, flat_pure cPool_pure, flat_pure cQ_pure, cLay]), ?_⟩
   try unfold Later
   try simp only [(id F41), seval, cRat, cLay, ho, q3, hcl, flat_pure cWT_pure, flat_pure cPool_pure, flat_pure cQ_pure, q1, q2]
   repeat refine ob ?_
   refine awT ?_
   refine awN ?_
   simp only [(id F41), seval, cRat, cLay, ho, q3, hcl]
   repeat refine ob ?_
   refine awX ?_
   have hno : wNext L m = some (x + wStep L x) := by rw [← hnx]; simp only [wNextF, ho, if_true]; rw [if_neg (fun h => hcl ((eqR_iff (by rw [wSlo_len, hs0l])).2 h.2))]
   simp only [(id F41), seval]
   simp [nxR, hno, cRat]
  have q3 : decide ((wSlo L (x + wStep L x)).rv = s0.rv) = false := by simp [hrv]
  have q1 := EqOK_two (enc (wSlo L (x + wStep L x)).rv) (enc s0.rv)
  have q2 := eqVs_two (wSlo L (x + wStep L x)).rv s0.rv
  have hEq := eqRats_A (wSlo L (x + wStep L x)).cl s0.cl L.count (wSlo_len L _) hs0l (by have := hB.n; omega)
  refine awR [] [none, none, none, none, some (39, false), some (39, false), some (39, false), some (39, false), none] ?_
  simp only [(id F41), seval, cRat, cLay, ho, q3, flat_pure cWT_pure, flat_pure cPool_pure, flat_pure cQ_pure, q1, q2]
  repeat refine ob ?_
  refine awT ?_
  refine awN ?_
  simp only [(id F41), seval, cRat, cLay, ho, q3]
  repeat refine ob ?_
  refine awX ?_
  have hno : wNext L m = some (x + wStep L x) := by rw [← hnx]; simp only [wNextF, ho, if_true]; rw [if_neg (fun h => hrv h.1)]
  simp only [(id F41), seval]
  simp [nxR, hno, cRat]
 refine awN ?_
 simp only [(id F41), seval, cRat, cLay, ho, decide_true, decide_false]
 repeat refine ob ?_
 refine awT ?_
 refine awN ?_
 simp only [(id F41), seval, cRat, cLay, ho]
 repeat refine ob ?_
 refine awX ?_
 have hno : wNext L m = none := by rw [← hnx]; simp only [wNextF, ho, if_false]
 simp only [(id F41), seval, ho]
 simp [nxR, hno, enc0_cells]
def F42 := And.intro zS (And.intro tf75 (And.intro tf18 (And.intro tf38 (tf39))))
set_option maxRecDepth 100000 in
set_option maxHeartbeats 4000000 in
theorem wSlopes_A (e : GEst) (m : GRat) (K M nc na : Nat) (hI : eIn e K M nc na) (hm : sB M m) : ACall Tryz.prog 41 [.agg (cEst e), .agg (cRat m)] (slR e (mPos m)) := by
 refine acall_of Tryz.func41 rfl (by decide) (N := 26) rfl (by simp) (R := [.tmp 4, .cell 5 32, .tmp 6]) rfl fun en k0 => ?_
 refine awN ?_
 simp only [(id F42), seval, cEst, cRat]
 repeat refine ob ?_
 have hC := wCheck_A e hI.ok
 refine awN ?_
 simp only [(id F42), seval, cEst, flat_pure cClaim_pure, flat_pure cAgr_pure]
 repeat refine ob ?_
 refine ⟨_, hC, (by first | rfl | simp [allA, pure1, pureCs, pureC, A1.cells, cLay, cRat, flat_pure cQ_pure, flat_pure cWT_pure, flat_pure cPool_pure]), ?_⟩
 try unfold Later
 try simp only [(id F42), seval, cEst, flat_pure cClaim_pure, flat_pure cAgr_pure]
 repeat refine ob ?_
 by_cases h0 : wcSpec e = 0
 ·
  refine awN ?_
  simp only [(id F42), seval, cEst, h0]
  repeat refine ob ?_
  refine awF ?_
  refine awK ?_
  simp only [(id F42), seval]
  have hW := wc_ok h0
  have hLay := Lay_A e K (K + 576 * (K + 1)) (by have := hW.n; omega) (by have := hW.an; omega) hW.cl.rk hI.s.2.1 hI.k0 (by have := hI.kb; omega) (wc_layB hW hI.s hI.k0 hI.kb)
  have hB := wc_delB hW hI.s hI.k0 hI.hnc hI.nc2 hI.hna hI.b
  have hP := positive_A m M hm hI.m0 (by have := hI.mb; omega)
  have hG := lSlo_A (wLay e) (mPos m) K (kS nc K) M (kZ nc K M) _ _ _ _ hB hI.m0 (mPos_B hm hI.m0)
  simp only [cRat, delR] at hG hP
  refine awD (scq [1, 5] (.two 1 8 (.two 3 8 (.two 4 8 (scq [11, 13, 15, 16, 19, 20] .nil) (scq [8, 11, 13, 15, 19, 20] .nil)) (scq [6, 8, 11, 13, 15, 19, 20] .nil)) (scq [2, 6, 8, 11, 13, 15, 19, 20] .nil))) [none, none, none, none, none, none, none, none, none, none, none] ?_
  simp only [(id F42), seval, cEst, h0, flat_pure cClaim_pure, flat_pure cAgr_pure, flat_pure cWT_pure, flat_pure cPool_pure, cLay, cRat, flat_pure cQ_pure]
  repeat refine ob ?_
  refine ⟨?_, ?_⟩
  ·
   repeat refine ob ?_
   refine ⟨_, hLay, (by first | rfl | simp [allA, pure1, pureCs, pureC, A1.cells, cLay, cRat, flat_pure cQ_pure, flat_pure cWT_pure, flat_pure cPool_pure]), ?_⟩
   try unfold Later
   try simp only [(id F42), seval, cEst, h0, flat_pure cClaim_pure, flat_pure cAgr_pure, flat_pure cWT_pure, flat_pure cPool_pure, cLay, cRat, flat_pure cQ_pure]
   repeat refine ob ?_
   refine ⟨?_, ?_⟩
   ·
    repeat refine ob ?_
    refine ⟨_, hP, (by first | rfl | simp [allA, pure1, pureCs, pureC, A1.cells, cLay, cRat, flat_pure cQ_pure, flat_pure cWT_pure, flat_pure cPool_pure]), ?_⟩
    try unfold Later
    try simp only [(id F42), seval, cEst, h0, flat_pure cClaim_pure, flat_pure cAgr_pure, flat_pure cWT_pure, flat_pure cPool_pure, cLay, cRat, flat_pure cQ_pure]
    repeat refine ob ?_
    refine ⟨?_, ?_⟩
    ·
     repeat refine ob ?_
     refine ⟨_, hG, (by first | rfl | simp [allA, pure1, pureCs, pureC, A1.cells, cLay, cRat, flat_pure cQ_pure, flat_pure cWT_pure, flat_pure cPool_pure]), ?_⟩
     try unfold Later
     try simp only [(id F42), seval, cEst, h0, flat_pure cClaim_pure, flat_pure cAgr_pure, flat_pure cWT_pure, flat_pure cPool_pure, cLay, cRat, flat_pure cQ_pure]
     repeat refine ob ?_
     refine awD (scq [1, 3, 5, 6, 9] .nil) [none, none, none, none, none] ?_
     simp only [(id F42), seval, cEst, h0, flat_pure cQ_pure]
     repeat refine ob ?_
     refine awX ?_
     simp only [(id F42), seval, flat_pure cQ_pure]
     simp [slR, h0, wLay, cRat]
    repeat refine ob ?_
    refine ⟨_, hG, (by first | rfl | simp [allA, pure1, pureCs, pureC, A1.cells, cLay, cRat, flat_pure cQ_pure, flat_pure cWT_pure, flat_pure cPool_pure]), ?_⟩
    try unfold Later
    try simp only [(id F42), seval, cEst, h0, flat_pure cClaim_pure, flat_pure cAgr_pure, flat_pure cWT_pure, flat_pure cPool_pure, cLay, cRat, flat_pure cQ_pure]
    repeat refine ob ?_
    refine awD (scq [1, 3, 5, 6, 9] .nil) [none, none, none, none, none] ?_
    simp only [(id F42), seval, cEst, h0, flat_pure cQ_pure]
    repeat refine ob ?_
    refine awX ?_
    simp only [(id F42), seval, flat_pure cQ_pure]
    simp [slR, h0, wLay, cRat]
   repeat refine ob ?_
   refine ⟨_, hP, (by first | rfl | simp [allA, pure1, pureCs, pureC, A1.cells, cLay, cRat, flat_pure cQ_pure, flat_pure cWT_pure, flat_pure cPool_pure]), ?_⟩
   try unfold Later
   try simp only [(id F42), seval, cEst, h0, flat_pure cClaim_pure, flat_pure cAgr_pure, flat_pure cWT_pure, flat_pure cPool_pure, cLay, cRat, flat_pure cQ_pure]
   repeat refine ob ?_
   refine ⟨_, hG, (by first | rfl | simp [allA, pure1, pureCs, pureC, A1.cells, cLay, cRat, flat_pure cQ_pure, flat_pure cWT_pure, flat_pure cPool_pure]), ?_⟩
   try unfold Later
   try simp only [(id F42), seval, cEst, h0, flat_pure cClaim_pure, flat_pure cAgr_pure, flat_pure cWT_pure, flat_pure cPool_pure, cLay, cRat, flat_pure cQ_pure]
   repeat refine ob ?_
   refine awD (scq [1, 3, 5, 6, 9] .nil) [none, none, none, none, none] ?_
   simp only [(id F42), seval, cEst, h0, flat_pure cQ_pure]
   repeat refine ob ?_
   refine awX ?_
   simp only [(id F42), seval, flat_pure cQ_pure]
   simp [slR, h0, wLay, cRat]
  repeat refine ob ?_
  refine ⟨_, hLay, (by first | rfl | simp [allA, pure1, pureCs, pureC, A1.cells, cLay, cRat, flat_pure cQ_pure, flat_pure cWT_pure, flat_pure cPool_pure]), ?_⟩
  try unfold Later
  try simp only [(id F42), seval, cEst, h0, flat_pure cClaim_pure, flat_pure cAgr_pure, flat_pure cWT_pure, flat_pure cPool_pure, cLay, cRat, flat_pure cQ_pure]
  repeat refine ob ?_
  refine ⟨_, hP, (by first | rfl | simp [allA, pure1, pureCs, pureC, A1.cells, cLay, cRat, flat_pure cQ_pure, flat_pure cWT_pure, flat_pure cPool_pure]), ?_⟩
  try unfold Later
  try simp only [(id F42), seval, cEst, h0, flat_pure cClaim_pure, flat_pure cAgr_pure, flat_pure cWT_pure, flat_pure cPool_pure, cLay, cRat, flat_pure cQ_pure]
  repeat refine ob ?_
  refine ⟨_, hG, (by first | rfl | simp [allA, pure1, pureCs, pureC, A1.cells, cLay, cRat, flat_pure cQ_pure, flat_pure cWT_pure, flat_pure cPool_pure]), ?_⟩
  try unfold Later
  try simp only [(id F42), seval, cEst, h0, flat_pure cClaim_pure, flat_pure cAgr_pure, flat_pure cWT_pure, flat_pure cPool_pure, cLay, cRat, flat_pure cQ_pure]
  repeat refine ob ?_
  refine awD (scq [1, 3, 5, 6, 9] .nil) [none, none, none, none, none] ?_
  simp only [(id F42), seval, cEst, h0, flat_pure cQ_pure]
  repeat refine ob ?_
  refine awX ?_
  simp only [(id F42), seval, flat_pure cQ_pure]
  simp [slR, h0, wLay, cRat]
 refine awN ?_
 simp only [(id F42), seval, cEst, h0]
 repeat refine ob ?_
 refine awT ?_
 refine awN ?_
 simp only [(id F42), seval, cEst, h0]
 repeat refine ob ?_
 refine awX ?_
 simp only [(id F42), seval]
 simp [slR, h0, enc0_cells]
def F43 := And.intro zS (And.intro tf75 (And.intro tf18 (And.intro tf38 (tf39))))
set_option maxRecDepth 100000 in
set_option maxHeartbeats 4000000 in
theorem wNext_A (e : GEst) (m : GRat) (K M nc na : Nat) (hI : eIn e K M nc na) (hm : sB M m) (hZ4 : kY nc K M ≤ 10000000000) (hkU : kU nc K ≤ M) (hb : kG nc K (kB nc K) ≤ 40000000 ∧ kY nc K (kB nc K) ≤ 40000000000 ∧ kG nc K (kB nc K) + (na * 600) * (kY nc K (kB nc K) + 1) ≤ 50000000000) : ACall Tryz.prog 37 [.agg (cEst e), .agg (cRat m)] (neR e (mPos m)) := by
 refine acall_of Tryz.func37 rfl (by decide) (N := 26) rfl (by simp) (R := [.cell 4 32, .tmp 5, .tmp 6]) rfl fun en k0 => ?_
 refine awN ?_
 simp only [(id F43), seval, cEst, cRat]
 repeat refine ob ?_
 have hC := wCheck_A e hI.ok
 refine awN ?_
 simp only [(id F43), seval, cEst, flat_pure cClaim_pure, flat_pure cAgr_pure]
 repeat refine ob ?_
 refine ⟨_, hC, (by first | rfl | simp [allA, pure1, pureCs, pureC, A1.cells, cLay, cRat, flat_pure cQ_pure, flat_pure cWT_pure, flat_pure cPool_pure]), ?_⟩
 try unfold Later
 try simp only [(id F43), seval, cEst, flat_pure cClaim_pure, flat_pure cAgr_pure]
 repeat refine ob ?_
 by_cases h0 : wcSpec e = 0
 ·
  refine awN ?_
  simp only [(id F43), seval, cEst, h0]
  repeat refine ob ?_
  refine awF ?_
  refine awK ?_
  simp only [(id F43), seval]
  have hW := wc_ok h0
  have hLay := Lay_A e K (K + 576 * (K + 1)) (by have := hW.n; omega) (by have := hW.an; omega) hW.cl.rk hI.s.2.1 hI.k0 (by have := hI.kb; omega) (wc_layB hW hI.s hI.k0 hI.kb)
  have hB := wc_delB hW hI.s hI.k0 hI.hnc hI.nc2 hI.hna hI.b
  have hP := positive_A m M hm hI.m0 (by have := hI.mb; omega)
  have heo := hW.eOK
  have hG := next_A (wLay e) (mPos m) K (kS nc K) M (kZ nc K M) _ _ _ _ hB hI.m0 hI.mb (mPos_B hm hI.m0) (mPos_nn m) hZ4 (fun x hx ho => (kS_le hW hI.s hI.k0 hI.hnc hI.nc2 hI.hna hb hx ho).mono hkU) (fun x hx ho => mu_step heo hx ho) (fun x _ ho => step_pos ho)
  simp only [cRat, nxR] at hG hP
  refine awD (scq [1, 5] (.two 1 8 (.two 3 8 (.two 4 8 (scq [11, 13, 15, 16, 18, 21] .nil) (scq [8, 11, 13, 15, 18, 21] .nil)) (scq [6, 8, 11, 13, 15, 18, 21] .nil)) (scq [2, 6, 8, 11, 13, 15, 18, 21] .nil))) [none, none, none, none, none, none, none, none, none, none, none] ?_
  simp only [(id F43), seval, cEst, h0, flat_pure cClaim_pure, flat_pure cAgr_pure, flat_pure cWT_pure, flat_pure cPool_pure, cLay, cRat, flat_pure cQ_pure]
  repeat refine ob ?_
  refine ⟨?_, ?_⟩
  ·
   repeat refine ob ?_
   refine ⟨_, hLay, (by first | rfl | simp [allA, pure1, pureCs, pureC, A1.cells, cLay, cRat, flat_pure cQ_pure, flat_pure cWT_pure, flat_pure cPool_pure]), ?_⟩
   try unfold Later
   try simp only [(id F43), seval, cEst, h0, flat_pure cClaim_pure, flat_pure cAgr_pure, flat_pure cWT_pure, flat_pure cPool_pure, cLay, cRat, flat_pure cQ_pure]
   repeat refine ob ?_
   refine ⟨?_, ?_⟩
   ·
    repeat refine ob ?_
    refine ⟨_, hP, (by first | rfl | simp [allA, pure1, pureCs, pureC, A1.cells, cLay, cRat, flat_pure cQ_pure, flat_pure cWT_pure, flat_pure cPool_pure]), ?_⟩
    try unfold Later
    try simp only [(id F43), seval, cEst, h0, flat_pure cClaim_pure, flat_pure cAgr_pure, flat_pure cWT_pure, flat_pure cPool_pure, cLay, cRat, flat_pure cQ_pure]
    repeat refine ob ?_
    refine ⟨?_, ?_⟩
    ·
     repeat refine ob ?_
     refine ⟨_, hG, (by first | rfl | simp [allA, pure1, pureCs, pureC, A1.cells, cLay, cRat, flat_pure cQ_pure, flat_pure cWT_pure, flat_pure cPool_pure]), ?_⟩
     try unfold Later
     try simp only [(id F43), seval, cEst, h0, flat_pure cClaim_pure, flat_pure cAgr_pure, flat_pure cWT_pure, flat_pure cPool_pure, cLay, cRat, flat_pure cQ_pure]
     repeat refine ob ?_
     refine awN ?_
     simp only [(id F43), seval, cEst, h0]
     repeat refine ob ?_
     refine awX ?_
     simp only [(id F43), seval]
     simp [neR, h0, cRat]
    repeat refine ob ?_
    refine ⟨_, hG, (by first | rfl | simp [allA, pure1, pureCs, pureC, A1.cells, cLay, cRat, flat_pure cQ_pure, flat_pure cWT_pure, flat_pure cPool_pure]), ?_⟩
    try unfold Later
    try simp only [(id F43), seval, cEst, h0, flat_pure cClaim_pure, flat_pure cAgr_pure, flat_pure cWT_pure, flat_pure cPool_pure, cLay, cRat, flat_pure cQ_pure]
    repeat refine ob ?_
    refine awN ?_
    simp only [(id F43), seval, cEst, h0]
    repeat refine ob ?_
    refine awX ?_
    simp only [(id F43), seval]
    simp [neR, h0, cRat]
   repeat refine ob ?_
   refine ⟨_, hP, (by first | rfl | simp [allA, pure1, pureCs, pureC, A1.cells, cLay, cRat, flat_pure cQ_pure, flat_pure cWT_pure, flat_pure cPool_pure]), ?_⟩
   try unfold Later
   try simp only [(id F43), seval, cEst, h0, flat_pure cClaim_pure, flat_pure cAgr_pure, flat_pure cWT_pure, flat_pure cPool_pure, cLay, cRat, flat_pure cQ_pure]
   repeat refine ob ?_
   refine ⟨_, hG, (by first | rfl | simp [allA, pure1, pureCs, pureC, A1.cells, cLay, cRat, flat_pure cQ_pure, flat_pure cWT_pure, flat_pure cPool_pure]), ?_⟩
   try unfold Later
   try simp only [(id F43), seval, cEst, h0, flat_pure cClaim_pure, flat_pure cAgr_pure, flat_pure cWT_pure, flat_pure cPool_pure, cLay, cRat, flat_pure cQ_pure]
   repeat refine ob ?_
   refine awN ?_
   simp only [(id F43), seval, cEst, h0]
   repeat refine ob ?_
   refine awX ?_
   simp only [(id F43), seval]
   simp [neR, h0, cRat]
  repeat refine ob ?_
  refine ⟨_, hLay, (by first | rfl | simp [allA, pure1, pureCs, pureC, A1.cells, cLay, cRat, flat_pure cQ_pure, flat_pure cWT_pure, flat_pure cPool_pure]), ?_⟩
  try unfold Later
  try simp only [(id F43), seval, cEst, h0, flat_pure cClaim_pure, flat_pure cAgr_pure, flat_pure cWT_pure, flat_pure cPool_pure, cLay, cRat, flat_pure cQ_pure]
  repeat refine ob ?_
  refine ⟨_, hP, (by first | rfl | simp [allA, pure1, pureCs, pureC, A1.cells, cLay, cRat, flat_pure cQ_pure, flat_pure cWT_pure, flat_pure cPool_pure]), ?_⟩
  try unfold Later
  try simp only [(id F43), seval, cEst, h0, flat_pure cClaim_pure, flat_pure cAgr_pure, flat_pure cWT_pure, flat_pure cPool_pure, cLay, cRat, flat_pure cQ_pure]
  repeat refine ob ?_
  refine ⟨_, hG, (by first | rfl | simp [allA, pure1, pureCs, pureC, A1.cells, cLay, cRat, flat_pure cQ_pure, flat_pure cWT_pure, flat_pure cPool_pure]), ?_⟩
  try unfold Later
  try simp only [(id F43), seval, cEst, h0, flat_pure cClaim_pure, flat_pure cAgr_pure, flat_pure cWT_pure, flat_pure cPool_pure, cLay, cRat, flat_pure cQ_pure]
  repeat refine ob ?_
  refine awN ?_
  simp only [(id F43), seval, cEst, h0]
  repeat refine ob ?_
  refine awX ?_
  simp only [(id F43), seval]
  simp [neR, h0, cRat]
 refine awN ?_
 simp only [(id F43), seval, cEst, h0]
 repeat refine ob ?_
 refine awT ?_
 refine awN ?_
 simp only [(id F43), seval, cEst, h0]
 repeat refine ob ?_
 refine awX ?_
 simp only [(id F43), seval]
 simp [neR, h0, enc0_cells]
theorem wSPools_B {L : WL} {K Sm M Z G K2 S2 Z2 : Nat} (hB : delB L K Sm M Z G K2 S2 Z2) (g : List Rat) {k : List Rat} (hk : ∀ x ∈ k, qB G x) (h0 : 0 < G) : ∀ (ps : List WPool) (R : WR) (w : Nat), (∀ p ∈ ps, p ∈ L.pools) → R.B (G + w * (Z2 + 1)) → (wSPools g k ps R).B (G + (w + pSum ps) * (Z2 + 1))
 | [], R, w, _, h => by simpa [wSPools, pSum] using h
 | p :: ps, R, w, hp, h => by
  have hpp := hB.pl p (hp p (by simp))
  have hpz := hB.pz p (hp p (by simp))
  have h1 := (wSlope_B hpp.1 (wTot g p.1) (wTot_B hk h0 p.1) h).mono (n := G + (w + wN p.2) * (Z2 + 1)) (by
   have h7 : wN p.2 * (K2 + (1 + p.1.length * (G + 1) + S2) + 1) ≤ wN p.2 * (Z2 + 1) := Nat.mul_le_mul_left _ (by omega)
   rw [Nat.add_mul]
   omega)
  have h2 := wSPools_B hB g hk h0 ps _ _ (fun q hq => hp q (by simp [hq])) h1
  rw [wSPools, pSum_cons, ← Nat.add_assoc]
  exact h2
theorem sloN_B {e : GEst} {M : Nat} (hI : eIn e 1 M 6 2) (h0 : wcSpec e = 0) (m : Rat) : (wSlo (wLay e) m).B (kD M) := by
 have hW := wc_ok h0
 have hB := wc_delB hW hI.s hI.k0 hI.hnc hI.nc2 hI.hna hI.b
 have hG : 0 < kG 6 1 M := by unfold kG; omega
 have hk := wRates_B hB hI.m0 m
 have h4 : (⟨wTake (wLay e).pools (wRates (wLay e) m), 0⟩ : WR).B (kG 6 1 M + 0 * (kY 6 1 M + 1)) := ⟨fun x hx => (wTake_B hG (wLay e).pools _ hk x hx).mono (by omega), qB_zero.mono (by omega)⟩
 have h5 := wSPools_B hB (wGross (wLay e) m) hk hG (wLay e).pools _ 0 (fun _ h => h) h4
 rw [Nat.zero_add] at h5
 refine h5.mono ?_
 have h1 := pSum_le hW e.agrs fun _ h => h
 have h2 : pSum (wLay e).pools ≤ 1200 := by
  have := hI.hna
  show pSum (e.agrs.map (wPool e.claims)) ≤ 1200
  omega
 have h3 : pSum (wLay e).pools * (kY 6 1 M + 1) ≤ 1200 * (kY 6 1 M + 1) := Nat.mul_le_mul_right _ h2
 unfold kD
 omega
theorem slo_len (e : GEst) (m : Rat) : (wSlo (wLay e) m).cl.length = e.claims.length := wSlo_len _ _
theorem kU_le : kU 6 1 ≤ 703900 := by decide
theorem kb_ok : kG 6 1 (kB 6 1) ≤ 40000000 ∧ kY 6 1 (kB 6 1) ≤ 40000000000 ∧ kG 6 1 (kB 6 1) + (2 * 600) * (kY 6 1 (kB 6 1) + 1) ≤ 50000000000 := by decide
theorem kink_B {e : GEst} {M : Nat} (hI : eIn e 1 M 6 2) (h0 : wcSpec e = 0) {x : Rat} (hx : 0 ≤ x) (ho : wOpen (wLay e).ranks x) : qB 703900 (x + wStep (wLay e) x) := by
 have hW := wc_ok h0
 exact (kS_le hW hI.s hI.k0 hI.hnc hI.nc2 hI.hna kb_ok hx ho).mono kU_le
theorem nextF_B {e : GEst} {U : Nat} (hU : ∀ x, 0 ≤ x → wOpen (wLay e).ranks x → qB U (x + wStep (wLay e) x)) (s : WR) : ∀ (n : Nat) (x y : Rat), 0 ≤ x → wNextF (wLay e) s n x = some y → qB U y
 | 0, _, _, _, h => by cases h
 | n + 1, x, y, hx, h => by
  by_cases ho : wOpen (wLay e).ranks x
  ·have hp := step_pos (e := e) ho
   simp only [wNextF, ho, if_true] at h
   split at h
   ·exact nextF_B hU s n _ y (by grind) h
   obtain rfl := Option.some.inj h
   exact hU x hx ho
  simp only [wNextF, ho, if_false] at h
  cases h
theorem next_B {e : GEst} {M : Nat} (hI : eIn e 1 M 6 2) (h0 : wcSpec e = 0) {m y : Rat} (hm : 0 ≤ m) (h : wNext (wLay e) m = some y) : qB 703900 y :=
 nextF_B (fun _ hx ho => kink_B hI h0 hx ho) _ _ m y hm h
theorem wNextN_A (e : GEst) (m : GRat) (hI : eIn e 1 704000 6 2) (hm : sB 704000 m) : ACall Tryz.prog 37 [.agg (cEst e), .agg (cRat m)] (neR e (mPos m)) :=
 wNext_A e m 1 704000 6 2 hI hm (by decide) (Nat.le_trans kU_le (by decide)) kb_ok

end Go.Proofs.YtokmkopihhnggaaGreatDoor
