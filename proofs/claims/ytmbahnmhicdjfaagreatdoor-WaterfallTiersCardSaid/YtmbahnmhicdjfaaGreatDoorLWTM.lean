/- WaterfallTiers: the law's own function; walked by the abstract machine. -/
import Derived.Test.YtmbahnmhicdjfaaGreatDoorWe1M
import Derived.Test.YtmbahnmhicdjfaaGreatDoorWq4M
import Derived.Test.YtmbahnmhicdjfaaGreatDoorAbWM
set_option linter.unusedVariables false
set_option linter.unusedSimpArgs false
set_option linter.defProp false
set_option linter.unnecessarySimpa false
/- WaterfallTiers: the law's own function; walked by the abstract machine. -/
namespace Go.Proofs.YtmbahnmhicdjfaaGreatDoor
open Go Go.RowKit
theorem uSel_len (p : N3) (x : Nat) : ∀ n i, (uSel p x n i).length ≤ n
  | 0, _ => Nat.le_refl _
  | n + 1, i => by
    have h1 := uSel_len p x n (i + 1)
    rw [uSel]
    split
    · simp only [List.length_cons]; omega
    omega
theorem zr3 : zrT Tryz.prog 79 = some [.int .u16 0, .int .u16 0, .int .u16 0] := by kernel_rfl
theorem ar3 : arT Tryz.prog 79 = some (3, 57, 1) := by kernel_rfl
def F_lWT := And.intro zS (And.intro tf1 (And.intro tf20 (And.intro tf21 (And.intro tf6 (And.intro tf98 (And.intro tf72 (And.intro tf2 (And.intro tf23 (And.intro tf24 (And.intro tf0 (And.intro tf99 (And.intro tf8 (And.intro tf27 (And.intro tf29 (And.intro tf30 (And.intro tf9 (And.intro tf10 (And.intro tf31 (And.intro tf32 (And.intro tf3 (And.intro tf53 (And.intro tf11 (And.intro tf18 (And.intro tf12 (And.intro tf82 (And.intro tf84 (And.intro tf5 (tf87))))))))))))))))))))))))))))
set_option maxRecDepth 100000 in
set_option maxHeartbeats 4000000 in
theorem lWT_A (list : List N4) (bits money : Nat) (hls : okSl okN4 list) (hbits : bits < 65536) (hm : money < 65536) : ACall Tryz.prog 8 [.one (.sh 4 list.length (flat cN4 list)), .one (.lit (.int .u16 bits)), .one (.lit (.int .u16 money))] (one (.bool true)) := by
 have hl1 : list.length ≤ 9223372036854775807 := Nat.le_trans hls.1 (by decide)
 refine acall_of Tryz.func8 rfl (by decide) (N := 142) rfl (by simp) (R := [.tmp 6]) rfl fun en k0 => ?_
 refine awR [] [none] ?_
 simp only [(id F_lWT), seval, cEst, cRat]
 repeat refine ob ?_
 have hE := est_A 0 list [⟨8, bits, 0⟩] (by decide) hls.2 (by simpa using hbits) hl1 (by simp)
 have hI := estN_in 0 list [⟨8, bits, 0⟩] (M := 1) (by decide) (by decide)
 have h0 := estN_wc 0 list [⟨8, bits, 0⟩]
 have heo := estN_eok 0 list [⟨8, bits, 0⟩]
 have hcn := (estN_ok 0 list [⟨8, bits, 0⟩]).2.2.1
 have hen := (estN_ok 0 list [⟨8, bits, 0⟩]).1.1
 have hea := estN_one 0 list ⟨8, bits, 0⟩ rfl (by show ¬ 8 / 8 % 4 = 0; decide)
 generalize estN 0 list [⟨8, bits, 0⟩] = e at *
 have hAm := aAmount money hm
 have hmB := amt_qB money
 have hm0 := amt_nonneg money
 generalize qAmt money = m at *
 have hD := wDeliver_A e (enc m) 1 1 6 2 hI (sB_enc hmB)
 rw [mPos_enc hm0] at hD
 simp only [dlR, h0, if_true, cEst, cRat] at hD
 have hdl : (wDel (wLay e) m).cl.length = e.claims.length := wDel_len _ _
 have hdB := delN_B hI h0 hmB
 have hT := tier_tP heo hea (m := m)
 have hF := wFr_ok (l := (wPool e.claims (uA ⟨8, bits, 0⟩ e.claims.length)).2) (wTot_nn (gross_nn heo.cl hm0) (wPool e.claims (uA ⟨8, bits, 0⟩ e.claims.length)).1)
 generalize wFr (wPool e.claims (uA ⟨8, bits, 0⟩ e.claims.length)).2 (wTot (wGross (wLay e) m) (wPool e.claims (uA ⟨8, bits, 0⟩ e.claims.length)).1) = F at *
 obtain ⟨l, rv, hlr⟩ : ∃ l rv, wDel (wLay e) m = ⟨l, rv⟩ := ⟨_, _, rfl⟩
 rw [hlr] at hD hdl hdB
 simp only [hlr] at hT
 simp only at hD hdl hdB
 have hAl : ∀ j (h : j < (uA ⟨8, bits, 0⟩ e.claims.length).length), (uA ⟨8, bits, 0⟩ e.claims.length)[j].length ≤ 6 := fun j h => by rw [uA_at, List.length_map]; have := uSel_len ⟨8, bits, 0⟩ (j + 1) e.claims.length 0; omega
 have hA3 : (uA ⟨8, bits, 0⟩ e.claims.length).length = 3 := rfl
 simp only [cRat] at hAm
 generalize hAe : uA ⟨8, bits, 0⟩ e.claims.length = A at *
 simp only [cEst] at hE
 repeat' first|apply awS|apply awB
 refine awp_arr [24] (gs := [none, none, none, none]) (by rfl) (by kernel_rfl) (by decide) rfl (by decide) (by rfl) trivial rfl (by decide) (by rfl) trivial rfl (by decide) rfl zr3 ar3 (by rfl) (by exact ⟨⟨rfl, Nat.le_of_ble_eq_true rfl⟩, ⟨rfl, Nat.le_of_ble_eq_true rfl⟩, ⟨rfl, Nat.le_of_ble_eq_true rfl⟩, trivial⟩) ?_
 simp only [(id F_lWT), seval, flat_pure cClaim_pure, flat_pure cAgr_pure, flat_pure cN4_pure, flat_pure cN3_pure, flat_pure cQ_pure, flat_pure cTier_pure, flat_pure cPart_pure, cEst]
 repeat refine ob ?_
 refine ⟨_, acallI_give (nm := 23) hE (by simp [allA, pure1, pureCs, pureC, A1.cells, flat_pure cClaim_pure, flat_pure cAgr_pure]) (by simp [pure1, pureCs, pureC, A1.cells, flat_pure cN4_pure, flat_pure cN3_pure]) (fun e σ w vs hW hx hd => ?_), ?_⟩
 ·
  obtain ⟨v1, vs1, rfl, d1, hd1⟩ := den1s_cons hd
  obtain ⟨v2, vs2, rfl, d2, hd2⟩ := den1s_cons hd1
  obtain ⟨v3, vs3, rfl, d3, hd3⟩ := den1s_cons hd2
  exact ⟨den1_ext hx d1, den1_ext hx d2, own_give (B := ⟨0, 79, 3, 1, flat cN3 [⟨8, bits, 0⟩]⟩) hW d3 (by rfl) rfl (by show (3 : Nat) ≠ 0; decide), (by cases vs3 with | nil => exact trivial | cons v vs => exact hd3.elim)⟩
 rintro res H' nx' ⟨rfl, rfl, rfl⟩
 simp only [(id F_lWT), seval, (id SD)]
 repeat refine ob ?_
 refine awp_cut2 (M := fun st => ∃ nx, st = ⟨mkT [(7, .val (.one (.ptr 7 1 0))), (8, .val (.one (.sh 3 e.claims.length (flat cQ l)))), (10, one (.int .i64 0))], mkH [(7, ⟨1, 36, 5, 1, cEst e⟩)], nx, 0⟩) ?_ ?_
 ·
  refine awD (scq [1, 3] (.two 2 8 (.two 3 8 (scq [9, 11, 13, 15, 16, 19, 20, 23] .nil) (scq [6, 9, 11, 13, 15, 19, 20, 23] .nil)) (scq [4, 6, 9, 11, 13, 15, 19, 20, 23] .nil))) [none, none, none, none, none, none, none, none, none, none, none, none] ?_
  simp only [(id F_lWT), seval, cEst, cRat, flat_pure cClaim_pure, flat_pure cAgr_pure, flat_pure cN4_pure, flat_pure cN3_pure, flat_pure cQ_pure, flat_pure cTier_pure, flat_pure cPart_pure]
  repeat refine ob ?_
  refine ⟨?_, ?_⟩
  ·
   repeat refine ob ?_
   refine ⟨_, hAm, (by first | rfl | simp [allA, pure1, pureCs, pureC, A1.cells, flat_pure cQ_pure, flat_pure cClaim_pure, flat_pure cAgr_pure]), ?_⟩
   try unfold Later
   try simp only [(id F_lWT), seval, cEst, cRat, flat_pure cClaim_pure, flat_pure cAgr_pure, flat_pure cN4_pure, flat_pure cN3_pure, flat_pure cQ_pure, flat_pure cTier_pure, flat_pure cPart_pure]
   repeat refine ob ?_
   refine ⟨?_, ?_⟩
   ·
    repeat refine ob ?_
    refine ⟨_, hD, (by first | rfl | simp [allA, pure1, pureCs, pureC, A1.cells, flat_pure cQ_pure, flat_pure cClaim_pure, flat_pure cAgr_pure]), ?_⟩
    try unfold Later
    try simp only [(id F_lWT), seval, cEst, cRat, flat_pure cClaim_pure, flat_pure cAgr_pure, flat_pure cN4_pure, flat_pure cN3_pure, flat_pure cQ_pure, flat_pure cTier_pure, flat_pure cPart_pure]
    repeat refine ob ?_
    intro zc zQ hM
    refine awp_wk (wk_keep [7, 8, 10] [7]) (hM _ ⟨?_, ?cs3⟩)
    case cs3 => (simp only [(id F_lWT), seval]; rfl)
   repeat refine ob ?_
   refine ⟨_, hD, (by first | rfl | simp [allA, pure1, pureCs, pureC, A1.cells, flat_pure cQ_pure, flat_pure cClaim_pure, flat_pure cAgr_pure]), ?_⟩
   try unfold Later
   try simp only [(id F_lWT), seval, cEst, cRat, flat_pure cClaim_pure, flat_pure cAgr_pure, flat_pure cN4_pure, flat_pure cN3_pure, flat_pure cQ_pure, flat_pure cTier_pure, flat_pure cPart_pure]
   repeat refine ob ?_
   intro zc zQ hM
   refine awp_wk (wk_keep [7, 8, 10] [7]) (hM _ ⟨?_, ?cs4⟩)
   case cs4 => (simp only [(id F_lWT), seval]; rfl)
  repeat refine ob ?_
  refine ⟨_, hAm, (by first | rfl | simp [allA, pure1, pureCs, pureC, A1.cells, flat_pure cQ_pure, flat_pure cClaim_pure, flat_pure cAgr_pure]), ?_⟩
  try unfold Later
  try simp only [(id F_lWT), seval, cEst, cRat, flat_pure cClaim_pure, flat_pure cAgr_pure, flat_pure cN4_pure, flat_pure cN3_pure, flat_pure cQ_pure, flat_pure cTier_pure, flat_pure cPart_pure]
  repeat refine ob ?_
  refine ⟨_, hD, (by first | rfl | simp [allA, pure1, pureCs, pureC, A1.cells, flat_pure cQ_pure, flat_pure cClaim_pure, flat_pure cAgr_pure]), ?_⟩
  try unfold Later
  try simp only [(id F_lWT), seval, cEst, cRat, flat_pure cClaim_pure, flat_pure cAgr_pure, flat_pure cN4_pure, flat_pure cN3_pure, flat_pure cQ_pure, flat_pure cTier_pure, flat_pure cPart_pure]
  repeat refine ob ?_
  intro zc zQ hM
  refine awp_wk (wk_keep [7, 8, 10] [7]) (hM _ ⟨?_, ?cs5⟩)
  case cs5 => (simp only [(id F_lWT), seval]; rfl)
 rintro st ⟨nx, rfl⟩
 have hfa : flat cAgr e.agrs = [.sh 1 A.length (flat cTier A)] := by rw [hea]; rfl
 have hla1 : (e.agrs.length : Int) = 1 := by rw [hea]; rfl
 refine awR [] [none, none, none, some (35, false), some (35, false), some (35, false), some (35, false), some (35, false), some (35, false), none, none, some (43, false), some (43, false), some (43, false), some (43, false), none] ?_
 simp only [(id F_lWT), seval, cEst, cRat, hla1]
 repeat refine ob ?_
 refine awF ?_
 refine awK ?_
 simp only [(id F_lWT), seval]
 refine awR [] [none, none, none, none, none, none] ?_
 simp only [(id F_lWT), seval, cEst, cRat, hfa, hla1]
 repeat refine ob ?_
 refine awR [] [none, none, none] ?_
 simp only [(id F_lWT), seval, cEst, cRat]
 repeat refine ob ?_
 refine awp_keep [7, 8, 11, 54, 55, 56] [7] ?_
 try unfold Later
 try simp only [(id F_lWT), seval, cEst, cRat]
 repeat' first|apply awS|apply awB
 refine awp_loopw (fun n st => ∃ i0 nx, i0 ≤ A.length ∧ n = A.length - i0 ∧ st = ⟨mkT [(7, .val (.one (.ptr 7 1 0))), (8, .val (.one (.sh 3 e.claims.length (flat cQ l)))), (11, .val (.one (.sh 1 A.length (flat cTier A)))), (54, .val (.one (.sh 1 A.length (flat cTier A)))), (55, one (.int .i64 A.length)), (56, one (.int .i64 i0))], mkH [(7, ⟨1, 36, 5, 1, [.lit (.bool e.cash.neg), .lit (.string e.cash.num), .lit (.string e.cash.den), .sh 5 e.claims.length (flat cClaim e.claims), .sh 1 e.agrs.length [.sh 1 A.length (flat cTier A)]]⟩)], nx, 0⟩) (A.length) ⟨0, _, by omega, by omega, rfl⟩ ?_
 rintro n0 st ⟨i0, nx0, hk0, rfl, rfl⟩
 by_cases hlt0 : i0 < A.length
 ·
  have hI0 : (i0 : Int) < (A.length : Int) := by omega
  have hat0 := flat_at cTier_len A i0 hlt0
  try rw [Nat.mul_one] at hat0
  have hTi := hT i0 hlt0
  have hti := hAl i0 hlt0
  generalize A[i0] = ti at *
  refine awR [] [none] ?_
  simp only [(id F_lWT), seval, cEst, cRat, hI0, hat0]
  repeat refine ob ?_
  refine awT ?_
  refine awK ?_
  simp only [(id F_lWT), seval]
  refine awR [] [none, none] ?_
  simp only [(id F_lWT), seval, cEst, cRat, hI0, hat0]
  repeat refine ob ?_
  refine awR [] [none, none, none] ?_
  simp only [(id F_lWT), seval, cEst, cRat, hI0, hat0]
  repeat refine ob ?_
  refine awp_keep [7, 8, 11, 54, 55, 56, 12, 60, 61] [7] ?_
  try unfold Later
  try simp only [(id F_lWT), seval, cEst, cRat, hI0, hat0]
  repeat' first|apply awS|apply awB
  refine awp_loopw (fun n st => ∃ i1 nx, i1 ≤ A.length ∧ n = A.length - i1 ∧ st = ⟨mkT [(7, .val (.one (.ptr 7 1 0))), (8, .val (.one (.sh 3 e.claims.length (flat cQ l)))), (11, .val (.one (.sh 1 A.length (flat cTier A)))), (54, .val (.one (.sh 1 A.length (flat cTier A)))), (55, one (.int .i64 A.length)), (56, one (.int .i64 i0)), (12, one (.int .i64 i0)), (60, one (.int .i64 A.length)), (61, one (.int .i64 i1))], mkH [(7, ⟨1, 36, 5, 1, [.lit (.bool e.cash.neg), .lit (.string e.cash.num), .lit (.string e.cash.den), .sh 5 e.claims.length (flat cClaim e.claims), .sh 1 e.agrs.length [.sh 1 A.length (flat cTier A)]]⟩)], nx, 0⟩) (A.length) ⟨0, _, by omega, by omega, rfl⟩ ?_
  rintro n1 st ⟨i1, nx1, hk1, rfl, rfl⟩
  by_cases hlt1 : i1 < A.length
  ·
   have hI1 : (i1 : Int) < (A.length : Int) := by omega
   have hat1 := flat_at cTier_len A i1 hlt1
   try rw [Nat.mul_one] at hat1
   have hTk := hT i1 hlt1
   have htk := hAl i1 hlt1
   generalize A[i1] = tk at *
   refine awR [] [none] ?_
   simp only [(id F_lWT), seval, cEst, cRat, hI0, hat0, hI1, hat1]
   repeat refine ob ?_
   refine awT ?_
   refine awK ?_
   simp only [(id F_lWT), seval]
   refine awR [] [none, none] ?_
   simp only [(id F_lWT), seval, cEst, cRat, hI0, hat0, hI1, hat1]
   repeat refine ob ?_
   refine awR [] [none, none, none, none, none, none] ?_
   simp only [(id F_lWT), seval, cEst, cRat, hI0, hat0, hI1, hat1, cTier]
   repeat refine ob ?_
   refine awp_keep [7, 8, 11, 54, 55, 56, 12, 60, 61, 13, 67, 68, 69] [7] ?_
   try unfold Later
   try simp only [(id F_lWT), seval, cEst, cRat, hI0, hat0, hI1, hat1]
   repeat' first|apply awS|apply awB
   refine awp_loopw (fun n st => ∃ i2 nx, i2 ≤ ti.length ∧ n = ti.length - i2 ∧ st = ⟨mkT [(7, .val (.one (.ptr 7 1 0))), (8, .val (.one (.sh 3 e.claims.length (flat cQ l)))), (11, .val (.one (.sh 1 A.length (flat cTier A)))), (54, .val (.one (.sh 1 A.length (flat cTier A)))), (55, one (.int .i64 A.length)), (56, one (.int .i64 i0)), (12, one (.int .i64 i0)), (60, one (.int .i64 A.length)), (61, one (.int .i64 i1)), (13, one (.int .i64 i1)), (67, .val (.one (.sh 5 ti.length (flat cPart ti)))), (68, one (.int .i64 ti.length)), (69, one (.int .i64 i2))], mkH [(7, ⟨1, 36, 5, 1, [.lit (.bool e.cash.neg), .lit (.string e.cash.num), .lit (.string e.cash.den), .sh 5 e.claims.length (flat cClaim e.claims), .sh 1 e.agrs.length [.sh 1 A.length (flat cTier A)]]⟩)], nx, 0⟩) (ti.length) ⟨0, _, by omega, by omega, rfl⟩ ?_
   rintro n2 st ⟨i2, nx2, hk2, rfl, rfl⟩
   by_cases hlt2 : i2 < ti.length
   ·
    have hI2 : (i2 : Int) < (ti.length : Int) := by omega
    have hat2 := flat_at cPart_len ti i2 hlt2
    try rw [Nat.mul_one] at hat2
    have hpa := hTi _ (List.getElem_mem hlt2)
    generalize ti[i2] = pa at *
    refine awR [] [none] ?_
    simp only [(id F_lWT), seval, cEst, cRat, hI0, hat0, hI1, hat1, hI2, hat2]
    repeat refine ob ?_
    refine awT ?_
    refine awK ?_
    simp only [(id F_lWT), seval]
    refine awR [] [none, none, none, none] ?_
    simp only [(id F_lWT), seval, cEst, cRat, hI0, hat0, hI1, hat1, hI2, hat2, cPart]
    repeat refine ob ?_
    refine awR [] [none, none, none, none, none, none] ?_
    simp only [(id F_lWT), seval, cEst, cRat, hI0, hat0, hI1, hat1, hI2, hat2, cTier]
    repeat refine ob ?_
    refine awp_keep [7, 8, 11, 54, 55, 56, 12, 60, 61, 13, 67, 68, 69, 15, 76, 77, 78] [7, 15] ?_
    try unfold Later
    try simp only [(id F_lWT), seval, cEst, cRat, hI0, hat0, hI1, hat1, hI2, hat2]
    repeat' first|apply awS|apply awB
    refine awp_loopw (fun n st => ∃ i3 nx, i3 ≤ tk.length ∧ n = tk.length - i3 ∧ st = ⟨mkT [(7, .val (.one (.ptr 7 1 0))), (8, .val (.one (.sh 3 e.claims.length (flat cQ l)))), (11, .val (.one (.sh 1 A.length (flat cTier A)))), (54, .val (.one (.sh 1 A.length (flat cTier A)))), (55, one (.int .i64 A.length)), (56, one (.int .i64 i0)), (12, one (.int .i64 i0)), (60, one (.int .i64 A.length)), (61, one (.int .i64 i1)), (13, one (.int .i64 i1)), (67, .val (.one (.sh 5 ti.length (flat cPart ti)))), (68, one (.int .i64 ti.length)), (69, one (.int .i64 i2)), (15, .val (.one (.ptr 15 nx2 0))), (76, .val (.one (.sh 5 tk.length (flat cPart tk)))), (77, one (.int .i64 tk.length)), (78, one (.int .i64 i3))], mkH [(7, ⟨1, 36, 5, 1, [.lit (.bool e.cash.neg), .lit (.string e.cash.num), .lit (.string e.cash.den), .sh 5 e.claims.length (flat cClaim e.claims), .sh 1 e.agrs.length [.sh 1 A.length (flat cTier A)]]⟩), (15, ⟨nx2, 46, 5, 1, cPart pa⟩)], nx, 0⟩) (tk.length) ⟨0, _, by omega, by omega, rfl⟩ ?_
    rintro n3 st ⟨i3, nx3, hk3, rfl, rfl⟩
    by_cases hlt3 : i3 < tk.length
    ·
     have hI3 : (i3 : Int) < (tk.length : Int) := by omega
     have hat3 := flat_at cPart_len tk i3 hlt3
     try rw [Nat.mul_one] at hat3
     have hpb := hTk _ (List.getElem_mem hlt3)
     generalize tk[i3] = pb at *
     refine awR [] [none] ?_
     simp only [(id F_lWT), seval, cEst, cRat, hI0, hat0, hI1, hat1, hI2, hat2, hI3, hat3]
     repeat refine ob ?_
     refine awT ?_
     refine awK ?_
     simp only [(id F_lWT), seval]
     obtain ⟨na, hna⟩ : ∃ n : Nat, pa.claim = (n : Int) := ⟨pa.claim.toNat, by have := hpa.lo; omega⟩
     obtain ⟨nb, hnb⟩ : ∃ n : Nat, pb.claim = (n : Int) := ⟨pb.claim.toNat, by have := hpb.lo; omega⟩
     have hca : na < e.claims.length := by have := hpa.hi; omega
     have hcb : nb < e.claims.length := by have := hpb.hi; omega
     have hla : na < l.length := by omega
     have hlb : nb < l.length := by omega
     have hQ := tiers_Q heo.cl hF hpa hpb hna hnb hca hcb hla hlb
     have hxas := (hcn _ (List.getElem_mem hca)).1
     have hxbs := (hcn _ (List.getElem_mem hcb)).1
     have hxae := (hcn _ (List.getElem_mem hca)).2
     have hatca := flat_at cClaim_len e.claims na hca
     have hatcb := flat_at cClaim_len e.claims nb hcb
     simp only [cClaim, cRat] at hatca hatcb
     have hatla := flat_at cQ_len l na hla
     have hatlb := flat_at cQ_len l nb hlb
     simp only [cQ, cRat] at hatla hatlb
     refine awR [] [none, none, none, none] ?_
     simp only [(id F_lWT), seval, cEst, cRat, hI0, hat0, hI1, hat1, hI2, hat2, hI3, hat3, cPart]
     repeat refine ob ?_
     refine awp_cut2 (M := fun st => ∃ s18 s19 nx, st = ⟨mkT [(7, .val (.one (.ptr 7 1 0))), (8, .val (.one (.sh 3 e.claims.length (flat cQ l)))), (11, .val (.one (.sh 1 A.length (flat cTier A)))), (54, .val (.one (.sh 1 A.length (flat cTier A)))), (55, one (.int .i64 A.length)), (56, one (.int .i64 i0)), (12, one (.int .i64 i0)), (60, one (.int .i64 A.length)), (61, one (.int .i64 i1)), (13, one (.int .i64 i1)), (67, .val (.one (.sh 5 ti.length (flat cPart ti)))), (68, one (.int .i64 ti.length)), (69, one (.int .i64 i2)), (15, .val (.one (.ptr 15 nx2 0))), (76, .val (.one (.sh 5 tk.length (flat cPart tk)))), (77, one (.int .i64 tk.length)), (78, one (.int .i64 i3)), (17, .val (.one (.ptr 17 nx3 0))), (18, .val (.one (.ptr 18 s18 0))), (19, .val (.one (.ptr 19 s19 0)))], mkH [(7, ⟨1, 36, 5, 1, [.lit (.bool e.cash.neg), .lit (.string e.cash.num), .lit (.string e.cash.den), .sh 5 e.claims.length (flat cClaim e.claims), .sh 1 e.agrs.length [.sh 1 A.length (flat cTier A)]]⟩), (15, ⟨nx2, 46, 5, 1, cPart pa⟩), (17, ⟨nx3, 46, 5, 1, cPart pb⟩), (18, ⟨s18, 32, 3, 1, cRat e.claims[na].amount⟩), (19, ⟨s19, 32, 3, 1, cRat e.claims[nb].amount⟩)], nx, 0⟩) ?_ ?_
     ·
      repeat' first|apply awS|apply awB
      refine awp_drawsW [] (by kernel_rfl) (.take 0 (.take 1 (.take 2 (.take 3 (.take 4 (.take 5 (.take 6 (.take 7 (.take 9 (.alt 8 (.alt 10 (.take 11 (.take 12 (.alt 13 (.alt 14 (.alt 15 (.alt 16 (.alt 17 .nil .none) .none) .none) (.alt 15 (.alt 14 (.alt 16 (.alt 17 .nil .none) .none) .none) .none)) (.alt 14 (.alt 13 (.alt 15 (.alt 16 (.alt 17 .nil .none) .none) .none) (.alt 15 (.alt 13 (.alt 16 (.alt 17 .nil .none) .none) (.alt 16 (.take 13 (.alt 17 .nil .none)) .none)) .none)) (.alt 15 (.alt 13 (.alt 14 (.alt 16 (.alt 17 .nil .none) .none) .none) (.alt 14 (.alt 13 (.alt 16 (.alt 17 .nil .none) .none) (.alt 16 (.take 13 (.alt 17 .nil .none)) .none)) .none)) .none))))) (.alt 14 (.alt 10 (.take 11 (.take 12 (.alt 13 (.alt 15 (.alt 16 (.alt 17 .nil .none) .none) .none) (.alt 15 (.alt 13 (.alt 16 (.alt 17 .nil .none) .none) (.alt 16 (.take 13 (.alt 17 .nil .none)) .none)) .none)))) (.alt 15 (.alt 10 (.take 11 (.take 12 (.alt 13 (.alt 16 (.alt 17 .nil .none) .none) (.alt 16 (.take 13 (.alt 17 .nil .none)) .none)))) (.alt 16 (.take 10 (.take 11 (.take 12 (.take 13 (.alt 17 .nil .none))))) .none)) .none)) (.alt 15 (.alt 10 (.take 11 (.take 12 (.alt 13 (.alt 14 (.alt 16 (.alt 17 .nil .none) .none) .none) (.alt 14 (.alt 13 (.alt 16 (.alt 17 .nil .none) .none) (.alt 16 (.take 13 (.alt 17 .nil .none)) .none)) .none)))) (.alt 14 (.alt 10 (.take 11 (.take 12 (.alt 13 (.alt 16 (.alt 17 .nil .none) .none) (.alt 16 (.take 13 (.alt 17 .nil .none)) .none)))) (.alt 16 (.take 10 (.take 11 (.take 12 (.take 13 (.alt 17 .nil .none))))) .none)) .none)) .none))) (.alt 10 (.alt 8 (.take 11 (.take 12 (.alt 13 (.alt 14 (.alt 15 (.alt 16 (.alt 17 .nil .none) .none) .none) (.alt 15 (.alt 14 (.alt 16 (.alt 17 .nil .none) .none) .none) .none)) (.alt 14 (.alt 13 (.alt 15 (.alt 16 (.alt 17 .nil .none) .none) .none) (.alt 15 (.alt 13 (.alt 16 (.alt 17 .nil .none) .none) (.alt 16 (.take 13 (.alt 17 .nil .none)) .none)) .none)) (.alt 15 (.alt 13 (.alt 14 (.alt 16 (.alt 17 .nil .none) .none) .none) (.alt 14 (.alt 13 (.alt 16 (.alt 17 .nil .none) .none) (.alt 16 (.take 13 (.alt 17 .nil .none)) .none)) .none)) .none))))) (.alt 14 (.alt 8 (.take 11 (.take 12 (.alt 13 (.alt 15 (.alt 16 (.alt 17 .nil .none) .none) .none) (.alt 15 (.alt 13 (.alt 16 (.alt 17 .nil .none) .none) (.alt 16 (.take 13 (.alt 17 .nil .none)) .none)) .none)))) (.alt 15 (.alt 8 (.take 11 (.take 12 (.alt 13 (.alt 16 (.alt 17 .nil .none) .none) (.alt 16 (.take 13 (.alt 17 .nil .none)) .none)))) (.alt 16 (.take 8 (.take 11 (.take 12 (.take 13 (.alt 17 .nil .none))))) .none)) .none)) (.alt 15 (.alt 8 (.take 11 (.take 12 (.alt 13 (.alt 14 (.alt 16 (.alt 17 .nil .none) .none) .none) (.alt 14 (.alt 13 (.alt 16 (.alt 17 .nil .none) .none) (.alt 16 (.take 13 (.alt 17 .nil .none)) .none)) .none)))) (.alt 14 (.alt 8 (.take 11 (.take 12 (.alt 13 (.alt 16 (.alt 17 .nil .none) .none) (.alt 16 (.take 13 (.alt 17 .nil .none)) .none)))) (.alt 16 (.take 8 (.take 11 (.take 12 (.take 13 (.alt 17 .nil .none))))) .none)) .none)) .none))) (.alt 14 (.alt 8 (.alt 10 (.take 11 (.take 12 (.alt 13 (.alt 15 (.alt 16 (.alt 17 .nil .none) .none) .none) (.alt 15 (.alt 13 (.alt 16 (.alt 17 .nil .none) .none) (.alt 16 (.take 13 (.alt 17 .nil .none)) .none)) .none)))) (.alt 15 (.alt 10 (.take 11 (.take 12 (.alt 13 (.alt 16 (.alt 17 .nil .none) .none) (.alt 16 (.take 13 (.alt 17 .nil .none)) .none)))) (.alt 16 (.take 10 (.take 11 (.take 12 (.take 13 (.alt 17 .nil .none))))) .none)) .none)) (.alt 10 (.alt 8 (.take 11 (.take 12 (.alt 13 (.alt 15 (.alt 16 (.alt 17 .nil .none) .none) .none) (.alt 15 (.alt 13 (.alt 16 (.alt 17 .nil .none) .none) (.alt 16 (.take 13 (.alt 17 .nil .none)) .none)) .none)))) (.alt 15 (.alt 8 (.take 11 (.take 12 (.alt 13 (.alt 16 (.alt 17 .nil .none) .none) (.alt 16 (.take 13 (.alt 17 .nil .none)) .none)))) (.alt 16 (.take 8 (.take 11 (.take 12 (.take 13 (.alt 17 .nil .none))))) .none)) .none)) (.alt 15 (.alt 8 (.alt 10 (.take 11 (.take 12 (.alt 13 (.alt 16 (.alt 17 .nil .none) .none) (.alt 16 (.take 13 (.alt 17 .nil .none)) .none)))) (.alt 16 (.take 10 (.take 11 (.take 12 (.take 13 (.alt 17 .nil .none))))) .none)) (.alt 10 (.alt 8 (.take 11 (.take 12 (.alt 13 (.alt 16 (.alt 17 .nil .none) .none) (.alt 16 (.take 13 (.alt 17 .nil .none)) .none)))) (.alt 16 (.take 8 (.take 11 (.take 12 (.take 13 (.alt 17 .nil .none))))) .none)) (.alt 16 (.take 8 (.take 10 (.take 11 (.take 12 (.take 13 (.alt 17 .nil .none)))))) .none))) .none))) (.alt 15 (.alt 8 (.alt 10 (.take 11 (.take 12 (.alt 13 (.alt 14 (.alt 16 (.alt 17 .nil .none) .none) .none) (.alt 14 (.alt 13 (.alt 16 (.alt 17 .nil .none) .none) (.alt 16 (.take 13 (.alt 17 .nil .none)) .none)) .none)))) (.alt 14 (.alt 10 (.take 11 (.take 12 (.alt 13 (.alt 16 (.alt 17 .nil .none) .none) (.alt 16 (.take 13 (.alt 17 .nil .none)) .none)))) (.alt 16 (.take 10 (.take 11 (.take 12 (.take 13 (.alt 17 .nil .none))))) .none)) .none)) (.alt 10 (.alt 8 (.take 11 (.take 12 (.alt 13 (.alt 14 (.alt 16 (.alt 17 .nil .none) .none) .none) (.alt 14 (.alt 13 (.alt 16 (.alt 17 .nil .none) .none) (.alt 16 (.take 13 (.alt 17 .nil .none)) .none)) .none)))) (.alt 14 (.alt 8 (.take 11 (.take 12 (.alt 13 (.alt 16 (.alt 17 .nil .none) .none) (.alt 16 (.take 13 (.alt 17 .nil .none)) .none)))) (.alt 16 (.take 8 (.take 11 (.take 12 (.take 13 (.alt 17 .nil .none))))) .none)) .none)) (.alt 14 (.alt 8 (.alt 10 (.take 11 (.take 12 (.alt 13 (.alt 16 (.alt 17 .nil .none) .none) (.alt 16 (.take 13 (.alt 17 .nil .none)) .none)))) (.alt 16 (.take 10 (.take 11 (.take 12 (.take 13 (.alt 17 .nil .none))))) .none)) (.alt 10 (.alt 8 (.take 11 (.take 12 (.alt 13 (.alt 16 (.alt 17 .nil .none) .none) (.alt 16 (.take 13 (.alt 17 .nil .none)) .none)))) (.alt 16 (.take 8 (.take 11 (.take 12 (.take 13 (.alt 17 .nil .none))))) .none)) (.alt 16 (.take 8 (.take 10 (.take 11 (.take 12 (.take 13 (.alt 17 .nil .none)))))) .none))) .none))) .none))))))))))))) (by kernel_rfl) (gs := [none, none, none, none, none, none, none, none, none, none, none, none, none, none, none, none, none, none]) (by kernel_rfl) (by simp only [(id SS), (id SW), seval, reduceIte, ne_eq]; rfl) (by decide) ?_
      simp only [(id F_lWT), seval, cEst, cRat, hI0, hat0, hI1, hat1, hI2, hat2, hI3, hat3, cPart, hna, hnb, hatca, hatcb, (id SW), (id SW), and_true, and_self, false_and]
      repeat' (first | (refine ⟨by first | omega | (simp only [List.length_cons]; omega) | exact ⟨⟨by omega, by omega⟩, rfl⟩ | rfl, ?_⟩) | (refine ⟨?_, ?_⟩) | fail)
      all_goals (intro zc zQ hM; refine awp_wk (wk_keep [7, 8, 11, 54, 55, 56, 12, 60, 61, 13, 67, 68, 69, 15, 76, 77, 78, 17, 18, 19] [7, 15, 17, 18, 19]) (hM _ ⟨?_, ?_, ?_, ?cs21⟩); case cs21 => (simp only [(id F_lWT), seval]; rfl))
     rintro st ⟨s18, s19, nx, rfl⟩
     by_cases hik : (i0 : Int) < (i1 : Int)
     ·
      by_cases hs : 0 < qSgn l[nb]
      ·
       have q1 : EqOK Tryz.prog 32 [.bool (enc l[na]).neg, .string (enc l[na]).num, .string (enc l[na]).den] [.bool e.claims[na].amount.neg, .string e.claims[na].amount.num, .string e.claims[na].amount.den] := by rw [hQ.sen (by omega) hs, hxae]; exact EqOK_ratW _
       have q2 : eqVs [.bool (enc l[na]).neg, .string (enc l[na]).num, .string (enc l[na]).den] [.bool e.claims[na].amount.neg, .string e.claims[na].amount.num, .string e.claims[na].amount.den] = true := by rw [hQ.sen (by omega) hs, hxae]; exact eqVs_ratW _
       have hSg := aSgnB l[nb] _ (hdB.1 _ (List.getElem_mem hlb)) (by decide)
       simp only [cRat] at hSg
       refine awD (scq [1, 3, 5, 7, 9, 11, 13, 15, 17, 18, 21, 23, 25, 27, 29, 31, 33, 35, 37, 39, 41] .nil) [none, none, none, none, some (99, true), some (99, true), some (99, true), some (99, true), some (99, true), some (99, true), some (99, true), none, none, some (108, true), some (108, true), some (108, true), some (108, true), some (108, true), some (108, true), some (108, true), none] ?_
       simp only [(id F_lWT), seval, cEst, cRat, hI0, hat0, hI1, hat1, hI2, hat2, hI3, hat3, hik, hs, q1, q2, cPart, hna, hnb, hatla, hatlb]
       repeat refine ob ?_
       refine ⟨_, hSg, (by first | rfl | simp [allA, pure1, pureCs, pureC, A1.cells, flat_pure cQ_pure, flat_pure cClaim_pure, flat_pure cAgr_pure]), ?_⟩
       try unfold Later
       try simp only [(id F_lWT), seval, cEst, cRat, hI0, hat0, hI1, hat1, hI2, hat2, hI3, hat3, hik, hs, q1, q2, cPart, hna, hnb, hatla, hatlb]
       repeat refine ob ?_
       refine awF ?_
       refine awK ?_
       simp only [(id F_lWT), seval]
       have he : ¬ (i0 : Int) = (i1 : Int) := by omega
       refine awD (scq [1, 3, 5, 7, 9, 11, 13, 15, 17, 19, 23, 25, 27, 29, 31, 33, 20, 34, 37, 39] .nil) [none, none, none, none, some (120, true), some (120, true), some (120, true), some (120, true), some (120, true), some (120, true), some (120, true), some (120, true), some (120, true), some (120, true), some (120, true), some (120, true), some (120, true), some (120, true), some (120, true), none] ?_
       simp only [(id F_lWT), seval, cEst, cRat, hI0, hat0, hI1, hat1, hI2, hat2, hI3, hat3, hik, hs, q1, q2, cPart, hna, hnb, hatla, hatlb, he]
       repeat refine ob ?_
       refine awF ?_
       refine awK ?_
       simp only [(id F_lWT), seval]
       refine awR [] [none, none] ?_
       simp only [(id F_lWT), seval, cEst, cRat, hI0, hat0, hI1, hat1, hI2, hat2, hI3, hat3, hik, hs, q1, q2]
       repeat refine ob ?_
       repeat refine ob ?_
       refine ⟨_, wk_keep [7, 8, 11, 54, 55, 56, 12, 60, 61, 13, 67, 68, 69, 15, 76, 77, 78] [7, 15], tk.length - (i3 + 1), by omega, i3 + 1, ?a25_nx, by omega, rfl, ?st25⟩
       case st25 => (simp only [(id F_lWT), seval, cEst, cRat, hI0, hat0, hI1, hat1, hI2, hat2, hI3, hat3, hik, hs, q1, q2]; first | rfl | (simp [hI0, hat0, hI1, hat1, hI2, hat2, hI3, hat3, hik, hs, q1, q2, Nat.add_mul]; done))
      have hSg := aSgnB l[nb] _ (hdB.1 _ (List.getElem_mem hlb)) (by decide)
      simp only [cRat] at hSg
      refine awD (scq [1, 3, 5, 7, 9, 11, 13, 15, 17, 18, 21, 23, 25, 27, 29, 31, 33, 35, 37, 39, 41] .nil) [none, none, none, none, some (99, true), some (99, true), some (99, true), some (99, true), some (99, true), some (99, true), some (99, true), none, none, some (108, true), some (108, true), some (108, true), some (108, true), some (108, true), some (108, true), some (108, true), none] ?_
      simp only [(id F_lWT), seval, cEst, cRat, hI0, hat0, hI1, hat1, hI2, hat2, hI3, hat3, hik, hs, cPart, hna, hnb, hatla, hatlb]
      repeat refine ob ?_
      refine ⟨_, hSg, (by first | rfl | simp [allA, pure1, pureCs, pureC, A1.cells, flat_pure cQ_pure, flat_pure cClaim_pure, flat_pure cAgr_pure]), ?_⟩
      try unfold Later
      try simp only [(id F_lWT), seval, cEst, cRat, hI0, hat0, hI1, hat1, hI2, hat2, hI3, hat3, hik, hs, cPart, hna, hnb, hatla, hatlb]
      repeat refine ob ?_
      refine awF ?_
      refine awK ?_
      simp only [(id F_lWT), seval]
      have he : ¬ (i0 : Int) = (i1 : Int) := by omega
      refine awD (scq [1, 3, 5, 7, 9, 11, 13, 15, 17, 19, 23, 25, 27, 29, 31, 33, 20, 34, 37, 39] .nil) [none, none, none, none, some (120, true), some (120, true), some (120, true), some (120, true), some (120, true), some (120, true), some (120, true), some (120, true), some (120, true), some (120, true), some (120, true), some (120, true), some (120, true), some (120, true), some (120, true), none] ?_
      simp only [(id F_lWT), seval, cEst, cRat, hI0, hat0, hI1, hat1, hI2, hat2, hI3, hat3, hik, hs, cPart, hna, hnb, hatla, hatlb, he]
      repeat refine ob ?_
      refine awF ?_
      refine awK ?_
      simp only [(id F_lWT), seval]
      refine awR [] [none, none] ?_
      simp only [(id F_lWT), seval, cEst, cRat, hI0, hat0, hI1, hat1, hI2, hat2, hI3, hat3, hik, hs]
      repeat refine ob ?_
      repeat refine ob ?_
      refine ⟨_, wk_keep [7, 8, 11, 54, 55, 56, 12, 60, 61, 13, 67, 68, 69, 15, 76, 77, 78] [7, 15], tk.length - (i3 + 1), by omega, i3 + 1, ?a29_nx, by omega, rfl, ?st29⟩
      case st29 => (simp only [(id F_lWT), seval, cEst, cRat, hI0, hat0, hI1, hat1, hI2, hat2, hI3, hat3, hik, hs]; first | rfl | (simp [hI0, hat0, hI1, hat1, hI2, hat2, hI3, hat3, hik, hs, Nat.add_mul]; done))
     have hSg := aSgnB l[nb] _ (hdB.1 _ (List.getElem_mem hlb)) (by decide)
     simp only [cRat] at hSg
     refine awD (scq [1, 3, 5, 7, 9, 11, 13, 15, 17, 18, 21, 23, 25, 27, 29, 31, 33, 35, 37, 39, 41] .nil) [none, none, none, none, some (99, true), some (99, true), some (99, true), some (99, true), some (99, true), some (99, true), some (99, true), none, none, some (108, true), some (108, true), some (108, true), some (108, true), some (108, true), some (108, true), some (108, true), none] ?_
     simp only [(id F_lWT), seval, cEst, cRat, hI0, hat0, hI1, hat1, hI2, hat2, hI3, hat3, hik, cPart, hna, hnb, hatla, hatlb]
     repeat refine ob ?_
     refine awF ?_
     refine awK ?_
     simp only [(id F_lWT), seval]
     by_cases he : (i0 : Int) = (i1 : Int)
     ·
      have hM1 := aMulE l[na] e.claims[nb].amount _ _ (hdB.1 _ (List.getElem_mem hla)) hxbs (by decide) (by decide) (by decide) (by decide)
      rw [hQ.par (by omega)] at hM1
      have hM2 := aMulE l[nb] e.claims[na].amount _ _ (hdB.1 _ (List.getElem_mem hlb)) hxas (by decide) (by decide) (by decide) (by decide)
      have q3 := EqOK_ratW (enc (l[nb] * qOf e.claims[na].amount))
      have q4 := eqVs_ratW (enc (l[nb] * qOf e.claims[na].amount))
      simp only [cRat] at hM1 hM2
      refine awD (scq [1, 3, 5, 7, 9, 11, 13, 15, 17, 19, 23, 25, 27, 29, 31, 33, 20, 34, 37, 39] .nil) [none, none, none, none, some (120, true), some (120, true), some (120, true), some (120, true), some (120, true), some (120, true), some (120, true), some (120, true), some (120, true), some (120, true), some (120, true), some (120, true), some (120, true), some (120, true), some (120, true), none] ?_
      simp only [(id F_lWT), seval, cEst, cRat, hI0, hat0, hI1, hat1, hI2, hat2, hI3, hat3, hik, he, q3, q4, cPart, hna, hnb, hatla, hatlb]
      repeat refine ob ?_
      refine ⟨_, hM1, (by first | rfl | simp [allA, pure1, pureCs, pureC, A1.cells, flat_pure cQ_pure, flat_pure cClaim_pure, flat_pure cAgr_pure]), ?_⟩
      try unfold Later
      try simp only [(id F_lWT), seval, cEst, cRat, hI0, hat0, hI1, hat1, hI2, hat2, hI3, hat3, hik, he, q3, q4, cPart, hna, hnb, hatla, hatlb]
      repeat refine ob ?_
      refine ⟨_, hM2, (by first | rfl | simp [allA, pure1, pureCs, pureC, A1.cells, flat_pure cQ_pure, flat_pure cClaim_pure, flat_pure cAgr_pure]), ?_⟩
      try unfold Later
      try simp only [(id F_lWT), seval, cEst, cRat, hI0, hat0, hI1, hat1, hI2, hat2, hI3, hat3, hik, he, q3, q4, cPart, hna, hnb, hatla, hatlb]
      repeat refine ob ?_
      refine awF ?_
      refine awK ?_
      simp only [(id F_lWT), seval]
      refine awR [] [none, none] ?_
      simp only [(id F_lWT), seval, cEst, cRat, hI0, hat0, hI1, hat1, hI2, hat2, hI3, hat3, hik, he, q3, q4]
      repeat refine ob ?_
      repeat refine ob ?_
      refine ⟨_, wk_keep [7, 8, 11, 54, 55, 56, 12, 60, 61, 13, 67, 68, 69, 15, 76, 77, 78] [7, 15], tk.length - (i3 + 1), by omega, i3 + 1, ?a33_nx, by omega, rfl, ?st33⟩
      case st33 => (simp only [(id F_lWT), seval, cEst, cRat, hI0, hat0, hI1, hat1, hI2, hat2, hI3, hat3, hik, he, q3, q4]; first | rfl | (simp [hI0, hat0, hI1, hat1, hI2, hat2, hI3, hat3, hik, he, q3, q4, Nat.add_mul]; done))
     refine awD (scq [1, 3, 5, 7, 9, 11, 13, 15, 17, 19, 23, 25, 27, 29, 31, 33, 20, 34, 37, 39] .nil) [none, none, none, none, some (120, true), some (120, true), some (120, true), some (120, true), some (120, true), some (120, true), some (120, true), some (120, true), some (120, true), some (120, true), some (120, true), some (120, true), some (120, true), some (120, true), some (120, true), none] ?_
     simp only [(id F_lWT), seval, cEst, cRat, hI0, hat0, hI1, hat1, hI2, hat2, hI3, hat3, hik, he, cPart, hna, hnb, hatla, hatlb]
     repeat refine ob ?_
     refine awF ?_
     refine awK ?_
     simp only [(id F_lWT), seval]
     refine awR [] [none, none] ?_
     simp only [(id F_lWT), seval, cEst, cRat, hI0, hat0, hI1, hat1, hI2, hat2, hI3, hat3, hik, he]
     repeat refine ob ?_
     repeat refine ob ?_
     refine ⟨_, wk_keep [7, 8, 11, 54, 55, 56, 12, 60, 61, 13, 67, 68, 69, 15, 76, 77, 78] [7, 15], tk.length - (i3 + 1), by omega, i3 + 1, ?a36_nx, by omega, rfl, ?st36⟩
     case st36 => (simp only [(id F_lWT), seval, cEst, cRat, hI0, hat0, hI1, hat1, hI2, hat2, hI3, hat3, hik, he]; first | rfl | (simp [hI0, hat0, hI1, hat1, hI2, hat2, hI3, hat3, hik, he, Nat.add_mul]; done))
    obtain rfl : i3 = tk.length := by omega
    have hI3 : ¬ (tk.length : Int) < (tk.length : Int) := by omega
    refine awR [] [none] ?_
    simp only [(id F_lWT), seval, cEst, cRat, hI0, hat0, hI1, hat1, hI2, hat2, hI3]
    repeat refine ob ?_
    refine awF ?_
    refine awQ ?_
    simp only [(id F_lWT), seval]
    refine awR [] [none, none] ?_
    simp only [(id F_lWT), seval, cEst, cRat, hI0, hat0, hI1, hat1, hI2, hat2, hI3]
    repeat refine ob ?_
    repeat refine ob ?_
    refine ⟨_, wk_keep [7, 8, 11, 54, 55, 56, 12, 60, 61, 13, 67, 68, 69] [7], ti.length - (i2 + 1), by omega, i2 + 1, ?a39_nx, by omega, rfl, ?st39⟩
    case st39 => (simp only [(id F_lWT), seval, cEst, cRat, hI0, hat0, hI1, hat1, hI2, hat2, hI3]; first | rfl | (simp [hI0, hat0, hI1, hat1, hI2, hat2, hI3, Nat.add_mul]; done))
   obtain rfl : i2 = ti.length := by omega
   have hI2 : ¬ (ti.length : Int) < (ti.length : Int) := by omega
   refine awR [] [none] ?_
   simp only [(id F_lWT), seval, cEst, cRat, hI0, hat0, hI1, hat1, hI2]
   repeat refine ob ?_
   refine awF ?_
   refine awQ ?_
   simp only [(id F_lWT), seval]
   refine awR [] [none, none] ?_
   simp only [(id F_lWT), seval, cEst, cRat, hI0, hat0, hI1, hat1, hI2]
   repeat refine ob ?_
   repeat refine ob ?_
   refine ⟨_, wk_keep [7, 8, 11, 54, 55, 56, 12, 60, 61] [7], A.length - (i1 + 1), by omega, i1 + 1, ?a42_nx, by omega, rfl, ?st42⟩
   case st42 => (simp only [(id F_lWT), seval, cEst, cRat, hI0, hat0, hI1, hat1, hI2]; first | rfl | (simp [hI0, hat0, hI1, hat1, hI2, Nat.add_mul]; done))
  obtain rfl : i1 = A.length := by omega
  have hI1 : ¬ (A.length : Int) < (A.length : Int) := by omega
  refine awR [] [none] ?_
  simp only [(id F_lWT), seval, cEst, cRat, hI0, hat0, hI1]
  repeat refine ob ?_
  refine awF ?_
  refine awQ ?_
  simp only [(id F_lWT), seval]
  refine awR [] [none, none] ?_
  simp only [(id F_lWT), seval, cEst, cRat, hI0, hat0, hI1]
  repeat refine ob ?_
  repeat refine ob ?_
  refine ⟨_, wk_keep [7, 8, 11, 54, 55, 56] [7], A.length - (i0 + 1), by omega, i0 + 1, ?a45_nx, by omega, rfl, ?st45⟩
  case st45 => (simp only [(id F_lWT), seval, cEst, cRat, hI0, hat0, hI1]; first | rfl | (simp [hI0, hat0, hI1, Nat.add_mul]; done))
 obtain rfl : i0 = A.length := by omega
 have hI0 : ¬ (A.length : Int) < (A.length : Int) := by omega
 refine awR [] [none] ?_
 simp only [(id F_lWT), seval, cEst, cRat, hI0]
 repeat refine ob ?_
 refine awF ?_
 refine awQ ?_
 simp only [(id F_lWT), seval]
 refine awR [] [none, none] ?_
 simp only [(id F_lWT), seval, cEst, cRat, hI0]
 repeat refine ob ?_
 refine ⟨_, awake17_A, (by first | rfl | simp [allA, pure1, pureCs, pureC, A1.cells, flat_pure cQ_pure, flat_pure cClaim_pure, flat_pure cAgr_pure]), ?_⟩
 try unfold Later
 try simp only [(id F_lWT), seval, cEst, cRat, hI0]
 repeat refine ob ?_
 refine awX ?_
 (first | (simp only [(id F_lWT), seval, cEst, cRat, hI0]; done) | (simp only [(id F_lWT), seval, cEst, cRat]; first | (simp [hI0]; done)))
theorem lWT_walk (v0 v1 v2 : Value) (list : List N4) (bits money : Nat) (W : World) (o0 : rC (cSl 4 cN4) (okSl okN4) W (LT W.heap.size) [v0] list) (o1 : rC cU16 (· < 65536) W (LT W.heap.size) [v1] bits) (o2 : rC cU16 (· < 65536) W (LT W.heap.size) [v2] money) :
    Calls Tryz.prog 8 #[v0, v1, v2] W fun e w' => e = .returned (.bool true) ∧ Below W.heap.size W w' := by
  obtain ⟨h0, k0⟩ := den_oneC o0 rfl
  obtain ⟨h1, k1⟩ := den_oneC o1 rfl
  obtain ⟨h2, k2⟩ := den_oneC o2 rfl
  exact acall_law (vs := [v0, v1, v2]) (lWT_A list bits money k0 k1 k2) ⟨h0, h1, h2, trivial⟩
end Go.Proofs.YtmbahnmhicdjfaaGreatDoor
