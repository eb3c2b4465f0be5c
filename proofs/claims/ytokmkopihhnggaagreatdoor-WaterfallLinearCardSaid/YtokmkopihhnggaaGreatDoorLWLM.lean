/- WaterfallLinear: the law's own function; walked by the abstract machine. -/
import Derived.Test.YtokmkopihhnggaaGreatDoorWs3M
set_option linter.unusedVariables false
set_option linter.unusedSimpArgs false
set_option linter.defProp false
namespace Go.Proofs.YtokmkopihhnggaaGreatDoor
open Go Go.RowKit
theorem cmp_gt {p q : Rat} (h : q < p) : ¬ qCmp p q ≤ 0 := by unfold qCmp; grind
theorem ratio_nn (part : Nat) : 0 ≤ mkRat ((part % 17 : Nat) : Int) 16 := by
 have h : ∀ k : Fin 17, 0 ≤ mkRat ((k.val : Nat) : Int) 16 := by decide
 exact h ⟨part % 17, Nat.mod_lt _ (by decide)⟩
theorem ratio_le (part : Nat) : mkRat ((part % 17 : Nat) : Int) 16 ≤ 1 := by
 have h : ∀ k : Fin 17, mkRat ((k.val : Nat) : Int) 16 ≤ 1 := by decide
 exact h ⟨part % 17, Nat.mod_lt _ (by decide)⟩
theorem whole_nn (part : Nat) : (0 : Rat) ≤ ((((part : Int) + 1 : Int)) : Rat) := by exact_mod_cast (by omega : (0 : Int) ≤ (part : Int) + 1)
theorem qB_wh (part : Nat) (h : part < 256) : qB 2 ((((part : Int) + 1 : Int)) : Rat) := by
 have h1 : ((part : Int) + 1) = ((part + 1 : Nat) : Int) := by omega
 rw [h1]
 have h2 : part + 1 < 65536 := by omega
 generalize part + 1 = n at *
 exact ⟨by simp; omega, by simp⟩
def linOf (e : GEst) (m h : Rat) : Prop := (∀ i : Nat, (wDel (wLay e) (m + h)).cl.getD i 0 = (wDel (wLay e) m).cl.getD i 0 + h * (wSlo (wLay e) m).cl.getD i 0) ∧ (wDel (wLay e) (m + h)).rv = (wDel (wLay e) m).rv + h * (wSlo (wLay e) m).rv
theorem kink_lin {e : GEst} {m y : Rat} (hk : kinkOf e m y) (part : Nat) : linOf e m ((y - m) * mkRat ((part % 17 : Nat) : Int) 16) := by
 have h1 := ratio_nn part
 have h2 := ratio_le part
 have h3 := hk.gt
 refine hk.lin _ (Rat.mul_nonneg (by grind) h1) ?_
 have h4 := Rat.mul_le_mul_of_nonneg_left h2 (show 0 ≤ y - m by grind)
 grind
theorem none_lin {e : GEst} {m h : Rat} (he : eOK e) (hm : 0 ≤ m) (hn : wNext (wLay e) m = none) (hh : 0 ≤ h) : linOf e m h := lin_none he hm hh (next_none he hm hn)
def F46 := And.intro zS (And.intro tf50 (And.intro tf51 (And.intro tf75 (And.intro tf18 (And.intro tf4 (And.intro tf89 (And.intro tf86 (tf39))))))))
set_option maxRecDepth 100000 in
set_option maxHeartbeats 4000000 in
theorem lWL_A (list : List N4) (pools : List N3) (money part : Nat) (hls : okSl okN4 list) (hps : okSl okN3 pools) (hm : money < 65536) (hpt : part < 256) : ACall Tryz.prog 8 [.one (.sh 4 list.length (flat cN4 list)), .one (.sh 3 pools.length (flat cN3 pools)), .one (.lit (.int .u16 money)), .one (.lit (.int .u8 part))] (one (.bool true)) := by
 have hl1 : list.length ≤ 9223372036854775807 := Nat.le_trans hls.1 (by decide)
 have hp1 : pools.length ≤ 9223372036854775807 := Nat.le_trans hps.1 (by decide)
 refine acall_of Tryz.func8 rfl (by decide) (N := 127) rfl (by simp) (R := [.tmp 8]) rfl fun en k0 => ?_
 refine awN ?_
 simp only [(id F46), seval, cEst, cRat]
 repeat refine ob ?_
 have hE := est_A 0 list pools (by decide) hls.2 hps.2 hl1 hp1
 have hI := estN_in 0 list pools (M := 704000) (by decide) (by decide)
 have h0 := estN_wc 0 list pools
 have heo := estN_eok 0 list pools
 have hcn := (estN_ok 0 list pools).2.2.1
 have hen := (estN_ok 0 list pools).1.1
 generalize estN 0 list pools = e at *
 simp only [cEst] at hE
 refine awN ?_
 simp only [(id F46), seval, cEst, cRat, flat_pure cClaim_pure, flat_pure cAgr_pure, flat_pure cN4_pure, flat_pure cN3_pure, flat_pure cQ_pure]
 repeat refine ob ?_
 refine ⟨_, hE, (by first | rfl | simp [allA, pure1, pureCs, pureC, A1.cells, flat_pure cQ_pure, flat_pure cClaim_pure, flat_pure cAgr_pure]), ?_⟩
 try unfold Later
 try simp only [(id F46), seval, cEst, cRat, flat_pure cClaim_pure, flat_pure cAgr_pure, flat_pure cN4_pure, flat_pure cN3_pure, flat_pure cQ_pure]
 repeat refine ob ?_
 have hAm := aAmount money hm
 have hmB := amt_qB money
 have hm0 := amt_nonneg money
 generalize qAmt money = m at *
 simp only [cRat] at hAm
 have hNx := wNextN_A e (enc m) hI (sB_enc (hmB.mono (by decide)))
 rw [mPos_enc hm0] at hNx
 simp only [neR, h0, if_true, decide_true, Bool.true_and, cEst, cRat] at hNx
 refine awN ?_
 simp only [(id F46), seval, cEst, cRat]
 repeat refine ob ?_
 refine ⟨_, hAm, (by first | rfl | simp [allA, pure1, pureCs, pureC, A1.cells, flat_pure cQ_pure, flat_pure cClaim_pure, flat_pure cAgr_pure]), ?_⟩
 try unfold Later
 try simp only [(id F46), seval, cEst, cRat]
 repeat refine ob ?_
 refine awN ?_
 simp only [(id F46), seval, cEst, cRat, flat_pure cClaim_pure, flat_pure cAgr_pure, flat_pure cN4_pure, flat_pure cN3_pure, flat_pure cQ_pure]
 repeat refine ob ?_
 refine ⟨_, hNx, (by first | rfl | simp [allA, pure1, pureCs, pureC, A1.cells, flat_pure cQ_pure, flat_pure cClaim_pure, flat_pure cAgr_pure]), ?_⟩
 try unfold Later
 try simp only [(id F46), seval, cEst, cRat, flat_pure cClaim_pure, flat_pure cAgr_pure, flat_pure cN4_pure, flat_pure cN3_pure, flat_pure cQ_pure]
 repeat refine ob ?_
 refine awN ?_
 simp only [(id F46), seval, cEst, cRat]
 repeat refine ob ?_
 refine awF ?_
 refine awK ?_
 simp only [(id F46), seval]
 have w0 : IntKind.i64.wrap ((part : Nat) : Int) = (part : Int) := wri _ (by omega)
 have hWh := aWhole ((part : Int) + 1) (by omega) (by omega)
 simp only [cRat] at hWh
 refine awN ?_
 simp only [(id F46), seval, cEst, cRat, w0]
 repeat refine ob ?_
 refine ⟨_, hWh, (by first | rfl | simp [allA, pure1, pureCs, pureC, A1.cells, flat_pure cQ_pure, flat_pure cClaim_pure, flat_pure cAgr_pure]), ?_⟩
 try unfold Later
 try simp only [(id F46), seval, cEst, cRat, w0]
 repeat refine ob ?_
 refine awp_cut2 (M := fun st => ∃ h s14 nx, (qB 703910 h) ∧ (0 ≤ h) ∧ (linOf e m h) ∧ st = ⟨mkT [(9, .val (.one (.ptr 9 0 0))), (10, .val (.one (.ptr 10 1 0))), (14, .val (.one (.ptr 14 s14 0)))], mkH [(9, ⟨0, 36, 5, 1, cEst e⟩), (10, ⟨1, 32, 3, 1, cRat (enc m)⟩), (14, ⟨s14, 32, 3, 1, cRat (enc h)⟩)], nx, 0⟩) ?_ ?_
 ·
  by_cases hno : (wNext (wLay e) m).isSome = true
  ·
   refine awN ?_
   simp only [(id F46), seval, cEst, cRat, hno]
   repeat refine ob ?_
   refine awT ?_
   obtain ⟨y, hy⟩ := Option.isSome_iff_exists.1 hno
   have hk := next_some heo hm0 hy
   have hyB := next_B hI h0 hm0 hy
   have hgy : (wNext (wLay e) m).getD 0 = y := by rw [hy]; rfl
   have hCm := aCmpQ y m (hyB.mono (by decide)) (hmB.mono (by decide))
   have hcg : ¬ qCmp y m ≤ 0 := cmp_gt hk.gt
   simp only [cRat] at hCm
   refine awN ?_
   simp only [(id F46), seval, cEst, cRat, hno, hgy, hcg]
   repeat refine ob ?_
   refine ⟨_, hCm, (by first | rfl | simp [allA, pure1, pureCs, pureC, A1.cells, flat_pure cQ_pure, flat_pure cClaim_pure, flat_pure cAgr_pure]), ?_⟩
   try unfold Later
   try simp only [(id F46), seval, cEst, cRat, hno, hgy, hcg]
   repeat refine ob ?_
   refine awF ?_
   refine awK ?_
   simp only [(id F46), seval]
   have hSb := aSubQ y m _ _ hyB hmB (by decide) (by decide)
   have w1 : ((part : Nat) : Int).tmod 17 = ((part % 17 : Nat) : Int) := tmodN part 17
   have w2 : IntKind.i64.wrap ((part % 17 : Nat) : Int) = ((part % 17 : Nat) : Int) := wri _ (by omega)
   have hRa := aRatio (part % 17) 16 (by omega) (by decide) (by decide)
   have hrB : qB 1 (mkRat ((part % 17 : Nat) : Int) 16) := qB_mkRat (by simp; omega) (by decide) (by decide)
   have hMu := aMulQ (y - m) (mkRat ((part % 17 : Nat) : Int) 16) _ _ (hyB.sub hmB) hrB (by decide) (by decide)
   simp only [cRat] at hSb hRa hMu
   refine awN ?_
   simp only [(id F46), seval, cEst, cRat, hno, hgy, w1, w2]
   repeat refine ob ?_
   refine ⟨_, hSb, (by first | rfl | simp [allA, pure1, pureCs, pureC, A1.cells, flat_pure cQ_pure, flat_pure cClaim_pure, flat_pure cAgr_pure]), ?_⟩
   try unfold Later
   try simp only [(id F46), seval, cEst, cRat, hno, hgy, w1, w2]
   repeat refine ob ?_
   refine ⟨_, hRa, (by first | rfl | simp [allA, pure1, pureCs, pureC, A1.cells, flat_pure cQ_pure, flat_pure cClaim_pure, flat_pure cAgr_pure]), ?_⟩
   try unfold Later
   try simp only [(id F46), seval, cEst, cRat, hno, hgy, w1, w2]
   repeat refine ob ?_
   refine ⟨_, hMu, (by first | rfl | simp [allA, pure1, pureCs, pureC, A1.cells, flat_pure cQ_pure, flat_pure cClaim_pure, flat_pure cAgr_pure]), ?_⟩
   try unfold Later
   try simp only [(id F46), seval, cEst, cRat, hno, hgy, w1, w2]
   repeat refine ob ?_
   intro zc zQ hM
   refine awp_wk (wk_keep [9, 10, 14] [9, 10, 14]) (hM _ ⟨(y - m) * mkRat ((part % 17 : Nat) : Int) 16, ?_, ?_, ((hyB.sub hmB).mul hrB).mono (by decide), Rat.mul_nonneg (by have := hk.gt; grind) (ratio_nn part), kink_lin hk part, ?cs9⟩)
   case cs9 => (simp only [(id F46), seval]; rfl)
  refine awN ?_
  simp only [(id F46), seval, cEst, cRat, hno]
  repeat refine ob ?_
  refine awF ?_
  refine awK ?_
  simp only [(id F46), seval]
  intro zc zQ hM
  refine awp_wk (wk_keep [9, 10, 14] [9, 10, 14]) (hM _ ⟨((((part : Int) + 1 : Int)) : Rat), ?_, ?_, (qB_wh part hpt).mono (by decide), whole_nn part, none_lin heo hm0 (by simpa using hno) (whole_nn part), ?cs11⟩)
  case cs11 => (simp only [(id F46), seval]; rfl)
 rintro st ⟨h, s14, nx1, hhB, hh0, hlin, rfl⟩
 have hmhB : qB 704000 (m + h) := (hmB.add hhB).mono (by decide)
 have hmh0 : 0 ≤ m + h := by grind
 unfold linOf at hlin
 have hD1 := wDeliver_A e (enc m) 1 704000 6 2 hI (sB_enc (hmB.mono (by decide)))
 rw [mPos_enc hm0] at hD1
 have hD2 := wDeliver_A e (enc (m + h)) 1 704000 6 2 hI (sB_enc hmhB)
 rw [mPos_enc hmh0] at hD2
 have hS := wSlopes_A e (enc m) 1 704000 6 2 hI (sB_enc (hmB.mono (by decide)))
 rw [mPos_enc hm0] at hS
 have hAd := aAddQ m h _ _ hmB hhB (by decide) (by decide)
 simp only [dlR, slR, h0, if_true, cEst, cRat] at hD1 hD2 hS hAd
 have hal : (wDel (wLay e) m).cl.length = e.claims.length := wDel_len _ _
 have hbl : (wDel (wLay e) (m + h)).cl.length = e.claims.length := wDel_len _ _
 have hkl := slo_len e m
 have haB := delN_B hI h0 (hmB.mono (show 1 ≤ 704000 by decide))
 have hkB := sloN_B hI h0 m
 obtain ⟨a, r, har⟩ : ∃ l rv, wDel (wLay e) m = ⟨l, rv⟩ := ⟨_, _, rfl⟩
 obtain ⟨b, s, hbs⟩ : ∃ l rv, wDel (wLay e) (m + h) = ⟨l, rv⟩ := ⟨_, _, rfl⟩
 obtain ⟨k, q, hkq⟩ : ∃ l rv, wSlo (wLay e) m = ⟨l, rv⟩ := ⟨_, _, rfl⟩
 rw [har] at hD1 hal haB hlin
 rw [hbs] at hD2 hbl hlin
 rw [hkq] at hS hkl hkB hlin
 simp only at hD1 hD2 hS hal hbl hkl haB hkB hlin
 refine awN ?_
 simp only [(id F46), seval, cEst, cRat, flat_pure cClaim_pure, flat_pure cAgr_pure, flat_pure cN4_pure, flat_pure cN3_pure, flat_pure cQ_pure]
 repeat refine ob ?_
 refine ⟨_, hD1, (by first | rfl | simp [allA, pure1, pureCs, pureC, A1.cells, flat_pure cQ_pure, flat_pure cClaim_pure, flat_pure cAgr_pure]), ?_⟩
 try unfold Later
 try simp only [(id F46), seval, cEst, cRat, flat_pure cClaim_pure, flat_pure cAgr_pure, flat_pure cN4_pure, flat_pure cN3_pure, flat_pure cQ_pure]
 repeat refine ob ?_
 refine awp_cut2 (M := fun st => ∃ s16 s19 nx, st = ⟨mkT [(9, .val (.one (.ptr 9 0 0))), (10, .val (.one (.ptr 10 1 0))), (14, .val (.one (.ptr 14 s14 0))), (15, .val (.one (.sh 3 e.claims.length (flat cQ a)))), (16, .val (.one (.ptr 16 s16 0))), (18, .val (.one (.sh 3 e.claims.length (flat cQ b)))), (19, .val (.one (.ptr 19 s19 0)))], mkH [(9, ⟨0, 36, 5, 1, cEst e⟩), (10, ⟨1, 32, 3, 1, cRat (enc m)⟩), (14, ⟨s14, 32, 3, 1, cRat (enc h)⟩), (16, ⟨s16, 32, 3, 1, cRat (enc r)⟩), (19, ⟨s19, 32, 3, 1, cRat (enc s)⟩)], nx, 0⟩) ?_ ?_
 ·
  refine awD (scq [1, 3, 5] (.two 3 9 (.two 4 9 (scT 5 4 (scq [18, 21, 22, 25] .nil)) (scq [8] (scT 5 4 (scq [21, 22, 25] .nil)))) (scq [6, 8] (scT 5 4 (scq [21, 22, 25] .nil))))) [none, none, none, none, none, none, none, none, none, none, none, none, none] ?_
  simp only [(id F46), seval, cEst, cRat, flat_pure cClaim_pure, flat_pure cAgr_pure, flat_pure cN4_pure, flat_pure cN3_pure, flat_pure cQ_pure]
  repeat refine ob ?_
  refine ⟨?_, ?_⟩
  ·
   repeat refine ob ?_
   refine ⟨_, hAd, (by first | rfl | simp [allA, pure1, pureCs, pureC, A1.cells, flat_pure cQ_pure, flat_pure cClaim_pure, flat_pure cAgr_pure]), ?_⟩
   try unfold Later
   try simp only [(id F46), seval, cEst, cRat, flat_pure cClaim_pure, flat_pure cAgr_pure, flat_pure cN4_pure, flat_pure cN3_pure, flat_pure cQ_pure]
   repeat refine ob ?_
   refine ⟨?_, ?_⟩
   ·
    repeat refine ob ?_
    refine ⟨_, hD2, (by first | rfl | simp [allA, pure1, pureCs, pureC, A1.cells, flat_pure cQ_pure, flat_pure cClaim_pure, flat_pure cAgr_pure]), ?_⟩
    try unfold Later
    try simp only [(id F46), seval, cEst, cRat, flat_pure cClaim_pure, flat_pure cAgr_pure, flat_pure cN4_pure, flat_pure cN3_pure, flat_pure cQ_pure]
    repeat refine ob ?_
    intro zc zQ hM
    refine awp_wk (wk_keep [9, 10, 14, 15, 16, 18, 19] [9, 10, 14, 16, 19]) (hM _ ⟨?_, ?_, ?_, ?cs14⟩)
    case cs14 => (simp only [(id F46), seval]; rfl)
   repeat refine ob ?_
   refine ⟨_, hD2, (by first | rfl | simp [allA, pure1, pureCs, pureC, A1.cells, flat_pure cQ_pure, flat_pure cClaim_pure, flat_pure cAgr_pure]), ?_⟩
   try unfold Later
   try simp only [(id F46), seval, cEst, cRat, flat_pure cClaim_pure, flat_pure cAgr_pure, flat_pure cN4_pure, flat_pure cN3_pure, flat_pure cQ_pure]
   repeat refine ob ?_
   intro zc zQ hM
   refine awp_wk (wk_keep [9, 10, 14, 15, 16, 18, 19] [9, 10, 14, 16, 19]) (hM _ ⟨?_, ?_, ?_, ?cs15⟩)
   case cs15 => (simp only [(id F46), seval]; rfl)
  repeat refine ob ?_
  refine ⟨_, hAd, (by first | rfl | simp [allA, pure1, pureCs, pureC, A1.cells, flat_pure cQ_pure, flat_pure cClaim_pure, flat_pure cAgr_pure]), ?_⟩
  try unfold Later
  try simp only [(id F46), seval, cEst, cRat, flat_pure cClaim_pure, flat_pure cAgr_pure, flat_pure cN4_pure, flat_pure cN3_pure, flat_pure cQ_pure]
  repeat refine ob ?_
  refine ⟨_, hD2, (by first | rfl | simp [allA, pure1, pureCs, pureC, A1.cells, flat_pure cQ_pure, flat_pure cClaim_pure, flat_pure cAgr_pure]), ?_⟩
  try unfold Later
  try simp only [(id F46), seval, cEst, cRat, flat_pure cClaim_pure, flat_pure cAgr_pure, flat_pure cN4_pure, flat_pure cN3_pure, flat_pure cQ_pure]
  repeat refine ob ?_
  intro zc zQ hM
  refine awp_wk (wk_keep [9, 10, 14, 15, 16, 18, 19] [9, 10, 14, 16, 19]) (hM _ ⟨?_, ?_, ?_, ?cs16⟩)
  case cs16 => (simp only [(id F46), seval]; rfl)
 rintro st ⟨s16, s19, ny, rfl⟩
 refine awN ?_
 simp only [(id F46), seval, cEst, cRat, flat_pure cClaim_pure, flat_pure cAgr_pure, flat_pure cN4_pure, flat_pure cN3_pure, flat_pure cQ_pure]
 repeat refine ob ?_
 refine ⟨_, hS, (by first | rfl | simp [allA, pure1, pureCs, pureC, A1.cells, flat_pure cQ_pure, flat_pure cClaim_pure, flat_pure cAgr_pure]), ?_⟩
 try unfold Later
 try simp only [(id F46), seval, cEst, cRat, flat_pure cClaim_pure, flat_pure cAgr_pure, flat_pure cN4_pure, flat_pure cN3_pure, flat_pure cQ_pure]
 repeat refine ob ?_
 refine awR [] [none, none, none, some (81, false), some (81, false), some (81, false), some (81, false), some (81, false), none, none, some (88, false), some (88, false), some (88, false), some (88, false), some (88, false), none] ?_
 simp only [(id F46), seval, cEst, cRat, flat_pure cClaim_pure, flat_pure cAgr_pure, flat_pure cN4_pure, flat_pure cN3_pure, flat_pure cQ_pure]
 repeat refine ob ?_
 refine awF ?_
 refine awK ?_
 simp only [(id F46), seval]
 refine awN ?_
 simp only [(id F46), seval, cEst, cRat]
 repeat refine ob ?_
 refine awp_keep [14, 15, 16, 18, 19, 21, 22, 96, 97] [14, 16, 19, 22] ?_
 try unfold Later
 try simp only [(id F46), seval, cEst, cRat]
 repeat' first|apply awS|apply awB
 refine awp_loopw (fun n st => ∃ i0 nx, i0 ≤ e.claims.length ∧ n = e.claims.length - i0 ∧ st = ⟨mkT [(14, .val (.one (.ptr 14 s14 0))), (15, .val (.one (.sh 3 e.claims.length (flat cQ a)))), (16, .val (.one (.ptr 16 s16 0))), (18, .val (.one (.sh 3 e.claims.length (flat cQ b)))), (19, .val (.one (.ptr 19 s19 0))), (21, .val (.one (.sh 3 e.claims.length (flat cQ k)))), (22, .val (.one (.ptr 22 ny 0))), (96, one (.int .i64 e.claims.length)), (97, one (.int .i64 i0))], mkH [(14, ⟨s14, 32, 3, 1, cRat (enc h)⟩), (16, ⟨s16, 32, 3, 1, cRat (enc r)⟩), (19, ⟨s19, 32, 3, 1, cRat (enc s)⟩), (22, ⟨ny, 32, 3, 1, cRat (enc q)⟩)], nx, 0⟩) (e.claims.length) ⟨0, _, by omega, by omega, rfl⟩ ?_
 rintro n0 st ⟨i0, nx0, hk0, rfl, rfl⟩
 by_cases hlt0 : i0 < e.claims.length
 ·
  have hI0 : (i0 : Int) < (e.claims.length : Int) := by omega
  have hia : i0 < a.length := by omega
  have hib : i0 < b.length := by omega
  have hik : i0 < k.length := by omega
  have hata := flat_at cQ_len a i0 hia
  have hatb := flat_at cQ_len b i0 hib
  have hatk := flat_at cQ_len k i0 hik
  simp only [cQ, cRat] at hata hatb hatk
  refine awN ?_
  simp only [(id F46), seval, cEst, cRat, hI0]
  repeat refine ob ?_
  refine awT ?_
  refine awK ?_
  simp only [(id F46), seval]
  refine awN ?_
  simp only [(id F46), seval, cEst, cRat, hI0]
  repeat refine ob ?_
  have hMu := aMulQ k[i0] h _ _ (hkB.1 _ (List.getElem_mem hik)) hhB (by decide) (by decide)
  have hAd2 := aAddQ a[i0] (k[i0] * h) _ _ (haB.1 _ (List.getElem_mem hia)) ((hkB.1 _ (List.getElem_mem hik)).mul hhB) (by decide) (by decide)
  have hval : a[i0] + k[i0] * h = b[i0] := by have h9 := hlin.1 i0; rw [getD_el hib, getD_el hia, getD_el hik] at h9; rw [h9]; grind
  rw [hval] at hAd2
  have q1 := EqOK_ratW (enc b[i0])
  have q2 := eqVs_ratW (enc b[i0])
  simp only [cRat] at hMu hAd2
  refine awD (scT 0 9 (scT 11 4 (scq [18, 20, 31] .nil))) [none, none, none, none, none, none, none, none, none, none, none, none, none, none, none, none] ?_
  simp only [(id F46), seval, cEst, cRat, hI0, flat_pure cClaim_pure, flat_pure cAgr_pure, flat_pure cN4_pure, flat_pure cN3_pure, flat_pure cQ_pure, hata, hatb, hatk, q1, q2]
  repeat refine ob ?_
  refine ⟨_, hMu, (by first | rfl | simp [allA, pure1, pureCs, pureC, A1.cells, flat_pure cQ_pure, flat_pure cClaim_pure, flat_pure cAgr_pure]), ?_⟩
  try unfold Later
  try simp only [(id F46), seval, cEst, cRat, hI0, flat_pure cClaim_pure, flat_pure cAgr_pure, flat_pure cN4_pure, flat_pure cN3_pure, flat_pure cQ_pure, hata, hatb, hatk, q1, q2]
  repeat refine ob ?_
  refine ⟨_, hAd2, (by first | rfl | simp [allA, pure1, pureCs, pureC, A1.cells, flat_pure cQ_pure, flat_pure cClaim_pure, flat_pure cAgr_pure]), ?_⟩
  try unfold Later
  try simp only [(id F46), seval, cEst, cRat, hI0, flat_pure cClaim_pure, flat_pure cAgr_pure, flat_pure cN4_pure, flat_pure cN3_pure, flat_pure cQ_pure, hata, hatb, hatk, q1, q2]
  repeat refine ob ?_
  refine awF ?_
  refine awK ?_
  simp only [(id F46), seval]
  refine awN ?_
  simp only [(id F46), seval, cEst, cRat, hI0]
  repeat refine ob ?_
  repeat refine ob ?_
  refine ⟨_, wk_keep [14, 15, 16, 18, 19, 21, 22, 96, 97] [14, 16, 19, 22], e.claims.length - (i0 + 1), by omega, i0 + 1, ?a24_nx, by omega, rfl, ?st24⟩
  case st24 => (simp only [(id F46), seval, cEst, cRat, hI0]; first | rfl | (simp [hI0, Nat.add_mul]; done))
 obtain rfl : i0 = e.claims.length := by omega
 have hI0 : ¬ (e.claims.length : Int) < (e.claims.length : Int) := by omega
 refine awN ?_
 simp only [(id F46), seval, cEst, cRat, hI0]
 repeat refine ob ?_
 refine awF ?_
 refine awQ ?_
 simp only [(id F46), seval]
 have hMu := aMulQ q h _ _ hkB.2 hhB (by decide) (by decide)
 have hAd2 := aAddQ r (q * h) _ _ haB.2 (hkB.2.mul hhB) (by decide) (by decide)
 have hval : r + q * h = s := by rw [hlin.2]; grind
 rw [hval] at hAd2
 have q1 := EqOK_ratW (enc s)
 have q2 := eqVs_ratW (enc s)
 simp only [cRat] at hMu hAd2
 refine awD (scq [0] (scT 1 4 (scq [15, 10, 12, 17, 19, 21] .nil))) [none, none, some (118, true), some (118, true), some (118, true), some (118, true), some (118, true), some (118, true), some (118, true), none, none] ?_
 simp only [(id F46), seval, cEst, cRat, hI0, flat_pure cClaim_pure, flat_pure cAgr_pure, flat_pure cN4_pure, flat_pure cN3_pure, flat_pure cQ_pure, q1, q2]
 repeat refine ob ?_
 refine ⟨_, awake17_A, (by first | rfl | simp [allA, pure1, pureCs, pureC, A1.cells, flat_pure cQ_pure, flat_pure cClaim_pure, flat_pure cAgr_pure]), ?_⟩
 try unfold Later
 try simp only [(id F46), seval, cEst, cRat, hI0, flat_pure cClaim_pure, flat_pure cAgr_pure, flat_pure cN4_pure, flat_pure cN3_pure, flat_pure cQ_pure, q1, q2]
 repeat refine ob ?_
 refine ⟨_, hMu, (by first | rfl | simp [allA, pure1, pureCs, pureC, A1.cells, flat_pure cQ_pure, flat_pure cClaim_pure, flat_pure cAgr_pure]), ?_⟩
 try unfold Later
 try simp only [(id F46), seval, cEst, cRat, hI0, flat_pure cClaim_pure, flat_pure cAgr_pure, flat_pure cN4_pure, flat_pure cN3_pure, flat_pure cQ_pure, q1, q2]
 repeat refine ob ?_
 refine ⟨_, hAd2, (by first | rfl | simp [allA, pure1, pureCs, pureC, A1.cells, flat_pure cQ_pure, flat_pure cClaim_pure, flat_pure cAgr_pure]), ?_⟩
 try unfold Later
 try simp only [(id F46), seval, cEst, cRat, hI0, flat_pure cClaim_pure, flat_pure cAgr_pure, flat_pure cN4_pure, flat_pure cN3_pure, flat_pure cQ_pure, q1, q2]
 repeat refine ob ?_
 refine awX ?_
 (first | (simp only [(id F46), seval, cEst, cRat, hI0]; done) | (simp only [(id F46), seval, cEst, cRat]; first | (simp [hI0]; done)))
theorem lWL_walk (v0 v1 v2 v3 : Value) (list : List N4) (pools : List N3) (money part : Nat) (W : World) (o0 : rC (cSl 4 cN4) (okSl okN4) W (LT W.heap.size) [v0] list) (o1 : rC (cSl 3 cN3) (okSl okN3) W (LT W.heap.size) [v1] pools) (o2 : rC cU16 (· < 65536) W (LT W.heap.size) [v2] money) (o3 : rC (fun n : Nat => [.lit (.int .u8 n)]) (· < 256) W (LT W.heap.size) [v3] part) :
  Calls Tryz.prog 8 #[v0, v1, v2, v3] W fun e w' => e = .returned (.bool true) ∧ Below W.heap.size W w' := by
 obtain ⟨h0, k0⟩ := den_oneC o0 rfl
 obtain ⟨h1, k1⟩ := den_oneC o1 rfl
 obtain ⟨h2, k2⟩ := den_oneC o2 rfl
 obtain ⟨h3, k3⟩ := den_oneC o3 rfl
 exact acall_law (vs := [v0, v1, v2, v3]) (lWL_A list pools money part k0 k1 k2 k3) ⟨h0, h1, h2, h3, trivial⟩
end Go.Proofs.YtokmkopihhnggaaGreatDoor
