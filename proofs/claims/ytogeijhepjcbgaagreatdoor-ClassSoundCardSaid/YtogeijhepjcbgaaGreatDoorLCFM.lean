/- ClassForm: the law's own function; walked by the abstract machine. -/
import Derived.Test.YtogeijhepjcbgaaGreatDoorLGCM
import Derived.Test.YtogeijhepjcbgaaGreatDoorFewM
import Derived.Test.YtogeijhepjcbgaaGreatDoorPl4M
import Derived.Test.YtogeijhepjcbgaaGreatDoorCk1M
set_option linter.unusedVariables false
set_option linter.unusedSimpArgs false
set_option linter.defProp false
set_option linter.unnecessarySimpa false
section
/- ClassForm: the law's own function; walked by the abstract machine. -/
namespace Go.Proofs.YtogeijhepjcbgaaGreatDoor
open Go Go.RowKit Go.ChangeShapes Go.WideShapes Go.ChangeAt
end Go.Proofs.YtogeijhepjcbgaaGreatDoor
end
section
/- ClassSound: the law's own function; walked by the abstract machine. -/
namespace Go.Proofs.YtogeijhepjcbgaaGreatDoor
open Go Go.RowKit Go.ChangeShapes Go.WideShapes Go.ChangeAt
theorem qBz0 : qB 1 (0 : Rat) := ⟨by decide, by decide⟩
theorem sumF_qB (f : Leg → Rat) : ∀ l : List Leg, (∀ x ∈ l, qB 1 (f x)) → qB (2 * l.length + 1) (sumF f l)
  | [], _ => qBz0
  | x :: l, h => by
    have h1 := sumF_qB f l fun y hy => h y (List.mem_cons_of_mem _ hy)
    exact ((h x (by simp)).add h1).mono (by rw [List.length_cons]; omega)
theorem am_qB (g : GGrp) (h : ∀ e ∈ g.ests, ∀ c ∈ e.claims, sB 1 c.amount) (c : GCls) (hc : goodC g c) : qB (2 * c.claims.length + 1) (sumF (amA g.ests) (clLg c)) := by
  have h1 := sumF_qB (amA g.ests) (clLg c) fun x hx => ?_
  · have h2 : (clLg c).length = c.claims.length := by simp [clLg]
    rwa [h2] at h1
  obtain ⟨k, hk, rfl⟩ := List.mem_map.1 hx
  obtain ⟨a1, a2, _, a4⟩ := hc
  obtain ⟨b1, b2, _⟩ := a4 k hk
  have he : g.ests.getD c.est.toNat ztEst ∈ g.ests := by
    rw [List.getD_eq_getElem?_getD, List.getElem?_eq_getElem (show c.est.toNat < g.ests.length by omega)]; exact List.getElem_mem _
  have hm : (g.ests.getD c.est.toNat ztEst).claims.getD k.toNat default ∈ (g.ests.getD c.est.toNat ztEst).claims := by
    generalize (g.ests.getD c.est.toNat ztEst).claims = cl at *
    rw [List.getD_eq_getElem?_getD, List.getElem?_eq_getElem (show k.toNat < cl.length by omega)]; exact List.getElem_mem _
  exact (h _ he _ hm).qB (by decide)
theorem late_rk (n : Nat) (cash : List Nat) (list : List N4) (pools debts : List N3) (bits : Nat) : ∀ e ∈ (lateN n cash list pools debts bits).ests, ∀ c ∈ e.claims, 0 ≤ c.rank ∧ c.rank ≤ 7 ∧ 0 ≤ qSgn (qOf c.amount) := fun e he c hc => by
  obtain ⟨d, hd, m, rfl⟩ := lateE_all bits _ 0 e he
  obtain ⟨x, hx, h1, h2, h3⟩ := lateL_all bits _ _ c hc
  obtain ⟨i, hi, rfl⟩ := List.getElem_of_mem hd
  obtain ⟨_, _, _, a4, a5, a6⟩ := (grpE_v n cash list pools i hi).2.1 x hx
  rw [h1]
  exact ⟨by omega, by omega, a6⟩
def F_lSo := And.intro zS (And.intro tf48 (And.intro tf98 (And.intro tf49 (And.intro tf32 (And.intro tf96 (And.intro tf50 (And.intro tf51 (And.intro tf86 (And.intro tf33 (And.intro tf52 (And.intro tf36 (And.intro tf53 (And.intro tf91 (And.intro tf55 (And.intro tf38 (And.intro tf14 (And.intro tf102 (And.intro tf77 (tf88)))))))))))))))))))
set_option maxRecDepth 100000 in
set_option maxHeartbeats 4000000 in
theorem lSo_A (n : Nat) (cash : List Nat) (list : List N4) (pools debts : List N3) (bits limit : Nat) (hn : n < 256) (hcs : okSl (· < 65536) cash) (hls : okSl okN4 list) (hps2 : okSl okN3 pools) (hds : okSl okN3 debts) (hbits : bits < 65536) (hlm : limit < 65536) : ACall Tryz.prog 12 [.one (.lit (.int .u8 n)), .one (.sh 1 cash.length (flat cU16 cash)), .one (.sh 4 list.length (flat cN4 list)), .one (.sh 3 pools.length (flat cN3 pools)), .one (.sh 3 debts.length (flat cN3 debts)), .one (.lit (.int .u16 bits)), .one (.lit (.int .u16 limit))] (one (.bool true)) := by
 have hc1 : cash.length ≤ 9223372036854775807 := Nat.le_trans hcs.1 (by decide)
 have hl1 : list.length ≤ 9223372036854775807 := Nat.le_trans hls.1 (by decide)
 have hp1 : pools.length ≤ 9223372036854775807 := Nat.le_trans hps2.1 (by decide)
 have hd1 : debts.length ≤ 9223372036854775807 := Nat.le_trans hds.1 (by decide)
 refine acall_of Tryz.func12 rfl (by decide) (N := 118) rfl (by simp) (R := [.tmp 14]) rfl fun en k0 => ?_
 refine awR [] [none] ?_
 simp only [(id F_lSo), seval, cGrp]
 repeat refine ob ?_
 refine awR [30, 32] [none, none, none, none, none, none, none, none, none, none] ?_
 simp only [(id F_lSo), seval, cGrp]
 repeat refine ob ?_
 refine ⟨_, group_I _ n cash list pools debts hn hcs.2 hls.2 hps2.2 hds.2 hc1 hl1 hp1 hd1, ?_⟩
 rintro res H' nxA ⟨ps, s, hps, rfl, rfl⟩
 have hpn : ps.length = 1 + n % 4 := by have := grpE_len n cash list pools; rw [← hps, List.length_map] at this; exact this
 simp only [(id F_lSo), seval]
 repeat refine ob ?_
 refine ⟨_, late_I ps (grpN n cash list pools debts).debts bits ps.length s _ _ rfl (by omega) hbits (fun q hq => by have := (grpE_okB n cash list pools q.1 (by rw [← hps]; exact List.mem_map.2 ⟨q, hq, rfl⟩)).1; omega), ?_⟩
 rintro res H' nxB ⟨ps1, t4, hq1, hq2, rfl, rfl⟩
 simp only [(id F_lSo), seval]
 repeat refine ob ?_
 rw [hps] at hq1
 refine awp_on (tbl 103 69 ps1) [6, 15] [49, 15] (by intro y B h; obtain ⟨a, r, rfl, h2, h3⟩ := tbl_some h; right; simp only [up_apply]; (repeat rw [if_neg (by omega)]); exact h) ?_
 simp only [(id F_lSo), seval]
 refine awp_wk (wk_pubsw 103 69 67 (by decide) 49 [(15, _)] (by simp) (by decide) ps.length _ ps1) ?_
 rw [eRw_flat, hq1]
 simp only [(id F_lSo), seval]
 refine awp_pubc 49 15 0 (by rfl) (by rfl) (by rfl) (by decide) (by show (5 : Nat) ≠ 0; decide) (by show (2 : Nat) ≠ 0; decide) rfl ?_
 simp only [(id F_lSo), seval]
 obtain ⟨hok, hgn, hgc⟩ := lateN_ok n cash list pools debts bits
 have hval := late_valid n cash list pools debts bits
 rw [← gc_cg] at hval
 have hrk := late_rk n cash list pools debts bits
 have hge : (lateN n cash list pools debts bits).ests = lateE bits (grpE n cash list pools) 0 := rfl
 have hgd : (lateN n cash list pools debts bits).debts = (grpN n cash list pools debts).debts := rfl
 have hpl : ps.length = (lateN n cash list pools debts bits).ests.length := by rw [hgn, hpn]
 rw [← hgd, ← hge, hpl]
 generalize lateN n cash list pools debts bits = g at *
 clear hge hgd
 have hgo := grpOK2_ok hok
 have hce : ∀ e ∈ g.ests, e.claims.length ≤ 1000000 ∧ ∀ c ∈ e.claims, bigOK c.amount := fun e he => ⟨by have := (hgc e he).1; omega, fun c hc => ((hgc e he).2 c hc).mono (by decide)⟩
 have hcs1 : ∀ e ∈ g.ests, e.claims.length ≤ 1000000 ∧ ∀ c ∈ e.claims, sB 1 c.amount := fun e he => ⟨by have := (hgc e he).1; omega, (hgc e he).2⟩
 have hlb : bigOK (enc (qAmt limit)) := (sB_enc (amt_qB limit)).mono (by decide)
 have hA := cForms_A g (enc (qAmt limit)) hlb hgo (by omega) hce
 have hfl := foE_len (enc (qAmt limit)) g.ests 0 []
 simp only [List.length_nil] at hfl
 have hfo := foE_ok (n := 6) (lim := enc (qAmt limit)) (l := g.ests) (i := 0) (out := []) (fun e he => (hgc e he).1) (by simp)
 have hgood := fo_good g (enc (qAmt limit))
 have hck := fo_check g (enc (qAmt limit)) (by omega) (fun e he c hc => ⟨(hrk e he c hc).1, (hrk e he c hc).2.1⟩)
 have hsums := fo_sums g (enc (qAmt limit)) hrk
 have hfc : foC (gcSpec g) (enc (qAmt limit)) g = 0 := by unfold foC; rw [if_pos hval, if_neg (by omega)]
 have hfL : foL (gcSpec g) (enc (qAmt limit)) g = foE (enc (qAmt limit)) g.ests 0 [] := by unfold foL; rw [if_pos hval, if_neg (by omega)]
 rw [hfc, hfL] at hA
 generalize foE (enc (qAmt limit)) g.ests 0 [] = l at *
 have hl6 : ∀ c ∈ l, c.claims.length ≤ 9223372036854775807 := fun c hc => by have := (hfo c hc).2; omega
 have hB := cCheckA_A g l hgo (by omega) hl6 (by omega) hce
 rw [hval, hck] at hB
 refine awD (scq [1, 3, 4, 6, 9, 11, 13, 15, 17] .nil) [none, none, none, none, none, none, none, none, none] ?_
 simp only [(id F_lSo), seval, cGrp, cRat, fmR, flat_pure cEst_pure, flat_pure cDebt_pure]
 repeat refine ob ?_
 refine ⟨_, (aAmount limit hlm), (by first | rfl | simp [allA, pure1, pureCs, pureC, A1.cells, fmR, cGrp, flat_pure cCls_pure, flat_pure cEst_pure, flat_pure cDebt_pure]), ?_⟩
 try unfold Later
 try simp only [(id F_lSo), seval, cGrp, cRat, fmR, flat_pure cEst_pure, flat_pure cDebt_pure]
 repeat refine ob ?_
 refine ⟨_, hA, (by first | rfl | simp [allA, pure1, pureCs, pureC, A1.cells, fmR, cGrp, flat_pure cCls_pure, flat_pure cEst_pure, flat_pure cDebt_pure]), ?_⟩
 try unfold Later
 try simp only [(id F_lSo), seval, cGrp, cRat, fmR, flat_pure cEst_pure, flat_pure cDebt_pure]
 repeat refine ob ?_
 refine awR [] [none, none, none, some (42, false), some (42, false), some (42, false), some (42, false), none] ?_
 simp only [(id F_lSo), seval, cGrp, decide_true, Bool.not_true, flat_pure cCls_pure, flat_pure cEst_pure, flat_pure cDebt_pure]
 repeat refine ob ?_
 refine ⟨_, hB, (by first | rfl | simp [allA, pure1, pureCs, pureC, A1.cells, fmR, cGrp, flat_pure cCls_pure, flat_pure cEst_pure, flat_pure cDebt_pure]), ?_⟩
 try unfold Later
 try simp only [(id F_lSo), seval, cGrp, decide_true, Bool.not_true, flat_pure cCls_pure, flat_pure cEst_pure, flat_pure cDebt_pure]
 repeat refine ob ?_
 refine awF ?_
 refine awK ?_
 simp only [(id F_lSo), seval]
 refine awR [] [none, none, none] ?_
 simp only [(id F_lSo), seval, cGrp]
 repeat refine ob ?_
 refine awR [] [none] ?_
 simp only [(id F_lSo), seval, cGrp]
 repeat refine ob ?_
 refine awp_wk (wk_cells 18 (cRat (enc 0)) (by rfl) (by show (3 : Nat) ≠ 0; decide) (by rfl) (fun κ vs h => by rw [← gZ_enc]; exact h)) ?_
 have hq0 : qB (20 * 0 + 1) (0 : Rat) := qBz0
 refine awp_keep [15, 16, 18, 19] [15, 18] ?_
 try unfold Later
 try simp only [(id F_lSo), seval, cGrp]
 repeat' first|apply awS|apply awB
 refine awp_loopw (fun n st => ∃ i0 q nx, i0 ≤ l.length ∧ n = l.length - i0 ∧ tsL g (l.drop i0) q = tsL g l 0 ∧ qB (20 * i0 + 1) q ∧ st = ⟨mkT [(15, .val (.one (.ptr 15 nxB 0))), (16, .val (.one (.sh 4 l.length (flat cCls l)))), (18, .val (.one (.ptr 18 (nxB + 1) 0))), (19, one (.int .i64 i0))], mkH [(15, ⟨nxB, 30, 2, 1, cGrp g⟩), (18, ⟨nxB + 1, 44, 3, 1, cRat (enc q)⟩)], nx, 0⟩) (l.length) ⟨0, 0, _, by omega, by omega, by rfl, (by first | omega | assumption | rfl | simp | (simp; omega)), rfl⟩ ?_
 rintro n0 st ⟨i0, q, nx0, hk0, rfl, hL0, hV0_1, rfl⟩
 by_cases hlt0 : i0 < l.length
 ·
  have hI0 : (i0 : Int) < (l.length : Int) := by omega
  have hat0 := flat_at cCls_len l i0 hlt0
  try rw [Nat.mul_one] at hat0
  rw [List.drop_eq_getElem_cons hlt0] at hL0
  have hcf := (hfo _ (List.getElem_mem hlt0)).2
  have hgc9 := hgood _ (List.getElem_mem hlt0)
  have hsg := smS_good g _ hgc9
  have hXq0 := am_qB g (fun e he => (hgc e he).2) _ hgc9
  generalize l[i0] = c at *
  simp only [tsL] at hL0
  refine awR [] [none, none, none, none] ?_
  simp only [(id F_lSo), seval, cGrp, hI0, hat0]
  repeat refine ob ?_
  refine awT ?_
  refine awK ?_
  simp only [(id F_lSo), seval]
  obtain ⟨X, hX⟩ : ∃ X, sumF (amA g.ests) (clLg c) = X := ⟨_, rfl⟩
  rw [hX] at hsg hXq0
  have hXq : qB 13 X := hXq0.mono (by omega)
  rw [hsg] at hL0
  dsimp only at hL0
  have hSm := cSum_A g c hgo (by omega) (by omega) hcs1
  rw [hval, hsg] at hSm
  simp only [smR, cCls] at hSm
  refine awD (scq [1, 3, 5, 7, 9] (.two 5 9 (scq [13, 15, 17, 18, 20, 23] .nil) (scq [10, 13, 15, 17, 20, 23] .nil))) [none, none, none, none, none, none, none, none, none, none, none, none] ?_
  simp only [(id F_lSo), seval, cGrp, hI0, hat0, hat0, cCls, cRat, flat_pure cI_pure, flat_pure cEst_pure, flat_pure cDebt_pure]
  repeat refine ob ?_
  refine ⟨?_, ?_⟩
  ·
   repeat refine ob ?_
   refine ⟨_, hSm, (by first | rfl | simp [allA, pure1, pureCs, pureC, A1.cells, fmR, cGrp, flat_pure cCls_pure, flat_pure cEst_pure, flat_pure cDebt_pure]), ?_⟩
   try unfold Later
   try simp only [(id F_lSo), seval, cGrp, hI0, hat0, hat0, cCls, cRat, flat_pure cI_pure, flat_pure cEst_pure, flat_pure cDebt_pure]
   repeat refine ob ?_
   refine awR [] [none, none] ?_
   simp only [(id F_lSo), seval, cGrp, hI0, hat0, decide_true, Bool.not_true]
   repeat refine ob ?_
   refine awF ?_
   refine awK ?_
   simp only [(id F_lSo), seval]
   have hAd := bAdd (enc q) (enc X) (20 * i0 + 1) 13 (sB_enc hV0_1) (sB_enc hXq) (by omega) (by decide) (by omega) (by decide)
   rw [qOf_enc, qOf_enc] at hAd
   have hq9 : qB (20 * (i0 + 1) + 1) (q + X) := (hV0_1.add hXq).mono (by omega)
   refine awR [] [none, none, none, none] ?_
   simp only [(id F_lSo), seval, cGrp, hI0, hat0, cRat]
   repeat refine ob ?_
   refine ⟨_, hAd, (by first | rfl | simp [allA, pure1, pureCs, pureC, A1.cells, fmR, cGrp, flat_pure cCls_pure, flat_pure cEst_pure, flat_pure cDebt_pure]), ?_⟩
   try unfold Later
   try simp only [(id F_lSo), seval, cGrp, hI0, hat0, cRat]
   repeat refine ob ?_
   refine awR [] [none, none, none] ?_
   simp only [(id F_lSo), seval, cGrp, hI0, hat0]
   repeat refine ob ?_
   repeat refine ob ?_
   refine ⟨_, wk_keep [15, 16, 18, 19] [15, 18], l.length - (i0 + 1), by omega, i0 + 1, (q + X), ?a11_nx, by omega, rfl, ?i11_0, ?i11_1, ?st11⟩
   case st11 => (simp only [(id F_lSo), seval, cGrp, hI0, hat0]; first | rfl | (simp [hI0, hat0, Nat.add_mul]; done))
   case i11_0 => (first | exact hL0 | (rw [← hL0]; simp only [reduceIte, hI0, hat0]; done) | (rw [← hL0]; simp [hI0, hat0]; done) | (simp [hI0, hat0] at hL0; simpa using hL0) | (rw [← hL0]; simp [*]; done))
   case i11_1 => (first | omega | assumption | (simp; omega) | (simp_all; done))
  repeat refine ob ?_
  refine ⟨_, hSm, (by first | rfl | simp [allA, pure1, pureCs, pureC, A1.cells, fmR, cGrp, flat_pure cCls_pure, flat_pure cEst_pure, flat_pure cDebt_pure]), ?_⟩
  try unfold Later
  try simp only [(id F_lSo), seval, cGrp, hI0, hat0, hat0, cCls, cRat, flat_pure cI_pure, flat_pure cEst_pure, flat_pure cDebt_pure]
  repeat refine ob ?_
  refine awR [] [none, none] ?_
  simp only [(id F_lSo), seval, cGrp, hI0, hat0, decide_true, Bool.not_true]
  repeat refine ob ?_
  refine awF ?_
  refine awK ?_
  simp only [(id F_lSo), seval]
  have hAd := bAdd (enc q) (enc X) (20 * i0 + 1) 13 (sB_enc hV0_1) (sB_enc hXq) (by omega) (by decide) (by omega) (by decide)
  rw [qOf_enc, qOf_enc] at hAd
  have hq9 : qB (20 * (i0 + 1) + 1) (q + X) := (hV0_1.add hXq).mono (by omega)
  refine awR [] [none, none, none, none] ?_
  simp only [(id F_lSo), seval, cGrp, hI0, hat0, cRat]
  repeat refine ob ?_
  refine ⟨_, hAd, (by first | rfl | simp [allA, pure1, pureCs, pureC, A1.cells, fmR, cGrp, flat_pure cCls_pure, flat_pure cEst_pure, flat_pure cDebt_pure]), ?_⟩
  try unfold Later
  try simp only [(id F_lSo), seval, cGrp, hI0, hat0, cRat]
  repeat refine ob ?_
  refine awR [] [none, none, none] ?_
  simp only [(id F_lSo), seval, cGrp, hI0, hat0]
  repeat refine ob ?_
  repeat refine ob ?_
  refine ⟨_, wk_keep [15, 16, 18, 19] [15, 18], l.length - (i0 + 1), by omega, i0 + 1, (q + X), ?a15_nx, by omega, rfl, ?i15_0, ?i15_1, ?st15⟩
  case st15 => (simp only [(id F_lSo), seval, cGrp, hI0, hat0]; first | rfl | (simp [hI0, hat0, Nat.add_mul]; done))
  case i15_0 => (first | exact hL0 | (rw [← hL0]; simp only [reduceIte, hI0, hat0]; done) | (rw [← hL0]; simp [hI0, hat0]; done) | (simp [hI0, hat0] at hL0; simpa using hL0) | (rw [← hL0]; simp [*]; done))
  case i15_1 => (first | omega | assumption | (simp; omega) | (simp_all; done))
 obtain rfl : i0 = l.length := by omega
 have hI0 : ¬ (l.length : Int) < (l.length : Int) := by omega
 rw [List.drop_length] at hL0
 simp only [tsL] at hL0
 refine awR [] [none, none, none, none] ?_
 simp only [(id F_lSo), seval, cGrp, hI0]
 repeat refine ob ?_
 refine awF ?_
 refine awQ ?_
 simp only [(id F_lSo), seval]
 refine awR [] [none, none, none] ?_
 simp only [(id F_lSo), seval, cGrp, hI0]
 repeat refine ob ?_
 refine awR [] [none] ?_
 simp only [(id F_lSo), seval, cGrp, hI0]
 repeat refine ob ?_
 refine awp_wk (wk_cells 22 (cRat (enc 0)) (by rfl) (by show (3 : Nat) ≠ 0; decide) (by rfl) (fun κ vs h => by rw [← gZ_enc]; exact h)) ?_
 have ha0 : qB (2 * (6 * 0) + 1) (0 : Rat) := qBz0
 refine awp_keep [15, 18, 22, 23] [15, 18, 22] ?_
 try unfold Later
 try simp only [(id F_lSo), seval, cGrp, hI0]
 repeat' first|apply awS|apply awB
 refine awp_loopw (fun n st => ∃ i1 a nx, i1 ≤ g.ests.length ∧ n = g.ests.length - i1 ∧ alE (g.ests.drop i1) a = alE g.ests 0 ∧ qB (2 * (6 * i1) + 1) a ∧ st = ⟨mkT [(15, .val (.one (.ptr 15 nxB 0))), (18, .val (.one (.ptr 18 (nxB + 1) 0))), (22, .val (.one (.ptr 22 nx0 0))), (23, one (.int .i64 i1))], mkH [(15, ⟨nxB, 30, 2, 1, cGrp g⟩), (18, ⟨nxB + 1, 44, 3, 1, cRat (enc q)⟩), (22, ⟨nx0, 44, 3, 1, cRat (enc a)⟩)], nx, 0⟩) (g.ests.length) ⟨0, 0, _, by omega, by omega, by rfl, (by first | omega | assumption | rfl | simp | (simp; omega)), rfl⟩ ?_
 rintro n1 st ⟨i1, a, nx1, hk1, rfl, hL1, hV1_1, rfl⟩
 by_cases hlt1 : i1 < g.ests.length
 ·
  have hI1 : (i1 : Int) < (g.ests.length : Int) := by omega
  have hat1 := flat_at cEst_len g.ests i1 hlt1
  try rw [Nat.mul_one] at hat1
  rw [List.drop_eq_getElem_cons hlt1] at hL1
  have hes := hgc _ (List.getElem_mem hlt1)
  generalize g.ests[i1] = e at *
  simp only [alE] at hL1
  refine awR [] [none, none, none, none, none] ?_
  simp only [(id F_lSo), seval, cGrp, hI0, hI1, hat1]
  repeat refine ob ?_
  refine awT ?_
  refine awK ?_
  simp only [(id F_lSo), seval]
  refine awR [] [none] ?_
  simp only [(id F_lSo), seval, cGrp, hI0, hI1, hat1]
  repeat refine ob ?_
  have hb0 : qB (2 * (6 * i1 + 0) + 1) a := hV1_1
  refine awp_keep [15, 18, 22, 23, 24] [15, 18, 22] ?_
  try unfold Later
  try simp only [(id F_lSo), seval, cGrp, hI0, hI1, hat1]
  repeat' first|apply awS|apply awB
  refine awp_loopw (fun n st => ∃ i2 b nx, i2 ≤ e.claims.length ∧ n = e.claims.length - i2 ∧ alC (e.claims.drop i2) b = alC e.claims a ∧ qB (2 * (6 * i1 + i2) + 1) b ∧ st = ⟨mkT [(15, .val (.one (.ptr 15 nxB 0))), (18, .val (.one (.ptr 18 (nxB + 1) 0))), (22, .val (.one (.ptr 22 nx0 0))), (23, one (.int .i64 i1)), (24, one (.int .i64 i2))], mkH [(15, ⟨nxB, 30, 2, 1, cGrp g⟩), (18, ⟨nxB + 1, 44, 3, 1, cRat (enc q)⟩), (22, ⟨nx0, 44, 3, 1, cRat (enc b)⟩)], nx, 0⟩) (e.claims.length) ⟨0, a, _, by omega, by omega, by rfl, (by first | omega | assumption | rfl | simp | (simp; omega)), rfl⟩ ?_
  rintro n2 st ⟨i2, b, nx2, hk2, rfl, hL2, hV2_1, rfl⟩
  by_cases hlt2 : i2 < e.claims.length
  ·
   have hI2 : (i2 : Int) < (e.claims.length : Int) := by omega
   have hat2 := flat_at cClaim_len e.claims i2 hlt2
   try rw [Nat.mul_one] at hat2
   rw [List.drop_eq_getElem_cons hlt2] at hL2
   have hys := hes.2 _ (List.getElem_mem hlt2)
   generalize e.claims[i2] = y at *
   simp only [alC] at hL2
   refine awR [] [none, none, none, none, none, none, none, none, none] ?_
   simp only [(id F_lSo), seval, cGrp, hI0, hI1, hat1, hI2, hat2, hat1, cEst]
   repeat refine ob ?_
   refine awT ?_
   refine awK ?_
   simp only [(id F_lSo), seval]
   by_cases hh : y.holder = -1
   ·
    have hb7 : qB (2 * (6 * i1 + (i2 + 1)) + 1) b := hV2_1.mono (by omega)
    refine awR [] [none, none, none, none, none, none, none, none, none, none, none] ?_
    simp only [(id F_lSo), seval, cGrp, hI0, hI1, hat1, hI2, hat2, hh, hat1, cEst, hat2, cClaim]
    repeat refine ob ?_
    refine awT ?_
    have hAd := bAdd (enc b) y.amount (2 * (6 * i1 + i2) + 1) 1 (sB_enc hV2_1) hys (by omega) (by decide) (by omega) (by decide)
    rw [qOf_enc] at hAd
    have hb8 : qB (2 * (6 * i1 + (i2 + 1)) + 1) (b + qOf y.amount) := (hV2_1.add (hys.qB (by decide))).mono (by omega)
    refine awD (scq [1, 3, 5, 7, 9, 11, 13, 15, 17, 19, 21, 22, 24] .nil) [none, none, none, none, none, none, none, none, none, none, none, none, none] ?_
    simp only [(id F_lSo), seval, cGrp, hI0, hI1, hat1, hI2, hat2, hh, hat1, cEst, hat2, cClaim, cRat]
    repeat refine ob ?_
    refine ⟨_, hAd, (by first | rfl | simp [allA, pure1, pureCs, pureC, A1.cells, fmR, cGrp, flat_pure cCls_pure, flat_pure cEst_pure, flat_pure cDebt_pure]), ?_⟩
    try unfold Later
    try simp only [(id F_lSo), seval, cGrp, hI0, hI1, hat1, hI2, hat2, hh, hat1, cEst, hat2, cClaim, cRat]
    repeat refine ob ?_
    refine awR [] [none, none, none] ?_
    simp only [(id F_lSo), seval, cGrp, hI0, hI1, hat1, hI2, hat2, hh]
    repeat refine ob ?_
    repeat refine ob ?_
    refine ⟨_, wk_keep [15, 18, 22, 23, 24] [15, 18, 22], e.claims.length - (i2 + 1), by omega, i2 + 1, (b + qOf y.amount), ?a25_nx, by omega, rfl, ?i25_0, ?i25_1, ?st25⟩
    case st25 => (simp only [(id F_lSo), seval, cGrp, hI0, hI1, hat1, hI2, hat2, hh]; first | rfl | (simp [hI0, hI1, hat1, hI2, hat2, hh, Nat.add_mul]; done))
    case i25_0 => (first | exact hL2 | (rw [← hL2]; simp only [reduceIte, hI0, hI1, hat1, hI2, hat2, hh]; done) | (rw [← hL2]; simp [hI0, hI1, hat1, hI2, hat2, hh]; done) | (simp [hI0, hI1, hat1, hI2, hat2, hh] at hL2; simpa using hL2) | (rw [← hL2]; simp [*]; done))
    case i25_1 => (first | omega | assumption | (simp; omega) | (simp_all; done))
   have hb7 : qB (2 * (6 * i1 + (i2 + 1)) + 1) b := hV2_1.mono (by omega)
   refine awR [] [none, none, none, none, none, none, none, none, none, none, none] ?_
   simp only [(id F_lSo), seval, cGrp, hI0, hI1, hat1, hI2, hat2, hh, hat1, cEst, hat2, cClaim]
   repeat refine ob ?_
   refine awF ?_
   refine awK ?_
   simp only [(id F_lSo), seval]
   refine awR [] [none, none, none] ?_
   simp only [(id F_lSo), seval, cGrp, hI0, hI1, hat1, hI2, hat2, hh]
   repeat refine ob ?_
   repeat refine ob ?_
   refine ⟨_, wk_keep [15, 18, 22, 23, 24] [15, 18, 22], e.claims.length - (i2 + 1), by omega, i2 + 1, (b), ?a28_nx, by omega, rfl, ?i28_0, ?i28_1, ?st28⟩
   case st28 => (simp only [(id F_lSo), seval, cGrp, hI0, hI1, hat1, hI2, hat2, hh]; first | rfl | (simp [hI0, hI1, hat1, hI2, hat2, hh, Nat.add_mul]; done))
   case i28_0 => (first | exact hL2 | (rw [← hL2]; simp only [reduceIte, hI0, hI1, hat1, hI2, hat2, hh]; done) | (rw [← hL2]; simp [hI0, hI1, hat1, hI2, hat2, hh]; done) | (simp [hI0, hI1, hat1, hI2, hat2, hh] at hL2; simpa using hL2) | (rw [← hL2]; simp [*]; done))
   case i28_1 => (first | omega | assumption | (simp; omega) | (simp_all; done))
  obtain rfl : i2 = e.claims.length := by omega
  have hI2 : ¬ (e.claims.length : Int) < (e.claims.length : Int) := by omega
  rw [List.drop_length] at hL2
  simp only [alC] at hL2
  refine awR [] [none, none, none, none, none, none, none, none, none] ?_
  simp only [(id F_lSo), seval, cGrp, hI0, hI1, hat1, hI2, hat1, cEst]
  repeat refine ob ?_
  refine awF ?_
  refine awQ ?_
  simp only [(id F_lSo), seval]
  have hb9 : qB (2 * (6 * (i1 + 1)) + 1) b := hV2_1.mono (by omega)
  refine awR [] [none, none, none] ?_
  simp only [(id F_lSo), seval, cGrp, hI0, hI1, hat1, hI2]
  repeat refine ob ?_
  repeat refine ob ?_
  refine ⟨_, wk_keep [15, 18, 22, 23] [15, 18, 22], g.ests.length - (i1 + 1), by omega, i1 + 1, ?a31_a, ?a31_nx, by omega, rfl, ?i31_0, ?i31_1, ?st31⟩
  case st31 => (simp only [(id F_lSo), seval, cGrp, hI0, hI1, hat1, hI2]; first | rfl | (simp [hI0, hI1, hat1, hI2, Nat.add_mul]; done))
  case i31_0 => (rw [← hL1, ← hL2])
  case i31_1 => (first | omega | assumption | (simp; omega) | (simp_all; done))
 obtain rfl : i1 = g.ests.length := by omega
 have hI1 : ¬ (g.ests.length : Int) < (g.ests.length : Int) := by omega
 rw [List.drop_length] at hL1
 simp only [alE] at hL1
 refine awR [] [none, none, none, none, none] ?_
 simp only [(id F_lSo), seval, cGrp, hI0, hI1]
 repeat refine ob ?_
 refine awF ?_
 refine awQ ?_
 simp only [(id F_lSo), seval]
 have hqa : q = a := by rw [hL0, hL1]; exact hsums
 have hCm := bCompare (enc q) (enc a) (20 * 64 + 1) (2 * (6 * 4) + 1) (sB_enc (hV0_1.mono (by omega))) (sB_enc (hV1_1.mono (by omega))) (by decide) (by decide) (by decide) (by decide)
 rw [qOf_enc, qOf_enc, hqa, show qCmp a a = 0 by unfold qCmp; simp [Rat.lt_irrefl]] at hCm
 rw [hqa]
 refine awR [] [none, none, some (112, true), some (112, true), some (112, true), some (112, true), none, none] ?_
 simp only [(id F_lSo), seval, cGrp, hI0, hI1, cRat, decide_true]
 repeat refine ob ?_
 refine ⟨_, awake29_A, (by first | rfl | simp [allA, pure1, pureCs, pureC, A1.cells, fmR, cGrp, flat_pure cCls_pure, flat_pure cEst_pure, flat_pure cDebt_pure]), ?_⟩
 try unfold Later
 try simp only [(id F_lSo), seval, cGrp, hI0, hI1, cRat, decide_true]
 repeat refine ob ?_
 refine ⟨_, hCm, (by first | rfl | simp [allA, pure1, pureCs, pureC, A1.cells, fmR, cGrp, flat_pure cCls_pure, flat_pure cEst_pure, flat_pure cDebt_pure]), ?_⟩
 try unfold Later
 try simp only [(id F_lSo), seval, cGrp, hI0, hI1, cRat, decide_true]
 repeat refine ob ?_
 refine awX ?_
 (first | (simp only [(id F_lSo), seval, cGrp, hI0, hI1, ← hL0, ← hL1]; done) | (simp only [(id F_lSo), seval, cGrp]; first | (simp [hI0, hI1, ← hL0, ← hL1]; done) | (simp [hI0, hI1]; done) | (rw [← hL0, ← hL1]; simp [hI0, hI1]; done)))
theorem lSo_walk (v0 v1 v2 v3 v4 v5 v6 : Value) (n : Nat) (cash : List Nat) (list : List N4) (pools debts : List N3) (bits limit : Nat) (W : World) (o0 : rC (fun n : Nat => [.lit (.int .u8 n)]) (· < 256) W (LT W.heap.size) [v0] n) (o1 : rC (cSl 1 cU16) (okSl (· < 65536)) W (LT W.heap.size) [v1] cash) (o2 : rC (cSl 4 cN4) (okSl okN4) W (LT W.heap.size) [v2] list) (o3 : rC (cSl 3 cN3) (okSl okN3) W (LT W.heap.size) [v3] pools) (o4 : rC (cSl 3 cN3) (okSl okN3) W (LT W.heap.size) [v4] debts) (o5 : rC cU16 (· < 65536) W (LT W.heap.size) [v5] bits) (o6 : rC cU16 (· < 65536) W (LT W.heap.size) [v6] limit) :
    Calls Tryz.prog 12 #[v0, v1, v2, v3, v4, v5, v6] W fun e w' => e = .returned (.bool true) ∧ Below W.heap.size W w' := by
  obtain ⟨h0, k0⟩ := den_oneC o0 rfl
  obtain ⟨h1, k1⟩ := den_oneC o1 rfl
  obtain ⟨h2, k2⟩ := den_oneC o2 rfl
  obtain ⟨h3, k3⟩ := den_oneC o3 rfl
  obtain ⟨h4, k4⟩ := den_oneC o4 rfl
  obtain ⟨h5, k5⟩ := den_oneC o5 rfl
  obtain ⟨h6, k6⟩ := den_oneC o6 rfl
  exact acall_law (vs := [v0, v1, v2, v3, v4, v5, v6]) (lSo_A n cash list pools debts bits limit k0 k1 k2 k3 k4 k5 k6) ⟨h0, h1, h2, h3, h4, h5, h6, trivial⟩
end Go.Proofs.YtogeijhepjcbgaaGreatDoor
end
