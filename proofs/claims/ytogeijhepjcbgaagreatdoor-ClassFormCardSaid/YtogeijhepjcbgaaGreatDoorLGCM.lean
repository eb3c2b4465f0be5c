/- GuaranteeCheck: the law's own function; walked by the abstract machine. -/
import Derived.Test.YtogeijhepjcbgaaGreatDoorFewM
import Derived.Test.YtogeijhepjcbgaaGreatDoorAw29M
import Derived.Test.YtogeijhepjcbgaaGreatDoorLawM
import Derived.Test.YtogeijhepjcbgaaGreatDoorCs3M
import Derived.Test.YtogeijhepjcbgaaGreatDoorOw4M
set_option linter.unusedVariables false
set_option linter.unusedSimpArgs false
set_option linter.defProp false
set_option linter.unnecessarySimpa false
set_option linter.unusedSectionVars false
section
/- GuaranteeCheck: the law's own function; walked by the abstract machine. -/
namespace Go.Proofs.YtogeijhepjcbgaaGreatDoor
open Go Go.RowKit
theorem acall_law {P : Program} {f : FuncId} {args : List A1} {vs : List Value} {w : World} (h : ACall P f args (one (.bool true))) (hd : den1s (kAll w) vs args) :
    Calls P f vs.toArray w fun e w' => e = .returned (.bool true) ∧ Below w.heap.size w w' :=
  (h.2 w (LT w.heap.size) vs (fun _ h => h) hd).mono fun e w' ⟨v, he, hb, hv⟩ => by
    have : v = .bool true := hv.1
    subst this
    exact ⟨he, hb⟩
theorem den_agg {α : Type} {enc : α → List C} {ok : α → Prop} {W : World} {v : Value} {a : α} (o : ∃ cs : Array Value, v = .agg cs ∧ rC enc ok W (LT W.heap.size) cs.toList a) : den1 (kAll W) v (.agg (enc a)) ∧ ok a := by
  obtain ⟨cs, rfl, h, k⟩ := o
  exact ⟨⟨cs.toList, by simp, h⟩, k⟩
theorem den_oneC {α : Type} {enc : α → List C} {ok : α → Prop} {W : World} {v : Value} {a : α} {c : C} (o : rC enc ok W (LT W.heap.size) [v] a) (he : enc a = [c]) : den1 (kAll W) v (.one c) ∧ ok a := by
  obtain ⟨h, k⟩ := o
  rw [he] at h
  exact ⟨h.1, k⟩
end Go.Proofs.YtogeijhepjcbgaaGreatDoor
end
section
/- Classes as arguments of a law, opened; ClassSum's own function. -/
namespace Go.Proofs.YtogeijhepjcbgaaGreatDoor
open Go Go.RowKit Go.ChangeShapes Go.WideShapes Go.ChangeAt
def okAm (e : GEst) : Prop := ∀ c ∈ e.claims, sB 1 c.amount
theorem grpE_am (n : Nat) (cash : List Nat) (list : List N4) (pools : List N3) : ∀ e ∈ grpE n cash list pools, okAm e := by
  have hz : okAm ztEst := by simp [okAm, ztEst]
  refine foldl_ok _ (fun es p h => ?_) _ _ (foldl_ok _ (fun es x h => ?_) _ _ fun e he => ?_)
  · unfold addAg
    split
    · exact set_ok h _ (getD_ok h hz (p.a % (1 + n % 4)))
    exact h
  · unfold addClaim
    split
    · exact h
    have h0 := getD_ok h hz (x.a % (1 + n % 4))
    generalize es.getD (x.a % (1 + n % 4)) ztEst = e at *
    refine set_ok h _ fun c hc => ?_
    rcases List.mem_append.1 hc with h1 | h1
    · exact h0 c h1
    obtain rfl : c = mkClaim (1 + n % 4) x := by simpa using h1
    exact sB_enc (amt_qB _)
  obtain ⟨i, _, rfl⟩ := List.mem_map.1 he
  simp [okAm, mkEst]
end Go.Proofs.YtogeijhepjcbgaaGreatDoor
end
section
/- A box that is read from here on; contracts at arguments that say less; groups whose ranks were changed. -/
namespace Go.Proofs.YtogeijhepjcbgaaGreatDoor
open Go Go.RowKit
section
variable {P : Program} {e : En} {k0 : Kx} {N : Nat} {st : St} {a : Act} {w : World} {Q : Exit → St → Prop} {c : Code}
theorem rel_pub_ptr {t nm s : Nat} {B : Blk} (hB : st.H nm = some B) (hsz : B.sz ≠ 0) (hs : B.st = s) (htm : st.tm t = .val (.one (.ptr nm s 0))) (hr : Rel e k0 N st a w) : Rel e k0 N ⟨up st.tm t (.val (.one (.sp B.cs))), up st.H nm none, st.nx, st.nb⟩ a w := by
  obtain ⟨σ, h1, h2, h3⟩ := hr.ex
  obtain ⟨k1, k2⟩ := h1.drop nm
  have hv := h2 t
  rw [htm] at hv
  obtain ⟨b, q1, q2, xs, q3, q4⟩ := own_ptr h1 hv hB hs
  have hlt := h1.lt hB (obk_of_own q1)
  refine ⟨⟨σ, k1, fun t' => ?_, h3.trans k2⟩, hr.df, hr.sz⟩
  show denA (kx e (up st.H nm none) st.nx σ w) _ (up st.tm t _ t')
  by_cases htt : t' = t
  · subst htt
    rw [up_same]
    simp only [denA, den1, den]
    refine ⟨b, 0, q2, ⟨.inr hlt.1, hlt.2, fun nm' B' hB' => ?_⟩, ?_⟩
    · have hB'' : up st.H nm none nm' = some B' := hB'
      by_cases h0 : nm' = nm
      · subst h0; rw [up_same] at hB''; cases hB''
      rw [up_ne _ _ h0] at hB''
      intro e1
      exact h1.inj nm' nm B' B hB'' hB h0 b e1 (obk_of_own q1)
    refine denM.of_vals (denVs_ext k2 q4) fun j u hu => ?_
    have hadd : (⟨b, 0, none⟩ : Addr).add j = ⟨b, 0 + j, none⟩ := by unfold Addr.add; split <;> simp_all
    have := q3.cells (g := b) q1 j u hu
    rw [hadd] at this
    exact this
  rw [up_ne _ _ htt]
  exact denA_ext k2 (h2 t')
theorem awp_pubp {t nm s : Nat} {B : Blk} (htm : st.tm t = .val (.one (.ptr nm s 0))) (hB : st.H nm = some B) (hsz : B.sz ≠ 0) (hs : B.st = s) (h : Awp P e k0 N c Q ⟨up st.tm t (.val (.one (.sp B.cs))), up st.H nm none, st.nx, st.nb⟩) : Awp P e k0 N c Q st := awp_wk (fun _ _ hr => rel_pub_ptr hB hsz hs htm hr) h
end
theorem acallI_args {P : Program} {f : FuncId} {args args' : List A1} {H : Hp} {nx : Nat} {R : AV → Hp → Nat → Prop} (h : ACallI P f args H nx R) (hd : ∀ κ vs, den1s κ vs args' → den1s κ vs args) : ACallI P f args' H nx R :=
  ⟨h.1, fun e σ w vs hW hv => h.2 e σ w vs hW (hd _ _ hv)⟩
theorem lateL_all (bits : Nat) : ∀ (l : List GClaim) (k : Nat), ∀ c ∈ lateL bits l k, ∃ d ∈ l, c.amount = d.amount ∧ c.holder = d.holder ∧ (c.rank = d.rank ∨ c.rank = 6 ∨ c.rank = 7)
  | [], _, c, h => by simp [lateL] at h
  | d :: l, k, c, h => by
    rcases List.mem_cons.1 h with rfl | h
    · refine ⟨d, by simp, rfl, rfl, ?_⟩
      unfold lateC
      dsimp only
      split
      · exact .inr (.inl rfl)
      split
      · exact .inr (.inr rfl)
      exact .inl rfl
    obtain ⟨x, h1, h2⟩ := lateL_all bits l (k + 1) c h
    exact ⟨x, List.mem_cons_of_mem _ h1, h2⟩
theorem lateE_all (bits : Nat) : ∀ (l : List GEst) (k : Nat), ∀ e ∈ lateE bits l k, ∃ d ∈ l, ∃ m, e = ⟨d.cash, lateL bits d.claims m, d.agrs⟩
  | [], _, c, h => by simp [lateE] at h
  | d :: l, k, c, h => by
    rcases List.mem_cons.1 h with rfl | h
    · exact ⟨d, by simp, k, rfl⟩
    obtain ⟨x, h1, h2⟩ := lateE_all bits l _ c h
    exact ⟨x, List.mem_cons_of_mem _ h1, h2⟩
noncomputable def lateN (n : Nat) (cash : List Nat) (list : List N4) (pools debts : List N3) (bits : Nat) : GGrp := ⟨lateE bits (grpE n cash list pools) 0, (grpN n cash list pools debts).debts⟩
theorem lateN_ok (n : Nat) (cash : List Nat) (list : List N4) (pools debts : List N3) (bits : Nat) : grpOK2 (lateN n cash list pools debts bits) ∧ (lateN n cash list pools debts bits).ests.length = 1 + n % 4 ∧ ∀ e ∈ (lateN n cash list pools debts bits).ests, e.claims.length ≤ 6 ∧ ∀ c ∈ e.claims, sB 1 c.amount := by
  have hok := grpN_ok n cash list pools debts
  have hb := grpE_okB n cash list pools
  have ha := grpE_am n cash list pools
  refine ⟨⟨fun e he => ?_, hok.1.2⟩, by show (lateE bits _ 0).length = _; rw [lateE_len]; exact grpE_len n cash list pools, fun e he => ?_⟩
  · obtain ⟨d, hd, m, rfl⟩ := lateE_all bits _ 0 e he
    obtain ⟨⟨k1, k2, k3, k4⟩, k5⟩ := hok.1.1 d hd
    refine ⟨⟨k1, fun c hc => ?_, by show (lateL bits d.claims m).length ≤ _; rw [lateL_len]; exact k3, k4⟩, k5⟩
    obtain ⟨x, hx, h1, _⟩ := lateL_all bits _ _ c hc
    rw [h1]; exact k2 x hx
  obtain ⟨d, hd, m, rfl⟩ := lateE_all bits _ 0 e he
  refine ⟨by show (lateL bits d.claims m).length ≤ _; rw [lateL_len]; exact (hb d hd).1, fun c hc => ?_⟩
  obtain ⟨x, hx, h1, _⟩ := lateL_all bits _ _ c hc
  rw [h1]; exact ha d hd x hx
end Go.Proofs.YtogeijhepjcbgaaGreatDoor
end
section
/- ClassForm: the law's own function; walked by the abstract machine. -/
namespace Go.Proofs.YtogeijhepjcbgaaGreatDoor
open Go Go.RowKit Go.ChangeShapes Go.WideShapes Go.ChangeAt
theorem foL_len (gc : Int) (lim : GRat) (g : GGrp) (hn : g.ests.length ≤ 1000) (hc : ∀ e ∈ g.ests, e.claims.length ≤ 1000) : (foL gc lim g).length ≤ 1000000000000 ∧ ∀ c ∈ foL gc lim g, c.claims.length ≤ 1000000000000 := by
  have hfl := foE_len lim g.ests 0 []
  have hfo := foE_ok (n := 1000) (lim := lim) (l := g.ests) (i := 0) (out := []) hc (by simp)
  simp only [List.length_nil] at hfl
  unfold foL
  split
  · split
    · simp
    exact ⟨by omega, fun c h => by have := (hfo c h).2; omega⟩
  simp
theorem fewR_big {r : GRat} (h : fewR r = true) : bigOK r := by
  simp only [fewR, Bool.and_eq_true, decide_eq_true_eq] at h
  exact ⟨by omega, by omega⟩
def F_lCF := And.intro zS (And.intro tf55 (And.intro tf38 (tf77)))
set_option maxRecDepth 100000 in
set_option maxHeartbeats 4000000 in
theorem lCF_A (n : Nat) (cash : List Nat) (list : List N4) (debts : List N3) (bits limit : Nat) (raw : GRat) (hn : n < 256) (hcs : okSl (· < 65536) cash) (hls : okSl okN4 list) (hds : okSl okN3 debts) (hbits : bits < 65536) (hlm : limit < 65536) : ACall Tryz.prog 5 [.one (.lit (.int .u8 n)), .one (.sh 1 cash.length (flat cU16 cash)), .one (.sh 4 list.length (flat cN4 list)), .one (.sh 3 debts.length (flat cN3 debts)), .one (.lit (.int .u16 bits)), .one (.lit (.int .u16 limit)), .agg (cRat raw)] (one (.bool true)) := by
 have hc1 : cash.length ≤ 9223372036854775807 := Nat.le_trans hcs.1 (by decide)
 have hl1 : list.length ≤ 9223372036854775807 := Nat.le_trans hls.1 (by decide)
 have hd1 : debts.length ≤ 9223372036854775807 := Nat.le_trans hds.1 (by decide)
 refine acall_of Tryz.func5 rfl (by decide) (N := 82) rfl (by simp) (R := [.tmp 14]) rfl fun en k0 => ?_
 refine awR [] [none, none] ?_
 simp only [(id F_lCF), seval, cGrp, cRat]
 repeat refine ob ?_
 by_cases hf : fewR raw = true
 ·
  refine awR [] [none, none, none] ?_
  simp only [(id F_lCF), seval, cGrp, hf, cRat]
  repeat refine ob ?_
  refine ⟨_, (fewR_A raw), (by first | rfl | simp [allA, pure1, pureCs, pureC, A1.cells, fmR, cGrp, flat_pure cCls_pure, flat_pure cEst_pure, flat_pure cDebt_pure]), ?_⟩
  try unfold Later
  try simp only [(id F_lCF), seval, cGrp, hf, cRat]
  repeat refine ob ?_
  refine awF ?_
  refine awK ?_
  simp only [(id F_lCF), seval]
  refine awp_pubp (t := 13) (by rfl) (by rfl) (by show (3 : Nat) ≠ 0; decide) (by rfl) ?_
  refine awp_keep [0, 1, 2, 3, 4, 5, 13] [] ?_
  simp only [(id F_lCF), seval]
  refine awR [32, 34] [none, none, none, none, none, none, none, none, none] ?_
  simp only [(id F_lCF), seval, cGrp, hf]
  repeat refine ob ?_
  refine ⟨_, acallI_args (group_I _ n cash list [] debts hn hcs.2 hls.2 (by simp) hds.2 hc1 hl1 (by simp) hd1) (fun κ vs h => ?_), ?_⟩
  ·
   obtain ⟨v1, vs1, rfl, d1, h⟩ := den1s_cons h
   obtain ⟨v2, vs2, rfl, d2, h⟩ := den1s_cons h
   obtain ⟨v3, vs3, rfl, d3, h⟩ := den1s_cons h
   obtain ⟨v4, vs4, rfl, d4, h⟩ := den1s_cons h
   exact ⟨d1, d2, d3, den_nilsh 3 d4, h⟩
  rintro res H' nx' ⟨ps, s, hps, rfl, rfl⟩
  have hpn : ps.length = 1 + n % 4 := by have := grpE_len n cash list []; rw [← hps, List.length_map] at this; exact this
  simp only [(id F_lCF), seval]
  repeat refine ob ?_
  refine ⟨_, late_I ps (grpN n cash list [] debts).debts bits ps.length s _ _ rfl (by omega) hbits (fun q hq => by have := (grpE_okB n cash list [] q.1 (by rw [← hps]; exact List.mem_map.2 ⟨q, hq, rfl⟩)).1; omega), ?_⟩
  rintro res H' nx' ⟨ps1, t4, hp1, hp2, rfl, rfl⟩
  simp only [(id F_lCF), seval]
  repeat refine ob ?_
  rw [hps] at hp1
  refine awp_on (tbl 103 69 ps1) [5, 13, 15] [49, 15] (by intro y B h; obtain ⟨a, r, rfl, h2, h3⟩ := tbl_some h; right; simp only [up_apply]; (repeat rw [if_neg (by omega)]); exact h) ?_
  simp only [(id F_lCF), seval]
  refine awp_wk (wk_pubsw 103 69 67 (by decide) 49 [(15, _)] (by simp) (by decide) ps.length _ ps1) ?_
  rw [eRw_flat, hp1]
  simp only [(id F_lCF), seval]
  refine awp_pubc 49 15 0 (by rfl) (by rfl) (by rfl) (by decide) (by show (5 : Nat) ≠ 0; decide) (by show (2 : Nat) ≠ 0; decide) rfl ?_
  simp only [(id F_lCF), seval]
  obtain ⟨hok, hgn, hgc⟩ := lateN_ok n cash list [] debts bits
  have hge : (lateN n cash list [] debts bits).ests = lateE bits (grpE n cash list []) 0 := rfl
  have hgd : (lateN n cash list [] debts bits).debts = (grpN n cash list [] debts).debts := rfl
  have hpl : ps.length = (lateN n cash list [] debts bits).ests.length := by rw [hgn, hpn]
  rw [← hgd, ← hge, hpl]
  generalize lateN n cash list [] debts bits = g at *
  clear hge hgd
  have hgo := grpOK2_ok hok
  have hce : ∀ e ∈ g.ests, e.claims.length ≤ 1000000 ∧ ∀ c ∈ e.claims, bigOK c.amount := fun e he => ⟨by have := (hgc e he).1; omega, fun c hc => ((hgc e he).2 c hc).mono (by decide)⟩
  have hlb : bigOK (enc (qAmt limit)) := (sB_enc (amt_qB limit)).mono (by decide)
  have hrb := fewR_big hf
  have hA := cForms_A g (enc (qAmt limit)) hlb hgo (by omega) hce
  have hB := rForms_A g (enc (qAmt limit)) hlb hok (by omega) hce
  have hC := cForms_A g raw hrb hgo (by omega) hce
  have hD := rForms_A g raw hrb hok (by omega) hce
  rw [← gc_cg] at hB hD
  have hL := foL_len (gcSpec g) (enc (qAmt limit)) g (by omega) (fun e he => by have := (hgc e he).1; omega)
  have hM := foL_len (gcSpec g) raw g (by omega) (fun e he => by have := (hgc e he).1; omega)
  have hS := SameClasses_yes _ hL.1 hL.2
  have hT := SameClasses_yes _ hM.1 hM.2
  generalize foL (gcSpec g) (enc (qAmt limit)) g = L1 at *
  generalize foC (gcSpec g) (enc (qAmt limit)) g = f1 at *
  generalize foL (gcSpec g) raw g = L2 at *
  generalize foC (gcSpec g) raw g = f2 at *
  refine awD (scq [1, 3, 4, 6, 9, 11, 13, 15, 17] .nil) [none, none, none, none, none, none, none, none, none] ?_
  simp only [(id F_lCF), seval, cGrp, hf, cRat, fmR, flat_pure cEst_pure, flat_pure cDebt_pure]
  repeat refine ob ?_
  refine ⟨_, (aAmount limit hlm), (by first | rfl | simp [allA, pure1, pureCs, pureC, A1.cells, fmR, cGrp, flat_pure cCls_pure, flat_pure cEst_pure, flat_pure cDebt_pure]), ?_⟩
  try unfold Later
  try simp only [(id F_lCF), seval, cGrp, hf, cRat, fmR, flat_pure cEst_pure, flat_pure cDebt_pure]
  repeat refine ob ?_
  refine ⟨_, hA, (by first | rfl | simp [allA, pure1, pureCs, pureC, A1.cells, fmR, cGrp, flat_pure cCls_pure, flat_pure cEst_pure, flat_pure cDebt_pure]), ?_⟩
  try unfold Later
  try simp only [(id F_lCF), seval, cGrp, hf, cRat, fmR, flat_pure cEst_pure, flat_pure cDebt_pure]
  repeat refine ob ?_
  refine awD (scq [1, 3, 4, 6, 9, 11, 13, 15, 17] .nil) [none, none, none, none, none, none, none, none, none] ?_
  simp only [(id F_lCF), seval, cGrp, hf, cRat, fmR, flat_pure cEst_pure, flat_pure cDebt_pure]
  repeat refine ob ?_
  refine ⟨_, (aAmount limit hlm), (by first | rfl | simp [allA, pure1, pureCs, pureC, A1.cells, fmR, cGrp, flat_pure cCls_pure, flat_pure cEst_pure, flat_pure cDebt_pure]), ?_⟩
  try unfold Later
  try simp only [(id F_lCF), seval, cGrp, hf, cRat, fmR, flat_pure cEst_pure, flat_pure cDebt_pure]
  repeat refine ob ?_
  refine ⟨_, hB, (by first | rfl | simp [allA, pure1, pureCs, pureC, A1.cells, fmR, cGrp, flat_pure cCls_pure, flat_pure cEst_pure, flat_pure cDebt_pure]), ?_⟩
  try unfold Later
  try simp only [(id F_lCF), seval, cGrp, hf, cRat, fmR, flat_pure cEst_pure, flat_pure cDebt_pure]
  repeat refine ob ?_
  refine awR [] [none, none, none, none, none, none, none, none] ?_
  simp only [(id F_lCF), seval, cGrp, hf, cRat, fmR, flat_pure cEst_pure, flat_pure cDebt_pure]
  repeat refine ob ?_
  refine ⟨_, hC, (by first | rfl | simp [allA, pure1, pureCs, pureC, A1.cells, fmR, cGrp, flat_pure cCls_pure, flat_pure cEst_pure, flat_pure cDebt_pure]), ?_⟩
  try unfold Later
  try simp only [(id F_lCF), seval, cGrp, hf, cRat, fmR, flat_pure cEst_pure, flat_pure cDebt_pure]
  repeat refine ob ?_
  refine awR [] [none, none, none, none, none, none, none, none] ?_
  simp only [(id F_lCF), seval, cGrp, hf, cRat, fmR, flat_pure cEst_pure, flat_pure cDebt_pure]
  repeat refine ob ?_
  refine ⟨_, hD, (by first | rfl | simp [allA, pure1, pureCs, pureC, A1.cells, fmR, cGrp, flat_pure cCls_pure, flat_pure cEst_pure, flat_pure cDebt_pure]), ?_⟩
  try unfold Later
  try simp only [(id F_lCF), seval, cGrp, hf, cRat, fmR, flat_pure cEst_pure, flat_pure cDebt_pure]
  repeat refine ob ?_
  refine awR [] [none, none, some (62, true), some (62, true), some (62, true), none, none, some (67, true), some (67, true), some (67, true), none, none, some (72, true), some (72, true), some (72, true), none, none, some (77, true), some (77, true), some (77, true), none, none] ?_
  simp only [(id F_lCF), seval, cGrp, hf, flat_pure cCls_pure, decide_true, BEq.rfl]
  repeat refine ob ?_
  refine ⟨_, awake29_A, (by first | rfl | simp [allA, pure1, pureCs, pureC, A1.cells, fmR, cGrp, flat_pure cCls_pure, flat_pure cEst_pure, flat_pure cDebt_pure]), ?_⟩
  try unfold Later
  try simp only [(id F_lCF), seval, cGrp, hf, flat_pure cCls_pure, decide_true, BEq.rfl]
  repeat refine ob ?_
  refine ⟨_, hS, (by first | rfl | simp [allA, pure1, pureCs, pureC, A1.cells, fmR, cGrp, flat_pure cCls_pure, flat_pure cEst_pure, flat_pure cDebt_pure]), ?_⟩
  try unfold Later
  try simp only [(id F_lCF), seval, cGrp, hf, flat_pure cCls_pure, decide_true, BEq.rfl]
  repeat refine ob ?_
  refine ⟨_, hT, (by first | rfl | simp [allA, pure1, pureCs, pureC, A1.cells, fmR, cGrp, flat_pure cCls_pure, flat_pure cEst_pure, flat_pure cDebt_pure]), ?_⟩
  try unfold Later
  try simp only [(id F_lCF), seval, cGrp, hf, flat_pure cCls_pure, decide_true, BEq.rfl]
  repeat refine ob ?_
  refine awX ?_
  (first | (simp only [(id F_lCF), seval, cGrp, hf]; done) | (simp only [(id F_lCF), seval, cGrp]; first | (simp [hf]; done)))
 refine awR [] [none, none, none] ?_
 simp only [(id F_lCF), seval, cGrp, hf, cRat]
 repeat refine ob ?_
 refine ⟨_, (fewR_A raw), (by first | rfl | simp [allA, pure1, pureCs, pureC, A1.cells, fmR, cGrp, flat_pure cCls_pure, flat_pure cEst_pure, flat_pure cDebt_pure]), ?_⟩
 try unfold Later
 try simp only [(id F_lCF), seval, cGrp, hf, cRat]
 repeat refine ob ?_
 refine awT ?_
 refine awR [] [none, none] ?_
 simp only [(id F_lCF), seval, cGrp, hf]
 repeat refine ob ?_
 refine ⟨_, awake29_A, (by first | rfl | simp [allA, pure1, pureCs, pureC, A1.cells, fmR, cGrp, flat_pure cCls_pure, flat_pure cEst_pure, flat_pure cDebt_pure]), ?_⟩
 try unfold Later
 try simp only [(id F_lCF), seval, cGrp, hf]
 repeat refine ob ?_
 refine awX ?_
 (first | (simp only [(id F_lCF), seval, cGrp, hf]; done) | (simp only [(id F_lCF), seval, cGrp]; first | (simp [hf]; done)))
theorem lCF_walk (v0 v1 v2 v3 v4 v5 v6 : Value) (n : Nat) (cash : List Nat) (list : List N4) (debts : List N3) (bits limit : Nat) (raw : GRat) (W : World) (o0 : rC (fun n : Nat => [.lit (.int .u8 n)]) (· < 256) W (LT W.heap.size) [v0] n) (o1 : rC (cSl 1 cU16) (okSl (· < 65536)) W (LT W.heap.size) [v1] cash) (o2 : rC (cSl 4 cN4) (okSl okN4) W (LT W.heap.size) [v2] list) (o3 : rC (cSl 3 cN3) (okSl okN3) W (LT W.heap.size) [v3] debts) (o4 : rC cU16 (· < 65536) W (LT W.heap.size) [v4] bits) (o5 : rC cU16 (· < 65536) W (LT W.heap.size) [v5] limit) (o6 : ∃ cs : Array Value, v6 = .agg cs ∧ rC cRat okRat W (LT W.heap.size) cs.toList raw) :
    Calls Tryz.prog 5 #[v0, v1, v2, v3, v4, v5, v6] W fun e w' => e = .returned (.bool true) ∧ Below W.heap.size W w' := by
  obtain ⟨h0, k0⟩ := den_oneC o0 rfl
  obtain ⟨h1, k1⟩ := den_oneC o1 rfl
  obtain ⟨h2, k2⟩ := den_oneC o2 rfl
  obtain ⟨h3, k3⟩ := den_oneC o3 rfl
  obtain ⟨h4, k4⟩ := den_oneC o4 rfl
  obtain ⟨h5, k5⟩ := den_oneC o5 rfl
  obtain ⟨h6, k6⟩ := den_agg o6
  exact acall_law (vs := [v0, v1, v2, v3, v4, v5, v6]) (lCF_A n cash list debts bits limit raw k0 k1 k2 k3 k4 k5) ⟨h0, h1, h2, h3, h4, h5, h6, trivial⟩
end Go.Proofs.YtogeijhepjcbgaaGreatDoor
end
