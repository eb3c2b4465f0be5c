/- ClassCheck: the law's own function; walked by the abstract machine. -/
import Derived.Test.YtpdmlemknomoeaaGreatDoorCk1M
import Derived.Test.YtpdmlemknomoeaaGreatDoorAw29M
import Derived.Test.YtpdmlemknomoeaaGreatDoorCs5M
import Derived.Test.YtpdmlemknomoeaaGreatDoorAbZM
set_option linter.unusedVariables false
set_option linter.unusedSimpArgs false
set_option linter.defProp false
set_option linter.unnecessarySimpa false
/- ClassCheck: the law's own function; walked by the abstract machine. -/
namespace Go.Proofs.YtpdmlemknomoeaaGreatDoor
open Go Go.RowKit Go.ChangeShapes Go.WideShapes Go.ChangeAt
theorem opensC_Clss : Opens Tryz.prog 51 (rC (cSl 4 cCls) (okSl okCls)) := opens_sl Tryz.underlying51 Tryz.cellsCCls (by decide) cCls_len opensC_Cls
def okRk (c : GCls) : Prop := -9223372036854775808 ≤ c.rank + 1 ∧ c.rank + 1 ≤ 9223372036854775807
theorem addCl_rk {out : List GCls} {c : GCls} (h : ∀ x ∈ out, okRk x) (hc : okRk c) : ∀ x ∈ addCl out c, okRk x := by
  unfold addCl
  split
  · intro x hx
    rcases List.mem_append.1 hx with hx | hx
    · exact h x hx
    obtain rfl : x = c := by simpa using hx
    exact hc
  exact h
theorem rkN_rk {e : GEst} {i : Int} {lim : GRat} {out : List GCls} (h : ∀ x ∈ out, okRk x) : ∀ m, m ≤ 8 → ∀ x ∈ rkN e i lim out m, okRk x
  | 0, _ => h
  | m + 1, hm => addCl_rk (addCl_rk (rkN_rk h m (by omega)) ⟨by simp [fmS]; omega, by simp [fmS]; omega⟩) ⟨by simp [fmS]; omega, by simp [fmS]; omega⟩
theorem foE_rk (lim : GRat) : ∀ (l : List GEst) (i : Nat) (out : List GCls), (∀ x ∈ out, okRk x) → ∀ x ∈ foE lim l i out, okRk x
  | [], _, _, h => h
  | e :: l, i, out, h => foE_rk lim l (i + 1) _ (rkN_rk h 8 (by omega))
def F_lCC := And.intro zS (And.intro tf70 (And.intro tf41 (And.intro tf68 (And.intro tf17 (And.intro tf7 (And.intro tf71 (And.intro tf72 (And.intro tf73 (And.intro tf61 (And.intro tf20 (And.intro tf24 (And.intro tf62 (And.intro tf63 (And.intro tf30 (And.intro tf39 (And.intro tf12 (And.intro tf4 (And.intro tf97 (And.intro tf66 (And.intro tf100 (tf13)))))))))))))))))))))
set_option maxRecDepth 100000 in
set_option maxHeartbeats 4000000 in
theorem lCC_A (n : Nat) (cash : List Nat) (list : List N4) (limit at9 wt : Nat) (raw : List GCls) (hn : n < 256) (hcs : okSl (· < 65536) cash) (hls : okSl okN4 list) (hlm : limit < 65536) (hat9 : at9 < 256) (hwt : wt < 256) (hrw : okSl okCls raw) : ACall Tryz.prog 4 [.one (.lit (.int .u8 n)), .one (.sh 1 cash.length (flat cU16 cash)), .one (.sh 4 list.length (flat cN4 list)), .one (.lit (.int .u16 limit)), .one (.lit (.int .u8 at9)), .one (.lit (.int .u8 wt)), .one (.sh 4 raw.length (flat cCls raw))] (one (.bool true)) := by
 have hc1 : cash.length ≤ 9223372036854775807 := Nat.le_trans hcs.1 (by decide)
 have hl1 : list.length ≤ 9223372036854775807 := Nat.le_trans hls.1 (by decide)
 have hrl0 := hrw.1
 unfold maxLen at hrl0
 refine acall_of Tryz.func4 rfl (by decide) (N := 161) rfl (by simp) (R := [.tmp 14]) rfl fun en k0 => ?_
 refine awR [] [none] ?_
 simp only [(id F_lCC), seval, cGrp]
 repeat refine ob ?_
 by_cases h8 : (8 : Int) < (raw.length : Int)
 ·
  refine awR [] [none, none, none] ?_
  simp only [(id F_lCC), seval, cGrp, h8]
  repeat refine ob ?_
  refine awT ?_
  refine awR [] [none, none] ?_
  simp only [(id F_lCC), seval, cGrp, h8]
  repeat refine ob ?_
  refine ⟨_, awake29_A, (by first | rfl | simp [allA, pure1, pureCs, pureC, A1.cells, cGrp, flat_pure cEst_pure, flat_pure cDebt_pure]), ?_⟩
  try unfold Later
  try simp only [(id F_lCC), seval, cGrp, h8]
  repeat refine ob ?_
  refine awX ?_
  (first | (simp only [(id F_lCC), seval, cGrp, h8]; done) | (simp only [(id F_lCC), seval, cGrp]; first | (simp [h8]; done)))
 refine awR [] [none, none, none] ?_
 simp only [(id F_lCC), seval, cGrp, h8]
 repeat refine ob ?_
 refine awF ?_
 refine awK ?_
 simp only [(id F_lCC), seval]
 have hrl : raw.length ≤ 1000000000000 := by omega
 have hrb : ∀ c ∈ raw, c.claims.length ≤ 9223372036854775807 := fun c hc => by have := (hrw.2 c hc).2.2.2.1; unfold maxLen at this; omega
 have hG := group_nil n cash list hn hcs.2 hls.2 hc1 hl1
 have hok := grpN_ok n cash list [] []
 have hel := grpE_len n cash list []
 have heb := grpE_okB n cash list []
 have ham := grpE_am n cash list []
 have hval := grpN_valid n cash list [] []
 rw [← gc_cg] at hval
 refine awR [] [none, none, none, none, none, none] ?_
 simp only [(id F_lCC), seval, cGrp, h8, flat_pure cU16_pure, flat_pure cN4_pure]
 repeat refine ob ?_
 refine ⟨_, hG, (by first | rfl | simp [allA, pure1, pureCs, pureC, A1.cells, cGrp, flat_pure cEst_pure, flat_pure cDebt_pure]), ?_⟩
 try unfold Later
 try simp only [(id F_lCC), seval, cGrp, h8, flat_pure cU16_pure, flat_pure cN4_pure]
 repeat refine ob ?_
 have hgl : (grpN n cash list [] []).ests.length = 1 + n % 4 := hel
 have hce : ∀ e ∈ (grpN n cash list [] []).ests, e.claims.length ≤ 1000000 ∧ ∀ c ∈ e.claims, bigOK c.amount := fun e he => ⟨by have := (heb e he).1; omega, fun c hc => (ham e he c hc).mono (by decide)⟩
 have hce6 : ∀ e ∈ (grpN n cash list [] []).ests, e.claims.length ≤ 6 := fun e he => (heb e he).1
 generalize grpN n cash list [] [] = g at *
 have hgo := grpOK2_ok hok.1
 repeat' first|apply awS|apply awB
 refine awp_drawsI [32] (by kernel_rfl) (.cons 0 true (.cons 1 true (.cons 2 false (.cons 3 false (.cons 4 true (.cons 5 true (.cons 6 true (.cons 7 true (.cons 8 true .nil))))))))) (by kernel_rfl) (gs := [none, none, none, none, none, none, none, none, none]) (by kernel_rfl) (by simp only [(id zS), seval]; rfl) (by decide) ?_
 simp only [(id F_lCC), seval, cGrp, h8, cRat, (id SD), (id SD)]
 repeat refine ob ?_
 refine ⟨_, (aAmount limit hlm), (by first | rfl | simp [allA, pure1, pureCs, pureC, A1.cells, cGrp, flat_pure cEst_pure, flat_pure cDebt_pure]), ?_⟩
 try unfold Later
 try simp only [(id F_lCC), seval, cGrp, h8, cRat, (id SD)]
 repeat refine ob ?_
 refine ⟨_, rForms_I g (enc (qAmt limit)) _ _ ?_ (by rw [← gc_cg]; exact hval) ((sB_enc (amt_qB limit)).mono (by decide)) hok.1 (by omega) hce, ?_⟩
 ·
  intro x B hB
  simp only [up_apply] at hB
  repeat (split at hB; · omega)
  cases hB
 rintro res H' nx' ⟨s, rfl, h46, hrest⟩
 have hB15 := hrest 15 (by omega)
 simp only [up_apply, (id F_lCC), seval] at hB15
 simp only [(id F_lCC), seval, (id SD)]
 have hfo := foE_ok (n := 6) (lim := enc (qAmt limit)) (l := g.ests) (i := 0) (out := []) hce6 (by simp)
 have hln := foE_len (enc (qAmt limit)) g.ests 0 []
 have hrk9 := foE_rk (enc (qAmt limit)) g.ests 0 []  (by simp)
 simp only [List.length_nil] at hln
 generalize foE (enc (qAmt limit)) g.ests 0 [] = l at *
 refine awp_keep [4, 5, 6, 15, 16] [15, 1046] ?_
 simp only [(id F_lCC), seval, h46, hB15]
 refine awp_cut2 (M := fun st => ∃ l2 nxB nx, (∀ c ∈ l2, c.claims.length ≤ 9223372036854775807) ∧ (l2.length ≤ 1000000000000) ∧ st = ⟨mkT [(6, .val (.one (.sh 4 raw.length (flat cCls raw)))), (15, .val (.one (.ptr 15 nxB 0))), (16, .val (.one (.sh 4 l2.length (flat cCls l2))))], mkH [(15, ⟨nxB, 27, 2, 1, cGrp g⟩)], nx, 0⟩) ?_ ?_
 ·
  by_cases hl : (0 : Int) < (l.length : Int)
  ·
   refine awR [] [none, none, none] ?_
   simp only [(id F_lCC), seval, cGrp, h8, hl]
   repeat refine ob ?_
   refine awT ?_
   have w1 := tmodN at9 l.length
   have hkl : at9 % l.length < l.length := Nat.mod_lt _ (by omega)
   obtain ⟨k, hk⟩ : ∃ k, k = at9 % l.length := ⟨_, rfl⟩
   rw [← hk] at w1 hkl
   refine awR [] [none, none, none, none, none, none] ?_
   simp only [(id F_lCC), seval, cGrp, h8, hl, w1]
   repeat refine ob ?_
   obtain ⟨c, hcg⟩ : ∃ c, l[k] = c := ⟨_, rfl⟩
   have hcf : okFc 6 c := hcg ▸ hfo _ (List.getElem_mem hkl)
   have hfl := flat_length cCls_len l
   have h3l : k * 4 + 3 < (flat cCls l).length := by omega
   have hatl := flat_at cCls_len l k hkl
   rw [hcg] at hatl
   have hg3 : (flat cCls l)[k * 4 + 3]? = some (.sh 1 c.claims.length (flat cI c.claims)) := by rw [← List.getElem?_drop, hatl]; rfl
   have hg2 : (flat cCls l)[k * 4 + 2]? = some (.lit (.bool c.small)) := by rw [← List.getElem?_drop, hatl]; rfl
   have hg1 : (flat cCls l)[k * 4 + 1]? = some (.lit (.int .i64 c.rank)) := by rw [← List.getElem?_drop, hatl]; rfl
   obtain ⟨c0, ct, hct⟩ : ∃ c0 ct, c.claims = c0 :: ct := by cases hh : c.claims with
    | nil => exact absurd hh hcf.1
    | cons a t => exact ⟨a, t, rfl⟩
   have hc0 : (flat cI c.claims)[0]? = some (.lit (.int .i64 c0)) := by rw [hct]; rfl
   have hcl6 := hcf.2
   have hfc : (flat cI c.claims).length = c.claims.length := by rw [flat_length cI_len, Nat.mul_one]
   have hcl0 : 0 < c.claims.length := by rw [hct]; simp
   refine awR [] [none, none, none, none] ?_
   simp only [(id F_lCC), seval, cGrp, h8, hl]
   repeat refine ob ?_
   have w2 : ((wt : Nat) : Int).tmod 12 = ((wt % 12 : Nat) : Int) := by norm_cast
   have w3 : IntKind.u8.wrap ((wt % 12 : Nat) : Int) = ((wt % 12 : Nat) : Int) := by have : wt % 12 < 12 := Nat.mod_lt _ (by decide); simp [IntKind.wrap, IntKind.bits, IntKind.signed]; omega
   obtain ⟨wh, hwh⟩ : ∃ wh, wh = wt % 12 := ⟨_, rfl⟩
   rw [← hwh] at w2 w3
   refine awR [] [none, none] ?_
   simp only [(id F_lCC), seval, cGrp, h8, hl, w2, w3]
   repeat refine ob ?_
   by_cases w0 : ((wh : Nat) : Int) = 0
   ·
    refine awR [] [none, none] ?_
    simp only [(id F_lCC), seval, cGrp, h8, hl, w0]
    repeat refine ob ?_
    refine awT ?_
    have hset := flat_setf cCls_len l k 0 [.lit (.int .i64 (g.ests.length : Int))] ⟨(g.ests.length : Int), c.rank, c.small, c.claims⟩ hkl (by simp) (by rw [hcg]; simp [cCls, spl, flat_nil])
    rw [Nat.add_zero] at hset
    refine awR [] [none, none, none, none, none, none, none] ?_
    simp only [(id F_lCC), seval, cGrp, h8, hl, w0]
    repeat refine ob ?_
    intro zc zQ hM
    simp only [hset]
    refine awp_pub (t := 16) (by rfl) (by rfl) (by decide) (by rfl) ?_
    simp only [(id F_lCC), seval]
    obtain ⟨l2, hl2⟩ : ∃ l2, l2 = (l.set k ⟨(g.ests.length : Int), c.rank, c.small, c.claims⟩) := ⟨_, rfl⟩
    have hl2n : l.length = l2.length := by rw [hl2]; simp
    rw [hl2n]
    rw [← hl2]
    have hlb : ∀ c ∈ l2, c.claims.length ≤ 9223372036854775807 := fun d hd => by
      rw [hl2] at hd
      rcases List.mem_or_eq_of_mem_set hd with h | rfl
      ·
       have := (hfo d h).2; omega
      have := hcf.2; simp; try omega
    have hl2l : l2.length ≤ 1000000000000 := by rw [hl2]; simp; omega
    refine awp_wk (wk_keep [6, 15, 16] [15]) (hM _ ⟨l2, ?_, ?_, hlb, hl2l, ?cs13⟩)
    case cs13 => (simp only [(id F_lCC), seval]; rfl)
   refine awR [] [none, none] ?_
   simp only [(id F_lCC), seval, cGrp, h8, hl, w0]
   repeat refine ob ?_
   refine awF ?_
   by_cases w1 : ((wh : Nat) : Int) = 1
   ·
    refine awR [] [none, none] ?_
    simp only [(id F_lCC), seval, cGrp, h8, hl, w0, w1]
    repeat refine ob ?_
    refine awT ?_
    refine awR [] [none, none, none, none] ?_
    simp only [(id F_lCC), seval, cGrp, h8, hl, w0, w1]
    repeat refine ob ?_
    intro zc zQ hM
    have hset := flat_setf cCls_len l k 3 [.sh 1 0 []] ⟨c.est, c.rank, c.small, []⟩ hkl (by simp) (by rw [hcg]; simp [cCls, spl, flat_nil])
    refine awp_wk (wk_cells 1046 (flat cCls (l.set k ⟨c.est, c.rank, c.small, []⟩)) (by rfl) (by show (4 : Nat) ≠ 0; decide) (by rw [flat_length cCls_len, spl_len1 _ _ _ h3l, flat_length cCls_len, List.length_set]) (fun κ vs h => by rw [← hset]; exact denVs_spl1 _ h3l (fun v hv => den_nilsh 1 hv) h)) ?_
    refine awp_pub (t := 16) (by rfl) (by rfl) (by decide) (by rfl) ?_
    simp only [(id F_lCC), seval]
    obtain ⟨l2, hl2⟩ : ∃ l2, l2 = (l.set k ⟨c.est, c.rank, c.small, []⟩) := ⟨_, rfl⟩
    have hl2n : l.length = l2.length := by rw [hl2]; simp
    rw [hl2n]
    rw [← hl2]
    have hlb : ∀ c ∈ l2, c.claims.length ≤ 9223372036854775807 := fun d hd => by
      rw [hl2] at hd
      rcases List.mem_or_eq_of_mem_set hd with h | rfl
      ·
       have := (hfo d h).2; omega
      have := hcf.2; simp; try omega
    have hl2l : l2.length ≤ 1000000000000 := by rw [hl2]; simp; omega
    refine awp_wk (wk_keep [6, 15, 16] [15]) (hM _ ⟨l2, ?_, ?_, hlb, hl2l, ?cs17⟩)
    case cs17 => (simp only [(id F_lCC), seval]; rfl)
   refine awR [] [none, none] ?_
   simp only [(id F_lCC), seval, cGrp, h8, hl, w0, w1]
   repeat refine ob ?_
   refine awF ?_
   by_cases w2 : ((wh : Nat) : Int) = 2
   ·
    refine awR [] [none, none] ?_
    simp only [(id F_lCC), seval, cGrp, h8, hl, w0, w1, w2]
    repeat refine ob ?_
    refine awT ?_
    repeat' first|apply awS|apply awB
    refine awp_regionB [] (gs := [none, none, none, none, none, none, none, none, none, none, none, none]) (by rfl) (by kernel_rfl) (by decide) ?_
    simp only [(id F_lCC), seval, cGrp, h8, hl, w0, w1, w2, hg3, (id SD)]
    repeat refine ob ?_
    intro zc zQ hM
    have hset := flat_setf cCls_len l k 3 [.sh 1 (c.claims ++ [9]).length (flat cI (c.claims ++ [9]))] ⟨c.est, c.rank, c.small, c.claims ++ [9]⟩ hkl (by simp) (by rw [hcg]; simp [cCls, spl, flat_nil])
    refine awp_pubc 71 1046 (k * 4 + 3) (by rfl) (by rfl) (by first | exact spl_get1 _ _ _ h3l | (simp only [(id F_lCC), seval]; exact spl_get1 _ _ _ h3l)) (by decide) (by show (1 : Nat) ≠ 0; decide) (by show (4 : Nat) ≠ 0; decide) rfl ?_
    simp only [(id F_lCC), seval, spl_set1 _ _ _ _ h3l]
    have hcs : flat cI (c.claims ++ [9]) = flat cI c.claims ++ [.lit (.int .i64 9)] := by simp [flat, cI]
    have hln : (c.claims ++ [9]).length = c.claims.length + 1 := by simp
    rw [hcs, hln] at hset
    simp only [hset]
    refine awp_pub (t := 16) (by rfl) (by rfl) (by decide) (by rfl) ?_
    simp only [(id F_lCC), seval]
    obtain ⟨l2, hl2⟩ : ∃ l2, l2 = (l.set k ⟨c.est, c.rank, c.small, c.claims ++ [9]⟩) := ⟨_, rfl⟩
    have hl2n : l.length = l2.length := by rw [hl2]; simp
    rw [hl2n]
    rw [← hl2]
    have hlb : ∀ c ∈ l2, c.claims.length ≤ 9223372036854775807 := fun d hd => by
      rw [hl2] at hd
      rcases List.mem_or_eq_of_mem_set hd with h | rfl
      ·
       have := (hfo d h).2; omega
      have := hcf.2; simp; try omega
    have hl2l : l2.length ≤ 1000000000000 := by rw [hl2]; simp; omega
    refine awp_wk (wk_keep [6, 15, 16] [15]) (hM _ ⟨l2, ?_, ?_, hlb, hl2l, ?cs21⟩)
    case cs21 => (simp only [(id F_lCC), seval]; rfl)
   refine awR [] [none, none] ?_
   simp only [(id F_lCC), seval, cGrp, h8, hl, w0, w1, w2]
   repeat refine ob ?_
   refine awF ?_
   by_cases w3 : ((wh : Nat) : Int) = 3
   ·
    refine awR [] [none, none] ?_
    simp only [(id F_lCC), seval, cGrp, h8, hl, w0, w1, w2, w3]
    repeat refine ob ?_
    refine awT ?_
    have hset := flat_setf cCls_len l k 1 [.lit (.int .i64 (c.rank + 1))] ⟨c.est, c.rank + 1, c.small, c.claims⟩ hkl (by simp) (by rw [hcg]; simp [cCls, spl, flat_nil])
    have hrk : -9223372036854775808 ≤ c.rank + 1 ∧ c.rank + 1 ≤ 9223372036854775807 := hrk9 c (hcg ▸ List.getElem_mem hkl)
    refine awR [] [none, none, none, none, none, none, none, none, none] ?_
    simp only [(id F_lCC), seval, cGrp, h8, hl, w0, w1, w2, w3, hg1]
    repeat refine ob ?_
    intro zc zQ hM
    simp only [hset]
    refine awp_pub (t := 16) (by rfl) (by rfl) (by decide) (by rfl) ?_
    simp only [(id F_lCC), seval]
    obtain ⟨l2, hl2⟩ : ∃ l2, l2 = (l.set k ⟨c.est, c.rank + 1, c.small, c.claims⟩) := ⟨_, rfl⟩
    have hl2n : l.length = l2.length := by rw [hl2]; simp
    rw [hl2n]
    rw [← hl2]
    have hlb : ∀ c ∈ l2, c.claims.length ≤ 9223372036854775807 := fun d hd => by
      rw [hl2] at hd
      rcases List.mem_or_eq_of_mem_set hd with h | rfl
      ·
       have := (hfo d h).2; omega
      have := hcf.2; simp; try omega
    have hl2l : l2.length ≤ 1000000000000 := by rw [hl2]; simp; omega
    refine awp_wk (wk_keep [6, 15, 16] [15]) (hM _ ⟨l2, ?_, ?_, hlb, hl2l, ?cs25⟩)
    case cs25 => (simp only [(id F_lCC), seval]; rfl)
   refine awR [] [none, none] ?_
   simp only [(id F_lCC), seval, cGrp, h8, hl, w0, w1, w2, w3]
   repeat refine ob ?_
   refine awF ?_
   by_cases w4 : ((wh : Nat) : Int) = 4
   ·
    refine awR [] [none, none] ?_
    simp only [(id F_lCC), seval, cGrp, h8, hl, w0, w1, w2, w3, w4]
    repeat refine ob ?_
    refine awT ?_
    repeat' first|apply awS|apply awB
    refine awp_drawsI [] (by kernel_rfl) (.cons 0 true (.cons 2 true (.cons 3 true (.cons 4 true (.cons 5 true (.cons 7 true (.cons 8 true (.cons 9 true (.two 1 10 (.two 6 10 (.cons 10 true (.cons 11 true (.cons 12 true (.cons 13 false (.cons 14 false (.cons 15 true (.cons 16 true (.cons 17 false .nil)))))))) (.cons 11 true (.two 6 12 (.cons 12 true (.cons 13 false (.cons 14 false (.cons 15 true (.cons 16 true (.cons 17 false .nil)))))) (.two 6 13 (.cons 13 false (.cons 14 false (.cons 15 true (.cons 16 true (.cons 17 false .nil))))) (.cons 6 false (.cons 14 false (.cons 15 true (.cons 16 true (.cons 17 false .nil))))))))) (.cons 11 true (.two 1 12 (.two 6 12 (.cons 12 true (.cons 13 false (.cons 14 false (.cons 15 true (.cons 16 true (.cons 17 false .nil)))))) (.two 6 13 (.cons 13 false (.cons 14 false (.cons 15 true (.cons 16 true (.cons 17 false .nil))))) (.cons 6 false (.cons 14 false (.cons 15 true (.cons 16 true (.cons 17 false .nil))))))) (.two 1 13 (.two 6 13 (.cons 13 false (.cons 14 false (.cons 15 true (.cons 16 true (.cons 17 false .nil))))) (.cons 6 false (.cons 14 false (.cons 15 true (.cons 16 true (.cons 17 false .nil)))))) (.cons 1 false (.cons 6 false (.cons 14 false (.cons 15 true (.cons 16 true (.cons 17 false .nil)))))))))))))))))) (by kernel_rfl) (gs := [none, none, none, none, none, none, none, none, none, none, none, none, none, none, none, none, none, none]) (by kernel_rfl) (by simp only [(id zS), seval]; rfl) (by decide) ?_
    simp only [(id F_lCC), seval, cGrp, h8, hl, w0, w1, w2, w3, w4, hg3, hc0, (id SD)]
    repeat refine ob ?_
    refine ⟨?_, ?_⟩
    ·
     repeat refine ob ?_
     refine ⟨?_, ?_⟩
     ·
      repeat refine ob ?_
      intro zc zQ hM
      have hset := flat_setf cCls_len l k 3 [.sh 1 (c.claims ++ [c0]).length (flat cI (c.claims ++ [c0]))] ⟨c.est, c.rank, c.small, c.claims ++ [c0]⟩ hkl (by simp) (by rw [hcg]; simp [cCls, spl, flat_nil])
      refine awp_pubc 100 1046 (k * 4 + 3) (by rfl) (by rfl) (by first | exact spl_get1 _ _ _ h3l | (simp only [(id F_lCC), seval]; exact spl_get1 _ _ _ h3l)) (by decide) (by show (1 : Nat) ≠ 0; decide) (by show (4 : Nat) ≠ 0; decide) rfl ?_
      simp only [(id F_lCC), seval, spl_set1 _ _ _ _ h3l]
      have hcs : flat cI (c.claims ++ [c0]) = flat cI c.claims ++ [.lit (.int .i64 c0)] := by simp [flat, cI]
      have hln : (c.claims ++ [c0]).length = c.claims.length + 1 := by simp
      rw [hcs, hln] at hset
      simp only [hset]
      refine awp_pub (t := 16) (by rfl) (by rfl) (by decide) (by rfl) ?_
      simp only [(id F_lCC), seval]
      obtain ⟨l2, hl2⟩ : ∃ l2, l2 = (l.set k ⟨c.est, c.rank, c.small, c.claims ++ [c0]⟩) := ⟨_, rfl⟩
      have hl2n : l.length = l2.length := by rw [hl2]; simp
      rw [hl2n]
      rw [← hl2]
      have hlb : ∀ c ∈ l2, c.claims.length ≤ 9223372036854775807 := fun d hd => by
        rw [hl2] at hd
        rcases List.mem_or_eq_of_mem_set hd with h | rfl
        ·
         have := (hfo d h).2; omega
        have := hcf.2; simp; try omega
      have hl2l : l2.length ≤ 1000000000000 := by rw [hl2]; simp; omega
      refine awp_wk (wk_keep [6, 15, 16] [15]) (hM _ ⟨l2, ?_, ?_, hlb, hl2l, ?cs29⟩)
      case cs29 => (simp only [(id F_lCC), seval]; rfl)
     repeat refine ob ?_
     refine ⟨?_, ?_⟩
     ·
      repeat refine ob ?_
      intro zc zQ hM
      have hset := flat_setf cCls_len l k 3 [.sh 1 (c.claims ++ [c0]).length (flat cI (c.claims ++ [c0]))] ⟨c.est, c.rank, c.small, c.claims ++ [c0]⟩ hkl (by simp) (by rw [hcg]; simp [cCls, spl, flat_nil])
      refine awp_pubc 100 1046 (k * 4 + 3) (by rfl) (by rfl) (by first | exact spl_get1 _ _ _ h3l | (simp only [(id F_lCC), seval]; exact spl_get1 _ _ _ h3l)) (by decide) (by show (1 : Nat) ≠ 0; decide) (by show (4 : Nat) ≠ 0; decide) rfl ?_
      simp only [(id F_lCC), seval, spl_set1 _ _ _ _ h3l]
      have hcs : flat cI (c.claims ++ [c0]) = flat cI c.claims ++ [.lit (.int .i64 c0)] := by simp [flat, cI]
      have hln : (c.claims ++ [c0]).length = c.claims.length + 1 := by simp
      rw [hcs, hln] at hset
      simp only [hset]
      refine awp_pub (t := 16) (by rfl) (by rfl) (by decide) (by rfl) ?_
      simp only [(id F_lCC), seval]
      obtain ⟨l2, hl2⟩ : ∃ l2, l2 = (l.set k ⟨c.est, c.rank, c.small, c.claims ++ [c0]⟩) := ⟨_, rfl⟩
      have hl2n : l.length = l2.length := by rw [hl2]; simp
      rw [hl2n]
      rw [← hl2]
      have hlb : ∀ c ∈ l2, c.claims.length ≤ 9223372036854775807 := fun d hd => by
        rw [hl2] at hd
        rcases List.mem_or_eq_of_mem_set hd with h | rfl
        ·
         have := (hfo d h).2; omega
        have := hcf.2; simp; try omega
      have hl2l : l2.length ≤ 1000000000000 := by rw [hl2]; simp; omega
      refine awp_wk (wk_keep [6, 15, 16] [15]) (hM _ ⟨l2, ?_, ?_, hlb, hl2l, ?cs30⟩)
      case cs30 => (simp only [(id F_lCC), seval]; rfl)
     repeat refine ob ?_
     refine ⟨?_, ?_⟩
     ·
      repeat refine ob ?_
      intro zc zQ hM
      have hset := flat_setf cCls_len l k 3 [.sh 1 (c.claims ++ [c0]).length (flat cI (c.claims ++ [c0]))] ⟨c.est, c.rank, c.small, c.claims ++ [c0]⟩ hkl (by simp) (by rw [hcg]; simp [cCls, spl, flat_nil])
      refine awp_pubc 100 1046 (k * 4 + 3) (by rfl) (by rfl) (by first | exact spl_get1 _ _ _ h3l | (simp only [(id F_lCC), seval]; exact spl_get1 _ _ _ h3l)) (by decide) (by show (1 : Nat) ≠ 0; decide) (by show (4 : Nat) ≠ 0; decide) rfl ?_
      simp only [(id F_lCC), seval, spl_set1 _ _ _ _ h3l]
      have hcs : flat cI (c.claims ++ [c0]) = flat cI c.claims ++ [.lit (.int .i64 c0)] := by simp [flat, cI]
      have hln : (c.claims ++ [c0]).length = c.claims.length + 1 := by simp
      rw [hcs, hln] at hset
      simp only [hset]
      refine awp_pub (t := 16) (by rfl) (by rfl) (by decide) (by rfl) ?_
      simp only [(id F_lCC), seval]
      obtain ⟨l2, hl2⟩ : ∃ l2, l2 = (l.set k ⟨c.est, c.rank, c.small, c.claims ++ [c0]⟩) := ⟨_, rfl⟩
      have hl2n : l.length = l2.length := by rw [hl2]; simp
      rw [hl2n]
      rw [← hl2]
      have hlb : ∀ c ∈ l2, c.claims.length ≤ 9223372036854775807 := fun d hd => by
        rw [hl2] at hd
        rcases List.mem_or_eq_of_mem_set hd with h | rfl
        ·
         have := (hfo d h).2; omega
        have := hcf.2; simp; try omega
      have hl2l : l2.length ≤ 1000000000000 := by rw [hl2]; simp; omega
      refine awp_wk (wk_keep [6, 15, 16] [15]) (hM _ ⟨l2, ?_, ?_, hlb, hl2l, ?cs31⟩)
      case cs31 => (simp only [(id F_lCC), seval]; rfl)
     repeat refine ob ?_
     intro zc zQ hM
     have hset := flat_setf cCls_len l k 3 [.sh 1 (c.claims ++ [c0]).length (flat cI (c.claims ++ [c0]))] ⟨c.est, c.rank, c.small, c.claims ++ [c0]⟩ hkl (by simp) (by rw [hcg]; simp [cCls, spl, flat_nil])
     refine awp_pubc 100 1046 (k * 4 + 3) (by rfl) (by rfl) (by first | exact spl_get1 _ _ _ h3l | (simp only [(id F_lCC), seval]; exact spl_get1 _ _ _ h3l)) (by decide) (by show (1 : Nat) ≠ 0; decide) (by show (4 : Nat) ≠ 0; decide) rfl ?_
     simp only [(id F_lCC), seval, spl_set1 _ _ _ _ h3l]
     have hcs : flat cI (c.claims ++ [c0]) = flat cI c.claims ++ [.lit (.int .i64 c0)] := by simp [flat, cI]
     have hln : (c.claims ++ [c0]).length = c.claims.length + 1 := by simp
     rw [hcs, hln] at hset
     simp only [hset]
     refine awp_pub (t := 16) (by rfl) (by rfl) (by decide) (by rfl) ?_
     simp only [(id F_lCC), seval]
     obtain ⟨l2, hl2⟩ : ∃ l2, l2 = (l.set k ⟨c.est, c.rank, c.small, c.claims ++ [c0]⟩) := ⟨_, rfl⟩
     have hl2n : l.length = l2.length := by rw [hl2]; simp
     rw [hl2n]
     rw [← hl2]
     have hlb : ∀ c ∈ l2, c.claims.length ≤ 9223372036854775807 := fun d hd => by
       rw [hl2] at hd
       rcases List.mem_or_eq_of_mem_set hd with h | rfl
       ·
        have := (hfo d h).2; omega
       have := hcf.2; simp; try omega
     have hl2l : l2.length ≤ 1000000000000 := by rw [hl2]; simp; omega
     refine awp_wk (wk_keep [6, 15, 16] [15]) (hM _ ⟨l2, ?_, ?_, hlb, hl2l, ?cs32⟩)
     case cs32 => (simp only [(id F_lCC), seval]; rfl)
    repeat refine ob ?_
    refine ⟨?_, ?_⟩
    ·
     repeat refine ob ?_
     refine ⟨?_, ?_⟩
     ·
      repeat refine ob ?_
      intro zc zQ hM
      have hset := flat_setf cCls_len l k 3 [.sh 1 (c.claims ++ [c0]).length (flat cI (c.claims ++ [c0]))] ⟨c.est, c.rank, c.small, c.claims ++ [c0]⟩ hkl (by simp) (by rw [hcg]; simp [cCls, spl, flat_nil])
      refine awp_pubc 100 1046 (k * 4 + 3) (by rfl) (by rfl) (by first | exact spl_get1 _ _ _ h3l | (simp only [(id F_lCC), seval]; exact spl_get1 _ _ _ h3l)) (by decide) (by show (1 : Nat) ≠ 0; decide) (by show (4 : Nat) ≠ 0; decide) rfl ?_
      simp only [(id F_lCC), seval, spl_set1 _ _ _ _ h3l]
      have hcs : flat cI (c.claims ++ [c0]) = flat cI c.claims ++ [.lit (.int .i64 c0)] := by simp [flat, cI]
      have hln : (c.claims ++ [c0]).length = c.claims.length + 1 := by simp
      rw [hcs, hln] at hset
      simp only [hset]
      refine awp_pub (t := 16) (by rfl) (by rfl) (by decide) (by rfl) ?_
      simp only [(id F_lCC), seval]
      obtain ⟨l2, hl2⟩ : ∃ l2, l2 = (l.set k ⟨c.est, c.rank, c.small, c.claims ++ [c0]⟩) := ⟨_, rfl⟩
      have hl2n : l.length = l2.length := by rw [hl2]; simp
      rw [hl2n]
      rw [← hl2]
      have hlb : ∀ c ∈ l2, c.claims.length ≤ 9223372036854775807 := fun d hd => by
        rw [hl2] at hd
        rcases List.mem_or_eq_of_mem_set hd with h | rfl
        ·
         have := (hfo d h).2; omega
        have := hcf.2; simp; try omega
      have hl2l : l2.length ≤ 1000000000000 := by rw [hl2]; simp; omega
      refine awp_wk (wk_keep [6, 15, 16] [15]) (hM _ ⟨l2, ?_, ?_, hlb, hl2l, ?cs33⟩)
      case cs33 => (simp only [(id F_lCC), seval]; rfl)
     repeat refine ob ?_
     refine ⟨?_, ?_⟩
     ·
      repeat refine ob ?_
      intro zc zQ hM
      have hset := flat_setf cCls_len l k 3 [.sh 1 (c.claims ++ [c0]).length (flat cI (c.claims ++ [c0]))] ⟨c.est, c.rank, c.small, c.claims ++ [c0]⟩ hkl (by simp) (by rw [hcg]; simp [cCls, spl, flat_nil])
      refine awp_pubc 100 1046 (k * 4 + 3) (by rfl) (by rfl) (by first | exact spl_get1 _ _ _ h3l | (simp only [(id F_lCC), seval]; exact spl_get1 _ _ _ h3l)) (by decide) (by show (1 : Nat) ≠ 0; decide) (by show (4 : Nat) ≠ 0; decide) rfl ?_
      simp only [(id F_lCC), seval, spl_set1 _ _ _ _ h3l]
      have hcs : flat cI (c.claims ++ [c0]) = flat cI c.claims ++ [.lit (.int .i64 c0)] := by simp [flat, cI]
      have hln : (c.claims ++ [c0]).length = c.claims.length + 1 := by simp
      rw [hcs, hln] at hset
      simp only [hset]
      refine awp_pub (t := 16) (by rfl) (by rfl) (by decide) (by rfl) ?_
      simp only [(id F_lCC), seval]
      obtain ⟨l2, hl2⟩ : ∃ l2, l2 = (l.set k ⟨c.est, c.rank, c.small, c.claims ++ [c0]⟩) := ⟨_, rfl⟩
      have hl2n : l.length = l2.length := by rw [hl2]; simp
      rw [hl2n]
      rw [← hl2]
      have hlb : ∀ c ∈ l2, c.claims.length ≤ 9223372036854775807 := fun d hd => by
        rw [hl2] at hd
        rcases List.mem_or_eq_of_mem_set hd with h | rfl
        ·
         have := (hfo d h).2; omega
        have := hcf.2; simp; try omega
      have hl2l : l2.length ≤ 1000000000000 := by rw [hl2]; simp; omega
      refine awp_wk (wk_keep [6, 15, 16] [15]) (hM _ ⟨l2, ?_, ?_, hlb, hl2l, ?cs34⟩)
      case cs34 => (simp only [(id F_lCC), seval]; rfl)
     repeat refine ob ?_
     intro zc zQ hM
     have hset := flat_setf cCls_len l k 3 [.sh 1 (c.claims ++ [c0]).length (flat cI (c.claims ++ [c0]))] ⟨c.est, c.rank, c.small, c.claims ++ [c0]⟩ hkl (by simp) (by rw [hcg]; simp [cCls, spl, flat_nil])
     refine awp_pubc 100 1046 (k * 4 + 3) (by rfl) (by rfl) (by first | exact spl_get1 _ _ _ h3l | (simp only [(id F_lCC), seval]; exact spl_get1 _ _ _ h3l)) (by decide) (by show (1 : Nat) ≠ 0; decide) (by show (4 : Nat) ≠ 0; decide) rfl ?_
     simp only [(id F_lCC), seval, spl_set1 _ _ _ _ h3l]
     have hcs : flat cI (c.claims ++ [c0]) = flat cI c.claims ++ [.lit (.int .i64 c0)] := by simp [flat, cI]
     have hln : (c.claims ++ [c0]).length = c.claims.length + 1 := by simp
     rw [hcs, hln] at hset
     simp only [hset]
     refine awp_pub (t := 16) (by rfl) (by rfl) (by decide) (by rfl) ?_
     simp only [(id F_lCC), seval]
     obtain ⟨l2, hl2⟩ : ∃ l2, l2 = (l.set k ⟨c.est, c.rank, c.small, c.claims ++ [c0]⟩) := ⟨_, rfl⟩
     have hl2n : l.length = l2.length := by rw [hl2]; simp
     rw [hl2n]
     rw [← hl2]
     have hlb : ∀ c ∈ l2, c.claims.length ≤ 9223372036854775807 := fun d hd => by
       rw [hl2] at hd
       rcases List.mem_or_eq_of_mem_set hd with h | rfl
       ·
        have := (hfo d h).2; omega
       have := hcf.2; simp; try omega
     have hl2l : l2.length ≤ 1000000000000 := by rw [hl2]; simp; omega
     refine awp_wk (wk_keep [6, 15, 16] [15]) (hM _ ⟨l2, ?_, ?_, hlb, hl2l, ?cs35⟩)
     case cs35 => (simp only [(id F_lCC), seval]; rfl)
    repeat refine ob ?_
    refine ⟨?_, ?_⟩
    ·
     repeat refine ob ?_
     refine ⟨?_, ?_⟩
     ·
      repeat refine ob ?_
      intro zc zQ hM
      have hset := flat_setf cCls_len l k 3 [.sh 1 (c.claims ++ [c0]).length (flat cI (c.claims ++ [c0]))] ⟨c.est, c.rank, c.small, c.claims ++ [c0]⟩ hkl (by simp) (by rw [hcg]; simp [cCls, spl, flat_nil])
      refine awp_pubc 100 1046 (k * 4 + 3) (by rfl) (by rfl) (by first | exact spl_get1 _ _ _ h3l | (simp only [(id F_lCC), seval]; exact spl_get1 _ _ _ h3l)) (by decide) (by show (1 : Nat) ≠ 0; decide) (by show (4 : Nat) ≠ 0; decide) rfl ?_
      simp only [(id F_lCC), seval, spl_set1 _ _ _ _ h3l]
      have hcs : flat cI (c.claims ++ [c0]) = flat cI c.claims ++ [.lit (.int .i64 c0)] := by simp [flat, cI]
      have hln : (c.claims ++ [c0]).length = c.claims.length + 1 := by simp
      rw [hcs, hln] at hset
      simp only [hset]
      refine awp_pub (t := 16) (by rfl) (by rfl) (by decide) (by rfl) ?_
      simp only [(id F_lCC), seval]
      obtain ⟨l2, hl2⟩ : ∃ l2, l2 = (l.set k ⟨c.est, c.rank, c.small, c.claims ++ [c0]⟩) := ⟨_, rfl⟩
      have hl2n : l.length = l2.length := by rw [hl2]; simp
      rw [hl2n]
      rw [← hl2]
      have hlb : ∀ c ∈ l2, c.claims.length ≤ 9223372036854775807 := fun d hd => by
        rw [hl2] at hd
        rcases List.mem_or_eq_of_mem_set hd with h | rfl
        ·
         have := (hfo d h).2; omega
        have := hcf.2; simp; try omega
      have hl2l : l2.length ≤ 1000000000000 := by rw [hl2]; simp; omega
      refine awp_wk (wk_keep [6, 15, 16] [15]) (hM _ ⟨l2, ?_, ?_, hlb, hl2l, ?cs36⟩)
      case cs36 => (simp only [(id F_lCC), seval]; rfl)
     repeat refine ob ?_
     intro zc zQ hM
     have hset := flat_setf cCls_len l k 3 [.sh 1 (c.claims ++ [c0]).length (flat cI (c.claims ++ [c0]))] ⟨c.est, c.rank, c.small, c.claims ++ [c0]⟩ hkl (by simp) (by rw [hcg]; simp [cCls, spl, flat_nil])
     refine awp_pubc 100 1046 (k * 4 + 3) (by rfl) (by rfl) (by first | exact spl_get1 _ _ _ h3l | (simp only [(id F_lCC), seval]; exact spl_get1 _ _ _ h3l)) (by decide) (by show (1 : Nat) ≠ 0; decide) (by show (4 : Nat) ≠ 0; decide) rfl ?_
     simp only [(id F_lCC), seval, spl_set1 _ _ _ _ h3l]
     have hcs : flat cI (c.claims ++ [c0]) = flat cI c.claims ++ [.lit (.int .i64 c0)] := by simp [flat, cI]
     have hln : (c.claims ++ [c0]).length = c.claims.length + 1 := by simp
     rw [hcs, hln] at hset
     simp only [hset]
     refine awp_pub (t := 16) (by rfl) (by rfl) (by decide) (by rfl) ?_
     simp only [(id F_lCC), seval]
     obtain ⟨l2, hl2⟩ : ∃ l2, l2 = (l.set k ⟨c.est, c.rank, c.small, c.claims ++ [c0]⟩) := ⟨_, rfl⟩
     have hl2n : l.length = l2.length := by rw [hl2]; simp
     rw [hl2n]
     rw [← hl2]
     have hlb : ∀ c ∈ l2, c.claims.length ≤ 9223372036854775807 := fun d hd => by
       rw [hl2] at hd
       rcases List.mem_or_eq_of_mem_set hd with h | rfl
       ·
        have := (hfo d h).2; omega
       have := hcf.2; simp; try omega
     have hl2l : l2.length ≤ 1000000000000 := by rw [hl2]; simp; omega
     refine awp_wk (wk_keep [6, 15, 16] [15]) (hM _ ⟨l2, ?_, ?_, hlb, hl2l, ?cs37⟩)
     case cs37 => (simp only [(id F_lCC), seval]; rfl)
    repeat refine ob ?_
    intro zc zQ hM
    have hset := flat_setf cCls_len l k 3 [.sh 1 (c.claims ++ [c0]).length (flat cI (c.claims ++ [c0]))] ⟨c.est, c.rank, c.small, c.claims ++ [c0]⟩ hkl (by simp) (by rw [hcg]; simp [cCls, spl, flat_nil])
    refine awp_pubc 100 1046 (k * 4 + 3) (by rfl) (by rfl) (by first | exact spl_get1 _ _ _ h3l | (simp only [(id F_lCC), seval]; exact spl_get1 _ _ _ h3l)) (by decide) (by show (1 : Nat) ≠ 0; decide) (by show (4 : Nat) ≠ 0; decide) rfl ?_
    simp only [(id F_lCC), seval, spl_set1 _ _ _ _ h3l]
    have hcs : flat cI (c.claims ++ [c0]) = flat cI c.claims ++ [.lit (.int .i64 c0)] := by simp [flat, cI]
    have hln : (c.claims ++ [c0]).length = c.claims.length + 1 := by simp
    rw [hcs, hln] at hset
    simp only [hset]
    refine awp_pub (t := 16) (by rfl) (by rfl) (by decide) (by rfl) ?_
    simp only [(id F_lCC), seval]
    obtain ⟨l2, hl2⟩ : ∃ l2, l2 = (l.set k ⟨c.est, c.rank, c.small, c.claims ++ [c0]⟩) := ⟨_, rfl⟩
    have hl2n : l.length = l2.length := by rw [hl2]; simp
    rw [hl2n]
    rw [← hl2]
    have hlb : ∀ c ∈ l2, c.claims.length ≤ 9223372036854775807 := fun d hd => by
      rw [hl2] at hd
      rcases List.mem_or_eq_of_mem_set hd with h | rfl
      ·
       have := (hfo d h).2; omega
      have := hcf.2; simp; try omega
    have hl2l : l2.length ≤ 1000000000000 := by rw [hl2]; simp; omega
    refine awp_wk (wk_keep [6, 15, 16] [15]) (hM _ ⟨l2, ?_, ?_, hlb, hl2l, ?cs38⟩)
    case cs38 => (simp only [(id F_lCC), seval]; rfl)
   refine awR [] [none, none] ?_
   simp only [(id F_lCC), seval, cGrp, h8, hl, w0, w1, w2, w3, w4]
   repeat refine ob ?_
   refine awF ?_
   by_cases w5 : ((wh : Nat) : Int) = 5
   ·
    refine awR [] [none, none] ?_
    simp only [(id F_lCC), seval, cGrp, h8, hl, w0, w1, w2, w3, w4, w5]
    repeat refine ob ?_
    refine awT ?_
    refine awR [] [none, none, none, none, none, none, none] ?_
    simp only [(id F_lCC), seval, cGrp, h8, hl, w0, w1, w2, w3, w4, w5, hatl, cCls]
    repeat refine ob ?_
    intro zc zQ hM
    refine awp_pub (t := 16) (by rfl) (by rfl) (by decide) (by rfl) ?_
    simp only [(id F_lCC), seval]
    obtain ⟨l2, hl2⟩ : ∃ l2, l2 = (l ++ [c]) := ⟨_, rfl⟩
    have hl2n : l.length + 1 = l2.length := by rw [hl2]; simp
    rw [show flat cCls l ++ [.lit (.int .i64 c.est), .lit (.int .i64 c.rank), .lit (.bool c.small), .sh 1 c.claims.length (flat cI c.claims)] = flat cCls l2 by rw [hl2, flat_snoc]; rfl]
    rw [hl2n]
    have hlb : ∀ c ∈ l2, c.claims.length ≤ 9223372036854775807 := fun d hd => by
      rw [hl2] at hd
      rcases List.mem_append.1 hd with h | h
      ·
       have := (hfo d h).2; omega
      obtain rfl : d = c := by simpa using h
      have := hcf.2; omega
    have hl2l : l2.length ≤ 1000000000000 := by rw [hl2]; simp; omega
    refine awp_wk (wk_keep [6, 15, 16] [15]) (hM _ ⟨l2, ?_, ?_, hlb, hl2l, ?cs42⟩)
    case cs42 => (simp only [(id F_lCC), seval]; rfl)
   refine awR [] [none, none] ?_
   simp only [(id F_lCC), seval, cGrp, h8, hl, w0, w1, w2, w3, w4, w5]
   repeat refine ob ?_
   refine awF ?_
   by_cases w6 : ((wh : Nat) : Int) = 6
   ·
    refine awR [] [none, none] ?_
    simp only [(id F_lCC), seval, cGrp, h8, hl, w0, w1, w2, w3, w4, w5, w6]
    repeat refine ob ?_
    refine awT ?_
    refine awp_pub (t := 16) (by rfl) (by rfl) (by decide) (by rfl) ?_
    simp only [(id F_lCC), seval]
    have hk1 : ((k : Int) + 1).toNat = k + 1 := by omega
    have hft := flat_take cCls_len l k
    have hfd := flat_drop cCls_len l (k + 1)
    have hfk : List.take ((l.length - (k + 1)) * 4) (flat cCls (l.drop (k + 1))) = flat cCls (l.drop (k + 1)) := List.take_of_length_le (by rw [flat_length cCls_len, List.length_drop]; omega)
    repeat' first|apply awS|apply awB
    refine awp_drawsI [] (by kernel_rfl) (.cons 1 true (.cons 2 true (.cons 3 true (.cons 5 true (.cons 6 true (.cons 7 true (.cons 8 true (.cons 0 false (.cons 4 false (.cons 9 false (.cons 10 true .nil))))))))))) (by kernel_rfl) (gs := [none, none, none, none, none, none, none, none, none, none, none]) (by kernel_rfl) (by simp only [(id zS), seval]; rfl) (by decide) ?_
    simp only [(id F_lCC), seval, cGrp, h8, hl, w0, w1, w2, w3, w4, w5, w6, hk1, hft, hfd, hfk, Nat.sub_zero, (id SD)]
    repeat refine ob ?_
    intro zc zQ hM
    refine awp_pub (t := 16) (by rfl) (by rfl) (by decide) (by rfl) ?_
    simp only [(id F_lCC), seval]
    obtain ⟨l2, hl2⟩ : ∃ l2, l2 = (l.take k ++ l.drop (k + 1)) := ⟨_, rfl⟩
    have hl2n : k + (l.length - (k + 1)) = l2.length := by rw [hl2]; simp; omega
    rw [show flat cCls (l.take k) ++ flat cCls (l.drop (k + 1)) = flat cCls l2 by rw [hl2, flat_append]]
    rw [hl2n]
    have hlb : ∀ c ∈ l2, c.claims.length ≤ 9223372036854775807 := fun d hd => by
      rw [hl2] at hd
      rcases List.mem_append.1 hd with h | h
      ·
       have := (hfo d (List.mem_of_mem_take h)).2; omega
      have := (hfo d (List.mem_of_mem_drop h)).2; omega
    have hl2l : l2.length ≤ 1000000000000 := by rw [hl2]; simp; omega
    refine awp_wk (wk_keep [6, 15, 16] [15]) (hM _ ⟨l2, ?_, ?_, hlb, hl2l, ?cs46⟩)
    case cs46 => (simp only [(id F_lCC), seval]; rfl)
   refine awR [] [none, none] ?_
   simp only [(id F_lCC), seval, cGrp, h8, hl, w0, w1, w2, w3, w4, w5, w6]
   repeat refine ob ?_
   refine awF ?_
   by_cases w7 : ((wh : Nat) : Int) = 7
   ·
    refine awR [] [none, none] ?_
    simp only [(id F_lCC), seval, cGrp, h8, hl, w0, w1, w2, w3, w4, w5, w6, w7]
    repeat refine ob ?_
    refine awT ?_
    have w4 : ((at9 : Nat) : Int).tmod 3 = ((at9 % 3 : Nat) : Int) := by norm_cast
    have w5 : IntKind.u8.wrap ((at9 % 3 : Nat) : Int) = ((at9 % 3 : Nat) : Int) := by have : at9 % 3 < 3 := Nat.mod_lt _ (by decide); simp [IntKind.wrap, IntKind.bits, IntKind.signed]; omega
    refine awR [] [none, none, none, none, none, none, none, none] ?_
    simp only [(id F_lCC), seval, cGrp, h8, hl, w0, w1, w2, w3, w4, w5, w6, w7, w4, w5]
    repeat refine ob ?_
    intro zc zQ hM
    have hset := flat_setf cCls_len l k 3 [.sh 1 [((at9 % 3 : Nat) : Int)].length (flat cI [((at9 % 3 : Nat) : Int)])] ⟨c.est, c.rank, c.small, [((at9 % 3 : Nat) : Int)]⟩ hkl (by simp) (by rw [hcg]; simp [cCls, spl, flat_nil])
    refine awp_pubc 129 1046 (k * 4 + 3) (by rfl) (by rfl) (by first | exact spl_get1 _ _ _ h3l | (simp only [(id F_lCC), seval]; exact spl_get1 _ _ _ h3l)) (by decide) (by show (1 : Nat) ≠ 0; decide) (by show (4 : Nat) ≠ 0; decide) rfl ?_
    simp only [(id F_lCC), seval, spl_set1 _ _ _ _ h3l]
    have hcs : flat cI [((at9 % 3 : Nat) : Int)] = [.lit (.int .i64 ((at9 % 3 : Nat) : Int))] := by simp [flat, cI]
    have hln : [((at9 % 3 : Nat) : Int)].length = 1 := by simp
    rw [hcs, hln] at hset
    simp only [hset]
    refine awp_pub (t := 16) (by rfl) (by rfl) (by decide) (by rfl) ?_
    simp only [(id F_lCC), seval]
    obtain ⟨l2, hl2⟩ : ∃ l2, l2 = (l.set k ⟨c.est, c.rank, c.small, [((at9 % 3 : Nat) : Int)]⟩) := ⟨_, rfl⟩
    have hl2n : l.length = l2.length := by rw [hl2]; simp
    rw [hl2n]
    rw [← hl2]
    have hlb : ∀ c ∈ l2, c.claims.length ≤ 9223372036854775807 := fun d hd => by
      rw [hl2] at hd
      rcases List.mem_or_eq_of_mem_set hd with h | rfl
      ·
       have := (hfo d h).2; omega
      have := hcf.2; simp; try omega
    have hl2l : l2.length ≤ 1000000000000 := by rw [hl2]; simp; omega
    refine awp_wk (wk_keep [6, 15, 16] [15]) (hM _ ⟨l2, ?_, ?_, hlb, hl2l, ?cs50⟩)
    case cs50 => (simp only [(id F_lCC), seval]; rfl)
   refine awR [] [none, none] ?_
   simp only [(id F_lCC), seval, cGrp, h8, hl, w0, w1, w2, w3, w4, w5, w6, w7]
   repeat refine ob ?_
   refine awF ?_
   by_cases w8 : ((wh : Nat) : Int) = 8
   ·
    refine awR [] [none, none] ?_
    simp only [(id F_lCC), seval, cGrp, h8, hl, w0, w1, w2, w3, w4, w5, w6, w7, w8]
    repeat refine ob ?_
    refine awT ?_
    have hset := flat_setf cCls_len l k 2 [.lit (.bool (!c.small))] ⟨c.est, c.rank, !c.small, c.claims⟩ hkl (by simp) (by rw [hcg]; simp [cCls, spl, flat_nil])
    refine awR [] [none, none, none, none, none, none, none, none, none] ?_
    simp only [(id F_lCC), seval, cGrp, h8, hl, w0, w1, w2, w3, w4, w5, w6, w7, w8, hg2]
    repeat refine ob ?_
    intro zc zQ hM
    simp only [hset]
    refine awp_pub (t := 16) (by rfl) (by rfl) (by decide) (by rfl) ?_
    simp only [(id F_lCC), seval]
    obtain ⟨l2, hl2⟩ : ∃ l2, l2 = (l.set k ⟨c.est, c.rank, !c.small, c.claims⟩) := ⟨_, rfl⟩
    have hl2n : l.length = l2.length := by rw [hl2]; simp
    rw [hl2n]
    rw [← hl2]
    have hlb : ∀ c ∈ l2, c.claims.length ≤ 9223372036854775807 := fun d hd => by
      rw [hl2] at hd
      rcases List.mem_or_eq_of_mem_set hd with h | rfl
      ·
       have := (hfo d h).2; omega
      have := hcf.2; simp; try omega
    have hl2l : l2.length ≤ 1000000000000 := by rw [hl2]; simp; omega
    refine awp_wk (wk_keep [6, 15, 16] [15]) (hM _ ⟨l2, ?_, ?_, hlb, hl2l, ?cs54⟩)
    case cs54 => (simp only [(id F_lCC), seval]; rfl)
   refine awR [] [none, none] ?_
   simp only [(id F_lCC), seval, cGrp, h8, hl, w0, w1, w2, w3, w4, w5, w6, w7, w8]
   repeat refine ob ?_
   refine awF ?_
   refine awK ?_
   simp only [(id F_lCC), seval]
   intro zc zQ hM
   refine awp_pub (t := 16) (by rfl) (by rfl) (by decide) (by rfl) ?_
   simp only [(id F_lCC), seval]
   obtain ⟨l2, hl2⟩ : ∃ l2, l2 = l := ⟨_, rfl⟩
   rw [← hl2]
   have hlb : ∀ c ∈ l2, c.claims.length ≤ 9223372036854775807 := fun c hc => by rw [hl2] at hc; have := (hfo c hc).2; omega
   have hl2l : l2.length ≤ 1000000000000 := by rw [hl2]; omega
   refine awp_wk (wk_keep [6, 15, 16] [15]) (hM _ ⟨l2, ?_, ?_, hlb, hl2l, ?cs56⟩)
   case cs56 => (simp only [(id F_lCC), seval]; rfl)
  refine awR [] [none, none, none] ?_
  simp only [(id F_lCC), seval, cGrp, h8, hl]
  repeat refine ob ?_
  refine awF ?_
  refine awK ?_
  simp only [(id F_lCC), seval]
  intro zc zQ hM
  refine awp_pub (t := 16) (by rfl) (by rfl) (by decide) (by rfl) ?_
  simp only [(id F_lCC), seval]
  obtain ⟨l2, hl2⟩ : ∃ l2, l2 = l := ⟨_, rfl⟩
  rw [← hl2]
  have hlb : ∀ c ∈ l2, c.claims.length ≤ 9223372036854775807 := fun c hc => by rw [hl2] at hc; have := (hfo c hc).2; omega
  have hl2l : l2.length ≤ 1000000000000 := by rw [hl2]; omega
  refine awp_wk (wk_keep [6, 15, 16] [15]) (hM _ ⟨l2, ?_, ?_, hlb, hl2l, ?cs58⟩)
  case cs58 => (simp only [(id F_lCC), seval]; rfl)
 rintro st ⟨l2, nxB, nx, hlb, hl2l, rfl⟩
 have hX := cCheckA_A g l2 hgo (by omega) hlb hl2l hce
 have hY := rCheckA_A g l2 hok.1 (by omega) hlb hl2l hce
 rw [← gc_cg, ← ckS_ckR] at hY
 have hZ := cCheckA_A g raw hgo (by omega) hrb hrl hce
 have hW := rCheckA_A g raw hok.1 (by omega) hrb hrl hce
 rw [← gc_cg, ← ckS_ckR] at hW
 refine awD (scq [0, 3, 5, 7, 11, 13, 8, 14, 17, 19, 21, 23, 25, 29, 31, 26, 32, 35, 37, 39] .nil) [none, none, some (143, true), some (143, true), some (143, true), some (143, true), some (143, true), some (143, true), some (143, true), none, none, some (152, true), some (152, true), some (152, true), some (152, true), some (152, true), some (152, true), some (152, true), none, none] ?_
 simp only [(id F_lCC), seval, cGrp, h8, flat_pure cEst_pure, flat_pure cDebt_pure, flat_pure cCls_pure, BEq.rfl, decide_true]
 repeat refine ob ?_
 refine ⟨_, awake29_A, (by first | rfl | simp [allA, pure1, pureCs, pureC, A1.cells, cGrp, flat_pure cEst_pure, flat_pure cDebt_pure]), ?_⟩
 try unfold Later
 try simp only [(id F_lCC), seval, cGrp, h8, flat_pure cEst_pure, flat_pure cDebt_pure, flat_pure cCls_pure, BEq.rfl, decide_true]
 repeat refine ob ?_
 refine ⟨_, hX, (by first | rfl | simp [allA, pure1, pureCs, pureC, A1.cells, cGrp, flat_pure cEst_pure, flat_pure cDebt_pure]), ?_⟩
 try unfold Later
 try simp only [(id F_lCC), seval, cGrp, h8, flat_pure cEst_pure, flat_pure cDebt_pure, flat_pure cCls_pure, BEq.rfl, decide_true]
 repeat refine ob ?_
 refine ⟨_, hY, (by first | rfl | simp [allA, pure1, pureCs, pureC, A1.cells, cGrp, flat_pure cEst_pure, flat_pure cDebt_pure]), ?_⟩
 try unfold Later
 try simp only [(id F_lCC), seval, cGrp, h8, flat_pure cEst_pure, flat_pure cDebt_pure, flat_pure cCls_pure, BEq.rfl, decide_true]
 repeat refine ob ?_
 refine ⟨_, hZ, (by first | rfl | simp [allA, pure1, pureCs, pureC, A1.cells, cGrp, flat_pure cEst_pure, flat_pure cDebt_pure]), ?_⟩
 try unfold Later
 try simp only [(id F_lCC), seval, cGrp, h8, flat_pure cEst_pure, flat_pure cDebt_pure, flat_pure cCls_pure, BEq.rfl, decide_true]
 repeat refine ob ?_
 refine ⟨_, hW, (by first | rfl | simp [allA, pure1, pureCs, pureC, A1.cells, cGrp, flat_pure cEst_pure, flat_pure cDebt_pure]), ?_⟩
 try unfold Later
 try simp only [(id F_lCC), seval, cGrp, h8, flat_pure cEst_pure, flat_pure cDebt_pure, flat_pure cCls_pure, BEq.rfl, decide_true]
 repeat refine ob ?_
 refine awX ?_
 (first | (simp only [(id F_lCC), seval, cGrp, h8]; done) | (simp only [(id F_lCC), seval, cGrp]; first | (simp [h8]; done)))
theorem lCC_walk (v0 v1 v2 v3 v4 v5 v6 : Value) (n : Nat) (cash : List Nat) (list : List N4) (limit at9 wt : Nat) (raw : List GCls) (W : World) (o0 : rC (fun n : Nat => [.lit (.int .u8 n)]) (· < 256) W (LT W.heap.size) [v0] n) (o1 : rC (cSl 1 cU16) (okSl (· < 65536)) W (LT W.heap.size) [v1] cash) (o2 : rC (cSl 4 cN4) (okSl okN4) W (LT W.heap.size) [v2] list) (o3 : rC cU16 (· < 65536) W (LT W.heap.size) [v3] limit) (o4 : rC (fun n : Nat => [.lit (.int .u8 n)]) (· < 256) W (LT W.heap.size) [v4] at9) (o5 : rC (fun n : Nat => [.lit (.int .u8 n)]) (· < 256) W (LT W.heap.size) [v5] wt) (o6 : rC (cSl 4 cCls) (okSl okCls) W (LT W.heap.size) [v6] raw) :
    Calls Tryz.prog 4 #[v0, v1, v2, v3, v4, v5, v6] W fun e w' => e = .returned (.bool true) ∧ Below W.heap.size W w' := by
  obtain ⟨h0, k0⟩ := den_oneC o0 rfl
  obtain ⟨h1, k1⟩ := den_oneC o1 rfl
  obtain ⟨h2, k2⟩ := den_oneC o2 rfl
  obtain ⟨h3, k3⟩ := den_oneC o3 rfl
  obtain ⟨h4, k4⟩ := den_oneC o4 rfl
  obtain ⟨h5, k5⟩ := den_oneC o5 rfl
  obtain ⟨h6, k6⟩ := den_oneC o6 rfl
  exact acall_law (vs := [v0, v1, v2, v3, v4, v5, v6]) (lCC_A n cash list limit at9 wt raw k0 k1 k2 k3 k4 k5 k6) ⟨h0, h1, h2, h3, h4, h5, h6, trivial⟩
end Go.Proofs.YtpdmlemknomoeaaGreatDoor
