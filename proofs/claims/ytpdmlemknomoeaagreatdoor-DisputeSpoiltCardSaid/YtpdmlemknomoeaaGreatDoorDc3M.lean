/- Arguments of the laws about disputes, opened; few; awake; DisputeCheck's own function. -/
import Derived.Test.YtpdmlemknomoeaaGreatDoorDc2M
import Derived.Test.YtpdmlemknomoeaaGreatDoorBl6M
import Derived.Test.YtpdmlemknomoeaaGreatDoorGu4M
import Derived.Test.YtpdmlemknomoeaaGreatDoorCountM
import Derived.Test.YtpdmlemknomoeaaGreatDoorAbZM
set_option linter.unusedVariables false
set_option linter.unusedSimpArgs false
set_option linter.defProp false
set_option linter.unnecessarySimpa false
set_option linter.unusedSectionVars false
section
/- Arguments of the laws about disputes, opened; few; awake; DisputeCheck's own function. -/
namespace Go.Proofs.YtpdmlemknomoeaaGreatDoor
open Go Go.RowKit Go.ChangeShapes Go.WideShapes Go.ChangeAt
theorem awake22_A : ACall Tryz.prog 12 [] (one (.bool true)) :=
  acall_flat (fnOK_of Tryz.func12 (by decide) rfl) [] (.bool true) awake_any
end Go.Proofs.YtpdmlemknomoeaaGreatDoor
end
section
/- DisputeSpoilt: the law's own function; walked by the abstract machine. -/
namespace Go.Proofs.YtpdmlemknomoeaaGreatDoor
open Go Go.RowKit Go.ChangeShapes Go.WideShapes Go.ChangeAt
theorem disp_split (l : List GDisp) (kk : Nat) (h : kk < l.length) : ∃ (A B : List C) (d : GDisp), A.length = kk * 3 ∧ l[kk] = d ∧ opK kk l = d.opts ∧ (∀ x : GDisp, flat cDisp (l.set kk x) = A ++ cDisp x ++ B) ∧ flat cDisp l = A ++ cDisp d ++ B ∧ (0 < kk → ∃ (e0 c0 : Int) (t : List C), A = .lit (.int .i64 e0) :: .lit (.int .i64 c0) :: t) := by
  refine ⟨flat cDisp (l.take kk), flat cDisp (l.drop (kk + 1)), l[kk], ?_, rfl, ?_, fun x => ?_, ?_, fun h0 => ?_⟩
  · rw [flat_length cDisp_len, List.length_take]; omega
  · simp [opK, List.getD_eq_getElem?_getD, h]
  · rw [List.set_eq_take_append_cons_drop, if_pos h, flat_append, flat_cons, List.append_assoc]
  · conv => lhs; rw [← List.take_append_drop kk l, List.drop_eq_getElem_cons h]
    rw [flat_append, flat_cons, List.append_assoc]
  cases l with
  | nil => exact absurd h (by simp)
  | cons d0 l0 =>
    obtain ⟨k1, rfl⟩ : ∃ k1, kk = k1 + 1 := ⟨kk - 1, by omega⟩
    exact ⟨d0.est, d0.cl, _, by rw [List.take_succ_cons, flat_cons]; rfl⟩
theorem cK_split {kk so : Nat} {l : List GDisp} {A B : List C} {d : GDisp} (h : kk < l.length) (hA : A.length = kk * 3) (hk : opK kk l = d.opts) (hf : flat cDisp l = A ++ cDisp d ++ B) : cellsK kk so l = A ++ (.lit (.int .i64 d.est) :: .lit (.int .i64 d.cl) :: .own 3066 so d.opts.length 4 :: B) := by
  unfold cellsK
  rw [if_pos h, hf, hk, List.append_assoc]
  simp only [spl, cDisp, List.length_singleton]
  rw [List.take_append, List.drop_append, List.take_of_length_le (by omega), List.drop_eq_nil_of_le (by omega)]
  have h2 : kk * 3 + 2 - A.length = 2 := by omega
  have h3 : kk * 3 + 2 + 1 - A.length = 3 := by omega
  rw [h2, h3]
  simp
theorem opG_ok {y : GOpt} (h : opG y) : ratOK y.amount := by
  obtain ⟨⟨q, h1, h2, _⟩, _⟩ := h
  rw [h1]
  exact ⟨Nat.le_trans (sB_enc h2).1 (by decide), Nat.le_trans (sB_enc h2).2 (by decide)⟩
theorem dsOK {l l2 : List GDisp} {kk : Nat} {x : GDisp} (h : ∀ d ∈ l, okD d) (hl : l2 = l.set kk x) (hn : l2.length ≤ 1000000) (hx : x.opts.length ≤ 1000000 ∧ ∀ y ∈ x.opts, ratOK y.amount) : dispsOK l2 := by
  refine ⟨hn, fun d hd => ?_⟩
  rw [hl] at hd
  rcases List.mem_or_eq_of_mem_set hd with h1 | rfl
  · have h2 := h d h1
    exact ⟨by have := h2.2.1; omega, fun y hy => opG_ok (h2.2.2 y hy)⟩
  exact hx
theorem dsN {d : GDisp} (h : okD d) : d.opts.length ≤ 1000000 ∧ ∀ y ∈ d.opts, ratOK y.amount := ⟨by have := h.2.1; omega, fun y hy => opG_ok (h.2.2 y hy)⟩
theorem dsN3 {d : GDisp} (h : okD d) : (d.opts ++ [(⟨⟨false, bEmpty, bEmpty⟩, 0⟩ : GOpt), ⟨⟨false, bEmpty, bEmpty⟩, 0⟩, ⟨⟨false, bEmpty, bEmpty⟩, 0⟩]).length ≤ 1000000 ∧ ∀ y ∈ d.opts ++ [(⟨⟨false, bEmpty, bEmpty⟩, 0⟩ : GOpt), ⟨⟨false, bEmpty, bEmpty⟩, 0⟩, ⟨⟨false, bEmpty, bEmpty⟩, 0⟩], ratOK y.amount := by
  have h1 := h.2.1
  refine ⟨by rw [List.length_append]; simp only [List.length_cons, List.length_nil]; omega, fun y hy => ?_⟩
  rcases List.mem_append.1 hy with hy | hy
  · exact (dsN h).2 y hy
  have hz : y = ⟨⟨false, bEmpty, bEmpty⟩, 0⟩ := by simpa using hy
  rw [hz]
  exact ⟨by decide, by decide⟩
theorem dsN4 {d : GDisp} {x0 : GOpt} {ot : List GOpt} {r : Int} (ho : d.opts = x0 :: ot) (h : okD d) : ((⟨x0.amount, r⟩ : GOpt) :: ot).length ≤ 1000000 ∧ ∀ y ∈ ((⟨x0.amount, r⟩ : GOpt) :: ot), ratOK y.amount := by
  have h1 := dsN h
  rw [ho] at h1
  refine ⟨h1.1, fun y hy => ?_⟩
  rcases List.mem_cons.1 hy with rfl | hy
  · exact h1.2 x0 (by simp)
  exact h1.2 y (by simp [hy])
theorem dsN5 {d : GDisp} {x0 : GOpt} {ot : List GOpt} {r : Int} (ho : d.opts = x0 :: ot) (h : okD d) : ((⟨enc ((-1 : Int) : Rat), r⟩ : GOpt) :: ot).length ≤ 1000000 ∧ ∀ y ∈ ((⟨enc ((-1 : Int) : Rat), r⟩ : GOpt) :: ot), ratOK y.amount := by
  have h1 := dsN h
  rw [ho] at h1
  refine ⟨h1.1, fun y hy => ?_⟩
  rcases List.mem_cons.1 hy with rfl | hy
  · have hq : qB 1 ((-1 : Int) : Rat) := ⟨by decide, by decide⟩
    exact ⟨Nat.le_trans (sB_enc hq).1 (by decide), Nat.le_trans (sB_enc hq).2 (by decide)⟩
  exact h1.2 y (by simp [hy])
section
variable {A B : List C} {kk : Nat} (hA : A.length = kk * 3) (a b c : C)
include hA
theorem ds_get2 : (A ++ (a :: b :: c :: B))[kk * 3 + 2]? = some c := by rw [List.getElem?_append_right (by omega), hA, Nat.add_sub_cancel_left]; rfl
theorem ds_set2 (x : C) : (A ++ (a :: b :: c :: B)).set (kk * 3 + 2) x = A ++ (a :: b :: x :: B) := by rw [List.set_append_right _ _ (by omega), hA, Nat.add_sub_cancel_left]; rfl
theorem ds_spl (i : Nat) (xs : List C) : spl (A ++ (a :: b :: c :: B)) (kk * 3 + i) xs = A ++ spl (a :: b :: c :: B) i xs := by
  simp only [spl]
  rw [List.take_append, List.drop_append, List.take_of_length_le (by omega), List.drop_eq_nil_of_le (by omega), hA, Nat.add_sub_cancel_left, show kk * 3 + i + xs.length - kk * 3 = i + xs.length by omega]
  simp
theorem ds_spl0 (xs : List C) : spl (A ++ (a :: b :: c :: B)) (kk * 3) xs = A ++ spl (a :: b :: c :: B) 0 xs := ds_spl hA a b c 0 xs
theorem ds_len : (A ++ (a :: b :: c :: B)).length = kk * 3 + 3 + B.length := by simp [hA]; omega
end
def F_lDS := And.intro zS (And.intro tf69 (And.intro tf61 (And.intro tf54 (And.intro tf70 (And.intro tf62 (And.intro tf73 (And.intro tf63 (And.intro tf55 (And.intro tf22 (And.intro tf64 (And.intro tf65 (And.intro tf56 (And.intro tf66 (And.intro tf30 (And.intro tf31 (And.intro tf32 (And.intro tf12 (And.intro tf82 (And.intro tf4 (And.intro tf97 (And.intro tf59 (And.intro tf100 (tf68)))))))))))))))))))))))
set_option maxRecDepth 100000 in
set_option maxHeartbeats 4000000 in
theorem lDS_A (n : Nat) (cash : List Nat) (list ds : List N4) (at9 wt : Nat) (hn : n < 256) (hcs : okSl (· < 65536) cash) (hls : okSl okN4 list) (hds : okSl okN4 ds) (hat9 : at9 < 256) (hwt : wt < 256) : ACall Tryz.prog 3 [.one (.lit (.int .u8 n)), .one (.sh 1 cash.length (flat cU16 cash)), .one (.sh 4 list.length (flat cN4 list)), .one (.sh 4 ds.length (flat cN4 ds)), .one (.lit (.int .u8 at9)), .one (.lit (.int .u8 wt))] (one (.bool true)) := by
 have hc1 : cash.length ≤ 9223372036854775807 := Nat.le_trans hcs.1 (by decide)
 have hl1 : list.length ≤ 9223372036854775807 := Nat.le_trans hls.1 (by decide)
 have hd1 : ds.length ≤ 9223372036854775807 := Nat.le_trans hds.1 (by decide)
 refine acall_of Tryz.func3 rfl (by decide) (N := 100) rfl (by simp) (R := [.tmp 12]) rfl fun en k0 => ?_
 refine awR [] [none] ?_
 simp only [(id F_lDS), seval, cGrp]
 repeat refine ob ?_
 have hG := group_nil n cash list hn hcs.2 hls.2 hc1 hl1
 have hok := grpN_ok n cash list [] []
 have hel := grpE_len n cash list []
 have heb := grpE_okB n cash list []
 refine awR [] [none, none, none, none, none, none] ?_
 simp only [(id F_lDS), seval, cGrp, flat_pure cU16_pure, flat_pure cN4_pure]
 repeat refine ob ?_
 refine ⟨_, hG, (by first | rfl | simp [allA, pure1, pureCs, pureC, A1.cells, cGrp, flat_pure cEst_pure, flat_pure cDebt_pure]), ?_⟩
 try unfold Later
 try simp only [(id F_lDS), seval, cGrp, flat_pure cU16_pure, flat_pure cN4_pure]
 repeat refine ob ?_
 have hgn : (grpN n cash list [] []).ests.length ≤ 1000000 := by have : (grpN n cash list [] []).ests.length = 1 + n % 4 := hel; omega
 have hgc : ∀ e ∈ (grpN n cash list [] []).ests, e.claims.length ≤ 1000000 := fun e he => by have := (heb e he).1; omega
 have hok := hok.1
 generalize grpN n cash list [] [] = g at *
 obtain ⟨kk, hkk⟩ : ∃ kk, kk = at9 % (min (min ds.length 8) (spE g.ests 0 []).length) := ⟨_, rfl⟩
 refine awR [22] [none, none, none, none] ?_
 simp only [(id F_lDS), seval, cGrp]
 repeat refine ob ?_
 refine ⟨_, disputes_I g ds 8 kk _ _ hgn hgc hd1 hds.2 (by decide) (fun y B hB => ?_), ?_⟩
 ·
  simp only [up_apply] at hB
  repeat (split at hB; · omega)
  cases hB
 rintro res H' nx' ⟨l, all, s, so, hln, hperm, hokd, rfl, rfl⟩
 simp only [(id F_lDS), seval]
 repeat refine ob ?_
 refine awp_cut2 (M := fun st => ∃ l2 g2 nxB nx, (dispsOK l2) ∧ (grpOK2 g2) ∧ st = ⟨mkT [(13, .val (.one (.ptr 13 nxB 0))), (14, .val (.one (.sh 3 l2.length (flat cDisp l2))))], mkH [(13, ⟨nxB, 27, 2, 1, cGrp g2⟩)], nx, 0⟩) ?_ ?_
 ·
  by_cases hl : (0 : Int) < (l.length : Int)
  ·
   refine awR [] [none, none, none] ?_
   simp only [(id F_lDS), seval, cGrp, hl]
   repeat refine ob ?_
   refine awT ?_
   have hkl : kk < l.length := by rw [hkk, ← hln]; exact Nat.mod_lt _ (by omega)
   have w1 := tmodN at9 l.length
   rw [show at9 % l.length = kk by rw [hkk, hln]] at w1
   obtain ⟨A, B, d, hA, hd, hko, hset, hfl, hA0⟩ := disp_split l kk hkl
   have hcK := cK_split (so := so) hkl hA hko hfl
   rw [hcK]
   simp only [exK, if_pos hkl, hko]
   have hbl : B.length + kk * 3 + 3 = l.length * 3 := by have := flat_length cDisp_len l; rw [hfl] at this; simp [hA, cDisp_len] at this; omega
   have hdd := hokd d (hd ▸ List.getElem_mem hkl)
   have hlen9 := fun a b c => ds_len (B := B) hA a b c
   have hg9 := fun a b c => ds_get2 (B := B) hA a b c
   have hs0 := fun a b c xs => ds_spl0 (B := B) hA a b c xs
   have hs9 := fun a b c i xs => ds_spl (B := B) hA a b c i xs
   have hst9 := fun a b c x => ds_set2 (B := B) hA a b c x
   refine awR [] [none, none, none, none, none, none, none, none] ?_
   simp only [(id F_lDS), seval, cGrp, hl, w1]
   repeat refine ob ?_
   have w2 : ((wt : Nat) : Int).tmod 8 = ((wt % 8 : Nat) : Int) := by norm_cast
   have w3 : IntKind.u8.wrap ((wt % 8 : Nat) : Int) = ((wt % 8 : Nat) : Int) := by have : wt % 8 < 8 := Nat.mod_lt _ (by decide); simp [IntKind.wrap, IntKind.bits, IntKind.signed]; omega
   obtain ⟨wh, hwh⟩ : ∃ wh, wh = wt % 8 := ⟨_, rfl⟩
   rw [← hwh] at w2 w3
   refine awR [] [none, none] ?_
   simp only [(id F_lDS), seval, cGrp, hl, w2, w3]
   repeat refine ob ?_
   by_cases w0 : ((wh : Nat) : Int) = 0
   ·
    refine awR [] [none, none] ?_
    simp only [(id F_lDS), seval, cGrp, hl, w0]
    repeat refine ob ?_
    refine awT ?_
    refine awR [] [none, none, none, none, none] ?_
    simp only [(id F_lDS), seval, cGrp, hl, w0, hlen9, hg9, hs0, hs9]
    repeat refine ob ?_
    intro zc zQ hM
    refine awp_pubc 3066 1044 (kk * 3 + 2) (by rfl) (by rfl) (by first | exact hg9 _ _ _ | (simp only [(id F_lDS), seval]; exact hg9 _ _ _)) (by decide) (by show (4 : Nat) ≠ 0; decide) (by show (3 : Nat) ≠ 0; decide) rfl ?_
    simp only [(id F_lDS), seval, hst9]
    obtain ⟨l2, hl2⟩ : ∃ l2 : List GDisp, l2 = l.set kk ⟨d.est, -1, d.opts⟩ := ⟨_, rfl⟩
    have hr2 : flat cDisp l2 = A ++ cDisp ⟨d.est, -1, d.opts⟩ ++ B := by rw [hl2, hset]
    have hl3 : l2.length = l.length := by rw [hl2, List.length_set]
    refine awp_pub (t := 14) (by rfl) (by rfl) (by decide) (by rfl) ?_
    simp only [(id F_lDS), seval]
    have hrw : A ++ (.lit (.int .i64 d.est) :: .lit (.int .i64 (-1)) :: .sh 4 d.opts.length (flat cOpt d.opts) :: B) = flat cDisp l2 := by rw [hr2]; simp [cDisp, cOpt, flat_nil, flat_cons, flat_append]
    rw [hrw, ← hl3]
    have hlok : dispsOK l2 := dsOK hokd hl2 (by rw [hl3, hln]; omega) (dsN hdd)
    refine awp_wk (wk_keep [13, 14] [13]) (hM _ ⟨l2, g, ?_, ?_, hlok, hok, ?cs8⟩)
    case cs8 => (simp only [(id F_lDS), seval]; rfl)
   refine awR [] [none, none] ?_
   simp only [(id F_lDS), seval, cGrp, hl, w0]
   repeat refine ob ?_
   refine awF ?_
   by_cases w1 : ((wh : Nat) : Int) = 1
   ·
    refine awR [] [none, none] ?_
    simp only [(id F_lDS), seval, cGrp, hl, w0, w1]
    repeat refine ob ?_
    refine awT ?_
    obtain ⟨e0, c0, hl0⟩ : ∃ e0 c0 : Int, List.take 2 (A ++ (.lit (.int .i64 d.est) :: .lit (.int .i64 d.cl) :: .own 3066 so d.opts.length 4 :: B)) = [.lit (.int .i64 e0), .lit (.int .i64 c0)] := by
     rcases Nat.eq_zero_or_pos kk with h | h
     ·
      obtain rfl : A = [] := List.eq_nil_of_length_eq_zero (by omega)
      exact ⟨d.est, d.cl, rfl⟩
     obtain ⟨e0, c0, t, ht⟩ := hA0 h
     exact ⟨e0, c0, by rw [ht]; rfl⟩
    refine awR [] [none, none, none, none, none, none, none, none] ?_
    simp only [(id F_lDS), seval, cGrp, hl, w0, w1, hlen9, hg9, hs0, hs9, hl0]
    repeat refine ob ?_
    intro zc zQ hM
    refine awp_pubc 3066 1044 (kk * 3 + 2) (by rfl) (by rfl) (by first | exact hg9 _ _ _ | (simp only [(id F_lDS), seval]; exact hg9 _ _ _)) (by decide) (by show (4 : Nat) ≠ 0; decide) (by show (3 : Nat) ≠ 0; decide) rfl ?_
    simp only [(id F_lDS), seval, hst9]
    obtain ⟨l2, hl2⟩ : ∃ l2 : List GDisp, l2 = l.set kk ⟨e0, c0, d.opts⟩ := ⟨_, rfl⟩
    have hr2 : flat cDisp l2 = A ++ cDisp ⟨e0, c0, d.opts⟩ ++ B := by rw [hl2, hset]
    have hl3 : l2.length = l.length := by rw [hl2, List.length_set]
    refine awp_pub (t := 14) (by rfl) (by rfl) (by decide) (by rfl) ?_
    simp only [(id F_lDS), seval]
    have hrw : A ++ (.lit (.int .i64 e0) :: .lit (.int .i64 c0) :: .sh 4 d.opts.length (flat cOpt d.opts) :: B) = flat cDisp l2 := by rw [hr2]; simp [cDisp, cOpt, flat_nil, flat_cons, flat_append]
    rw [hrw, ← hl3]
    have hlok : dispsOK l2 := dsOK hokd hl2 (by rw [hl3, hln]; omega) (dsN hdd)
    refine awp_wk (wk_keep [13, 14] [13]) (hM _ ⟨l2, g, ?_, ?_, hlok, hok, ?cs12⟩)
    case cs12 => (simp only [(id F_lDS), seval]; rfl)
   refine awR [] [none, none] ?_
   simp only [(id F_lDS), seval, cGrp, hl, w0, w1]
   repeat refine ob ?_
   refine awF ?_
   by_cases w2 : ((wh : Nat) : Int) = 2
   ·
    refine awR [] [none, none] ?_
    simp only [(id F_lDS), seval, cGrp, hl, w0, w1, w2]
    repeat refine ob ?_
    refine awT ?_
    refine awR [] [none, none, none, none] ?_
    simp only [(id F_lDS), seval, cGrp, hl, w0, w1, w2, hlen9, hg9, hs0, hs9]
    repeat refine ob ?_
    intro zc zQ hM
    refine awp_wk (wk_cells 1044 (A ++ (.lit (.int .i64 d.est) :: .lit (.int .i64 d.cl) :: .sh 4 0 [] :: B)) (by rfl) (by show (3 : Nat) ≠ 0; decide) (by show _ = (A ++ (_ :: _ :: _ :: B)).length; rw [ds_len hA, ds_len hA]) (fun κ vs h => by have h9 := denVs_set (kk * 3 + 2) (hg9 _ _ _) (fun v hv => den_nilsh 4 hv) h; rwa [hst9] at h9)) ?_
    simp only [(id F_lDS), seval]
    obtain ⟨l2, hl2⟩ : ∃ l2 : List GDisp, l2 = l.set kk ⟨d.est, d.cl, []⟩ := ⟨_, rfl⟩
    have hr2 : flat cDisp l2 = A ++ cDisp ⟨d.est, d.cl, []⟩ ++ B := by rw [hl2, hset]
    have hl3 : l2.length = l.length := by rw [hl2, List.length_set]
    refine awp_pub (t := 14) (by rfl) (by rfl) (by decide) (by rfl) ?_
    simp only [(id F_lDS), seval]
    have hrw : A ++ (.lit (.int .i64 d.est) :: .lit (.int .i64 d.cl) :: .sh 4 0 [] :: B) = flat cDisp l2 := by rw [hr2]; simp [cDisp, cOpt, flat_nil, flat_cons, flat_append]
    rw [hrw, ← hl3]
    have hlok : dispsOK l2 := dsOK hokd hl2 (by rw [hl3, hln]; omega) (by exact ⟨by simp, by simp⟩)
    refine awp_wk (wk_keep [13, 14] [13]) (hM _ ⟨l2, g, ?_, ?_, hlok, hok, ?cs16⟩)
    case cs16 => (simp only [(id F_lDS), seval]; rfl)
   refine awR [] [none, none] ?_
   simp only [(id F_lDS), seval, cGrp, hl, w0, w1, w2]
   repeat refine ob ?_
   refine awF ?_
   by_cases w3 : ((wh : Nat) : Int) = 3
   ·
    refine awR [] [none, none] ?_
    simp only [(id F_lDS), seval, cGrp, hl, w0, w1, w2, w3]
    repeat refine ob ?_
    refine awT ?_
    have hod3 := hdd.2.1
    repeat' first|apply awS|apply awB
    refine awp_regionC [] (gs := [none, none, none, none, none, none, none, none, none, none, none]) (by rfl) (by kernel_rfl) (by decide) ?_
    simp only [(id F_lDS), seval, (id SE), cGrp, hlen9, hg9, hs0, hs9]
    repeat refine ob ?_
    intro zc zQ hM
    refine awp_pubc 64 1044 (kk * 3 + 2) (by rfl) (by rfl) (by first | exact hg9 _ _ _ | (simp only [(id F_lDS), seval]; exact hg9 _ _ _)) (by decide) (by show (4 : Nat) ≠ 0; decide) (by show (3 : Nat) ≠ 0; decide) rfl ?_
    simp only [(id F_lDS), seval, hst9]
    obtain ⟨l2, hl2⟩ : ∃ l2 : List GDisp, l2 = l.set kk ⟨d.est, d.cl, d.opts ++ [⟨⟨false, bEmpty, bEmpty⟩, 0⟩, ⟨⟨false, bEmpty, bEmpty⟩, 0⟩, ⟨⟨false, bEmpty, bEmpty⟩, 0⟩]⟩ := ⟨_, rfl⟩
    have hr2 : flat cDisp l2 = A ++ cDisp ⟨d.est, d.cl, d.opts ++ [⟨⟨false, bEmpty, bEmpty⟩, 0⟩, ⟨⟨false, bEmpty, bEmpty⟩, 0⟩, ⟨⟨false, bEmpty, bEmpty⟩, 0⟩]⟩ ++ B := by rw [hl2, hset]
    have hl3 : l2.length = l.length := by rw [hl2, List.length_set]
    refine awp_pub (t := 14) (by rfl) (by rfl) (by decide) (by rfl) ?_
    simp only [(id F_lDS), seval]
    have hrw : A ++ (.lit (.int .i64 d.est) :: .lit (.int .i64 d.cl) :: .sh 4 (d.opts.length + 3) (flat cOpt d.opts ++ [.lit (.bool false), .lit (.string bEmpty), .lit (.string bEmpty), .lit (.int .i64 0), .lit (.bool false), .lit (.string bEmpty), .lit (.string bEmpty), .lit (.int .i64 0), .lit (.bool false), .lit (.string bEmpty), .lit (.string bEmpty), .lit (.int .i64 0)]) :: B) = flat cDisp l2 := by rw [hr2]; simp [cDisp, cOpt, flat_nil, flat_cons, flat_append]
    rw [hrw, ← hl3]
    have hlok : dispsOK l2 := dsOK hokd hl2 (by rw [hl3, hln]; omega) (dsN3 hdd)
    refine awp_wk (wk_keep [13, 14] [13]) (hM _ ⟨l2, g, ?_, ?_, hlok, hok, ?cs20⟩)
    case cs20 => (simp only [(id F_lDS), seval]; rfl)
   refine awR [] [none, none] ?_
   simp only [(id F_lDS), seval, cGrp, hl, w0, w1, w2, w3]
   repeat refine ob ?_
   refine awF ?_
   by_cases w4 : ((wh : Nat) : Int) = 4
   ·
    refine awR [] [none, none] ?_
    simp only [(id F_lDS), seval, cGrp, hl, w0, w1, w2, w3, w4]
    repeat refine ob ?_
    refine awT ?_
    obtain ⟨x0, ot, hop⟩ : ∃ x0 ot, d.opts = x0 :: ot := by
     have hd1 := hdd.1
     cases hh : d.opts with
     | nil => rw [hh] at hd1; exact absurd hd1 (by simp)
     | cons a t => exact ⟨a, t, rfl⟩
    have hfo : flat cOpt d.opts = .lit (.bool x0.amount.neg) :: .lit (.string x0.amount.num) :: .lit (.string x0.amount.den) :: .lit (.int .i64 x0.rank) :: flat cOpt ot := by rw [hop, flat_cons]; rfl
    have hol : 0 < d.opts.length := by rw [hop]; simp
    refine awR [] [none, none, none, none, none, none, none] ?_
    simp only [(id F_lDS), seval, cGrp, hl, w0, w1, w2, w3, w4, hlen9, hg9, hs0, hs9, hfo]
    repeat refine ob ?_
    intro zc zQ hM
    refine awp_pubc 3066 1044 (kk * 3 + 2) (by rfl) (by rfl) (by first | exact hg9 _ _ _ | (simp only [(id F_lDS), seval]; exact hg9 _ _ _)) (by decide) (by show (4 : Nat) ≠ 0; decide) (by show (3 : Nat) ≠ 0; decide) rfl ?_
    simp only [(id F_lDS), seval, hst9]
    obtain ⟨l2, hl2⟩ : ∃ l2 : List GDisp, l2 = l.set kk ⟨d.est, d.cl, ⟨x0.amount, 8⟩ :: ot⟩ := ⟨_, rfl⟩
    have hr2 : flat cDisp l2 = A ++ cDisp ⟨d.est, d.cl, ⟨x0.amount, 8⟩ :: ot⟩ ++ B := by rw [hl2, hset]
    have hl3 : l2.length = l.length := by rw [hl2, List.length_set]
    refine awp_pub (t := 14) (by rfl) (by rfl) (by decide) (by rfl) ?_
    simp only [(id F_lDS), seval]
    have hrw : A ++ (.lit (.int .i64 d.est) :: .lit (.int .i64 d.cl) :: .sh 4 (ot.length + 1) (.lit (.bool x0.amount.neg) :: .lit (.string x0.amount.num) :: .lit (.string x0.amount.den) :: .lit (.int .i64 8) :: flat cOpt ot) :: B) = flat cDisp l2 := by rw [hr2]; simp [cDisp, cOpt, flat_nil, flat_cons, flat_append]
    have hol2 : d.opts.length = ot.length + 1 := by rw [hop]; rfl
    rw [hol2]
    rw [hrw, ← hl3]
    have hlok : dispsOK l2 := dsOK hokd hl2 (by rw [hl3, hln]; omega) (dsN4 hop hdd)
    refine awp_wk (wk_keep [13, 14] [13]) (hM _ ⟨l2, g, ?_, ?_, hlok, hok, ?cs24⟩)
    case cs24 => (simp only [(id F_lDS), seval]; rfl)
   refine awR [] [none, none] ?_
   simp only [(id F_lDS), seval, cGrp, hl, w0, w1, w2, w3, w4]
   repeat refine ob ?_
   refine awF ?_
   by_cases w5 : ((wh : Nat) : Int) = 5
   ·
    refine awR [] [none, none] ?_
    simp only [(id F_lDS), seval, cGrp, hl, w0, w1, w2, w3, w4, w5]
    repeat refine ob ?_
    refine awT ?_
    obtain ⟨x0, ot, hop⟩ : ∃ x0 ot, d.opts = x0 :: ot := by
     have hd1 := hdd.1
     cases hh : d.opts with
     | nil => rw [hh] at hd1; exact absurd hd1 (by simp)
     | cons a t => exact ⟨a, t, rfl⟩
    have hfo : flat cOpt d.opts = .lit (.bool x0.amount.neg) :: .lit (.string x0.amount.num) :: .lit (.string x0.amount.den) :: .lit (.int .i64 x0.rank) :: flat cOpt ot := by rw [hop, flat_cons]; rfl
    have hol : 0 < d.opts.length := by rw [hop]; simp
    refine awD (scq [1, 3, 5, 7, 8, 11, 13, 14] .nil) [none, none, none, none, none, none, none, none] ?_
    simp only [(id F_lDS), seval, cGrp, hl, w0, w1, w2, w3, w4, w5, hlen9, hg9, hs0, hs9, hfo, cRat]
    repeat refine ob ?_
    refine ⟨_, (aWhole (-1) (by decide) (by decide)), (by first | rfl | simp [allA, pure1, pureCs, pureC, A1.cells, cGrp, flat_pure cEst_pure, flat_pure cDebt_pure]), ?_⟩
    try unfold Later
    try simp only [(id F_lDS), seval, cGrp, hl, w0, w1, w2, w3, w4, w5, hlen9, hg9, hs0, hs9, hfo, cRat]
    repeat refine ob ?_
    intro zc zQ hM
    refine awp_pubc 3066 1044 (kk * 3 + 2) (by rfl) (by rfl) (by first | exact hg9 _ _ _ | (simp only [(id F_lDS), seval]; exact hg9 _ _ _)) (by decide) (by show (4 : Nat) ≠ 0; decide) (by show (3 : Nat) ≠ 0; decide) rfl ?_
    simp only [(id F_lDS), seval, hst9]
    obtain ⟨l2, hl2⟩ : ∃ l2 : List GDisp, l2 = l.set kk ⟨d.est, d.cl, ⟨enc ((-1 : Int) : Rat), x0.rank⟩ :: ot⟩ := ⟨_, rfl⟩
    have hr2 : flat cDisp l2 = A ++ cDisp ⟨d.est, d.cl, ⟨enc ((-1 : Int) : Rat), x0.rank⟩ :: ot⟩ ++ B := by rw [hl2, hset]
    have hl3 : l2.length = l.length := by rw [hl2, List.length_set]
    refine awp_pub (t := 14) (by rfl) (by rfl) (by decide) (by rfl) ?_
    simp only [(id F_lDS), seval]
    have hrw : A ++ (.lit (.int .i64 d.est) :: .lit (.int .i64 d.cl) :: .sh 4 (ot.length + 1) (.lit (.bool (enc ((-1 : Int) : Rat)).neg) :: .lit (.string (enc ((-1 : Int) : Rat)).num) :: .lit (.string (enc ((-1 : Int) : Rat)).den) :: .lit (.int .i64 x0.rank) :: flat cOpt ot) :: B) = flat cDisp l2 := by rw [hr2]; simp [cDisp, cOpt, flat_nil, flat_cons, flat_append]
    have hol2 : d.opts.length = ot.length + 1 := by rw [hop]; rfl
    rw [hol2]
    rw [hrw, ← hl3]
    have hlok : dispsOK l2 := dsOK hokd hl2 (by rw [hl3, hln]; omega) (dsN5 hop hdd)
    refine awp_wk (wk_keep [13, 14] [13]) (hM _ ⟨l2, g, ?_, ?_, hlok, hok, ?cs28⟩)
    case cs28 => (simp only [(id F_lDS), seval]; rfl)
   refine awR [] [none, none] ?_
   simp only [(id F_lDS), seval, cGrp, hl, w0, w1, w2, w3, w4, w5]
   repeat refine ob ?_
   refine awF ?_
   by_cases w6 : ((wh : Nat) : Int) = 6
   ·
    refine awR [] [none, none] ?_
    simp only [(id F_lDS), seval, cGrp, hl, w0, w1, w2, w3, w4, w5, w6]
    repeat refine ob ?_
    refine awT ?_
    refine awR [] [none, none, none, none, none] ?_
    simp only [(id F_lDS), seval, cGrp, hl, w0, w1, w2, w3, w4, w5, w6, cRat]
    repeat refine ob ?_
    refine ⟨_, (aWhole (-1) (by decide) (by decide)), (by first | rfl | simp [allA, pure1, pureCs, pureC, A1.cells, cGrp, flat_pure cEst_pure, flat_pure cDebt_pure]), ?_⟩
    try unfold Later
    try simp only [(id F_lDS), seval, cGrp, hl, w0, w1, w2, w3, w4, w5, w6, cRat]
    repeat refine ob ?_
    intro zc zQ hM
    refine awp_pubc 3066 1044 (kk * 3 + 2) (by rfl) (by rfl) (by first | exact hg9 _ _ _ | (simp only [(id F_lDS), seval]; exact hg9 _ _ _)) (by decide) (by show (4 : Nat) ≠ 0; decide) (by show (3 : Nat) ≠ 0; decide) rfl ?_
    simp only [(id F_lDS), seval, hst9]
    refine awp_wk (wk_cells 88 [.lit (.bool (enc ((-1 : Int) : Rat)).neg), .lit (.string (enc ((-1 : Int) : Rat)).num), .lit (.string (enc ((-1 : Int) : Rat)).den), .sh 2 0 []] (by rfl) (by show (4 : Nat) ≠ 0; decide) (by rfl) (fun κ vs h => by have h9 := denVs_set 3 (by rfl) (fun v hv => den_nilsh 2 hv) h; exact h9)) ?_
    simp only [(id F_lDS), seval]
    refine awp_pubc 88 13 1 (by rfl) (by rfl) (by rfl) (by decide) (by show (4 : Nat) ≠ 0; decide) (by show (2 : Nat) ≠ 0; decide) rfl ?_
    simp only [(id F_lDS), seval]
    have hgk : grpOK2 ⟨g.ests, [⟨enc ((-1 : Int) : Rat), []⟩]⟩ := by
     have hq : qB 1 ((-1 : Int) : Rat) := ⟨by decide, by decide⟩
     refine ⟨hok.1, fun d hd => ?_, fun d hd => ?_⟩
     ·
      obtain rfl := List.mem_singleton.1 hd
      exact ⟨Nat.le_trans (sB_enc hq).1 (by decide), Nat.le_trans (sB_enc hq).2 (by decide)⟩
     obtain rfl := List.mem_singleton.1 hd
     simp
    obtain ⟨l2, hl2⟩ : ∃ l2 : List GDisp, l2 = l.set kk ⟨d.est, d.cl, d.opts⟩ := ⟨_, rfl⟩
    have hr2 : flat cDisp l2 = A ++ cDisp ⟨d.est, d.cl, d.opts⟩ ++ B := by rw [hl2, hset]
    have hl3 : l2.length = l.length := by rw [hl2, List.length_set]
    refine awp_pub (t := 14) (by rfl) (by rfl) (by decide) (by rfl) ?_
    simp only [(id F_lDS), seval]
    have hrw : A ++ (.lit (.int .i64 d.est) :: .lit (.int .i64 d.cl) :: .sh 4 d.opts.length (flat cOpt d.opts) :: B) = flat cDisp l2 := by rw [hr2]; simp [cDisp, cOpt, flat_nil, flat_cons, flat_append]
    rw [hrw, ← hl3]
    have hlok : dispsOK l2 := dsOK hokd hl2 (by rw [hl3, hln]; omega) (dsN hdd)
    refine awp_wk (wk_keep [13, 14] [13]) (hM _ ⟨l2, ⟨g.ests, [⟨enc ((-1 : Int) : Rat), []⟩]⟩, ?_, ?_, hlok, hgk, ?cs32⟩)
    case cs32 => (simp only [(id F_lDS), seval]; rfl)
   refine awR [] [none, none] ?_
   simp only [(id F_lDS), seval, cGrp, hl, w0, w1, w2, w3, w4, w5, w6]
   repeat refine ob ?_
   refine awF ?_
   refine awK ?_
   simp only [(id F_lDS), seval]
   intro zc zQ hM
   refine awp_pubc 3066 1044 (kk * 3 + 2) (by rfl) (by rfl) (by first | exact hg9 _ _ _ | (simp only [(id F_lDS), seval]; exact hg9 _ _ _)) (by decide) (by show (4 : Nat) ≠ 0; decide) (by show (3 : Nat) ≠ 0; decide) rfl ?_
   simp only [(id F_lDS), seval, hst9]
   obtain ⟨l2, hl2⟩ : ∃ l2 : List GDisp, l2 = l.set kk ⟨d.est, d.cl, d.opts⟩ := ⟨_, rfl⟩
   have hr2 : flat cDisp l2 = A ++ cDisp ⟨d.est, d.cl, d.opts⟩ ++ B := by rw [hl2, hset]
   have hl3 : l2.length = l.length := by rw [hl2, List.length_set]
   refine awp_pub (t := 14) (by rfl) (by rfl) (by decide) (by rfl) ?_
   simp only [(id F_lDS), seval]
   have hrw : A ++ (.lit (.int .i64 d.est) :: .lit (.int .i64 d.cl) :: .sh 4 d.opts.length (flat cOpt d.opts) :: B) = flat cDisp l2 := by rw [hr2]; simp [cDisp, cOpt, flat_nil, flat_cons, flat_append]
   rw [hrw, ← hl3]
   have hlok : dispsOK l2 := dsOK hokd hl2 (by rw [hl3, hln]; omega) (dsN hdd)
   refine awp_wk (wk_keep [13, 14] [13]) (hM _ ⟨l2, g, ?_, ?_, hlok, hok, ?cs34⟩)
   case cs34 => (simp only [(id F_lDS), seval]; rfl)
  refine awR [] [none, none, none] ?_
  simp only [(id F_lDS), seval, cGrp, hl]
  repeat refine ob ?_
  refine awF ?_
  refine awK ?_
  simp only [(id F_lDS), seval]
  intro zc zQ hM
  have hnk : ¬ kk < l.length := by omega
  simp only [exK, cellsK, if_neg hnk]
  obtain ⟨l2, hl2⟩ : ∃ l2 : List GDisp, l2 = l := ⟨_, rfl⟩
  have hlok : dispsOK l2 := by rw [hl2]; exact ⟨by omega, fun d hd => absurd (List.length_pos_of_mem hd) (by omega)⟩
  refine awp_pub (t := 14) (by rfl) (by rfl) (by decide) (by rfl) ?_
  simp only [(id F_lDS), seval]
  rw [← hl2]
  have hg2 := hok
  refine awp_wk (wk_keep [13, 14] [13]) (hM _ ⟨l2, g, ?_, ?_, hlok, hok, ?cs36⟩)
  case cs36 => (simp only [(id F_lDS), seval]; rfl)
 rintro st ⟨l2, g2, nxB, nx, hlok, hgok, rfl⟩
 have hX := dCheck_A g2 l2 (grpOK2_ok hgok) hlok
 have hY := rCheck_A g2 l2 hgok hlok
 rw [← gc_cg, ← dc_rc] at hY
 refine awD (scq [0, 3, 5, 7, 11, 13, 8, 14, 17, 19, 21] .nil) [none, none, some (91, true), some (91, true), some (91, true), some (91, true), some (91, true), some (91, true), some (91, true), none, none] ?_
 simp only [(id F_lDS), seval, cGrp, flat_pure cEst_pure, flat_pure cDebt_pure, flat_pure cDisp_pure, BEq.rfl, decide_true]
 repeat refine ob ?_
 refine ⟨_, awake22_A, (by first | rfl | simp [allA, pure1, pureCs, pureC, A1.cells, cGrp, flat_pure cEst_pure, flat_pure cDebt_pure]), ?_⟩
 try unfold Later
 try simp only [(id F_lDS), seval, cGrp, flat_pure cEst_pure, flat_pure cDebt_pure, flat_pure cDisp_pure, BEq.rfl, decide_true]
 repeat refine ob ?_
 refine ⟨_, hX, (by first | rfl | simp [allA, pure1, pureCs, pureC, A1.cells, cGrp, flat_pure cEst_pure, flat_pure cDebt_pure]), ?_⟩
 try unfold Later
 try simp only [(id F_lDS), seval, cGrp, flat_pure cEst_pure, flat_pure cDebt_pure, flat_pure cDisp_pure, BEq.rfl, decide_true]
 repeat refine ob ?_
 refine ⟨_, hY, (by first | rfl | simp [allA, pure1, pureCs, pureC, A1.cells, cGrp, flat_pure cEst_pure, flat_pure cDebt_pure]), ?_⟩
 try unfold Later
 try simp only [(id F_lDS), seval, cGrp, flat_pure cEst_pure, flat_pure cDebt_pure, flat_pure cDisp_pure, BEq.rfl, decide_true]
 repeat refine ob ?_
 refine awX ?_
 (first | (simp only [(id F_lDS), seval, cGrp]; done) | (simp only [(id F_lDS), seval, cGrp]; first | (simp []; done)))
theorem lDS_walk (v0 v1 v2 v3 v4 v5 : Value) (n : Nat) (cash : List Nat) (list ds : List N4) (at9 wt : Nat) (W : World) (o0 : rC (fun n : Nat => [.lit (.int .u8 n)]) (· < 256) W (LT W.heap.size) [v0] n) (o1 : rC (cSl 1 cU16) (okSl (· < 65536)) W (LT W.heap.size) [v1] cash) (o2 : rC (cSl 4 cN4) (okSl okN4) W (LT W.heap.size) [v2] list) (o3 : rC (cSl 4 cN4) (okSl okN4) W (LT W.heap.size) [v3] ds) (o4 : rC (fun n : Nat => [.lit (.int .u8 n)]) (· < 256) W (LT W.heap.size) [v4] at9) (o5 : rC (fun n : Nat => [.lit (.int .u8 n)]) (· < 256) W (LT W.heap.size) [v5] wt) :
    Calls Tryz.prog 3 #[v0, v1, v2, v3, v4, v5] W fun e w' => e = .returned (.bool true) ∧ Below W.heap.size W w' := by
  obtain ⟨h0, k0⟩ := den_oneC o0 rfl
  obtain ⟨h1, k1⟩ := den_oneC o1 rfl
  obtain ⟨h2, k2⟩ := den_oneC o2 rfl
  obtain ⟨h3, k3⟩ := den_oneC o3 rfl
  obtain ⟨h4, k4⟩ := den_oneC o4 rfl
  obtain ⟨h5, k5⟩ := den_oneC o5 rfl
  exact acall_law (vs := [v0, v1, v2, v3, v4, v5]) (lDS_A n cash list ds at9 wt k0 k1 k2 k3 k4 k5) ⟨h0, h1, h2, h3, h4, h5, trivial⟩
end Go.Proofs.YtpdmlemknomoeaaGreatDoor
end
