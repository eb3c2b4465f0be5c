/- Arguments of the laws about disputes, opened; few; awake; DisputeCheck's own function. -/
import Derived.Test.YtinaeglgfomlaaaGreatDoorDc2M
import Derived.Test.YtinaeglgfomlaaaGreatDoorBl6M
import Derived.Test.YtinaeglgfomlaaaGreatDoorAw29M
import Derived.Test.YtinaeglgfomlaaaGreatDoorCountM
import Derived.Test.YtinaeglgfomlaaaGreatDoorChoM
set_option linter.unusedVariables false
set_option linter.unusedSimpArgs false
set_option linter.defProp false
set_option linter.unnecessarySimpa false
section
/- Arguments of the laws about disputes, opened; few; awake; DisputeCheck's own function. -/
namespace Go.Proofs.YtinaeglgfomlaaaGreatDoor
open Go Go.RowKit Go.ChangeShapes Go.WideShapes Go.ChangeAt
theorem awake22_A : ACall Tryz.prog 19 [] (one (.bool true)) :=
  acall_flat (fnOK_of Tryz.func19 (by decide) rfl) [] (.bool true) awake_any
end Go.Proofs.YtinaeglgfomlaaaGreatDoor
end
section
/- DisputeOrder: the law's own function; walked by the abstract machine. -/
namespace Go.Proofs.YtinaeglgfomlaaaGreatDoor
open Go Go.RowKit Go.ChangeShapes Go.WideShapes Go.ChangeAt
def cY8 (n : Nat) : List C := [.lit (.int .u8 n)]
theorem cY8_len (n : Nat) : (cY8 n).length = 1 := rfl
theorem opensC_Y8 : Opens Tryz.prog 5 (rC cY8 (· < 256)) := opensC_u8
theorem Tryz.cellsY8 : Tryz.prog.cellsOf 5 = 1 := by kernel_rfl
theorem opensC_y8s : Opens Tryz.prog 74 (rC (cSl 1 cY8) (okSl (· < 256))) := opens_sl Tryz.underlying74 Tryz.cellsY8 (by decide) cY8_len opensC_Y8
def F_lDO := And.intro zS (And.intro tf41 (And.intro tf105 (And.intro tf70 (And.intro tf7 (And.intro tf106 (And.intro tf30 (And.intro tf12 (And.intro tf107 (And.intro tf4 (And.intro tf97 (And.intro tf100 (tf13))))))))))))
set_option maxRecDepth 100000 in
set_option maxHeartbeats 4000000 in
theorem lDO_A (n : Nat) (cash : List Nat) (list ds : List N4) (bits : Nat) (order : List Nat) (hn : n < 256) (hcs : okSl (· < 65536) cash) (hls : okSl okN4 list) (hds : okSl okN4 ds) (hbits : bits < 65536) (hor : okSl (· < 256) order) : ACall Tryz.prog 6 [.one (.lit (.int .u8 n)), .one (.sh 1 cash.length (flat cU16 cash)), .one (.sh 4 list.length (flat cN4 list)), .one (.sh 4 ds.length (flat cN4 ds)), .one (.lit (.int .u16 bits)), .one (.sh 1 order.length (flat cY8 order))] (one (.bool true)) := by
 have hc1 : cash.length ≤ 9223372036854775807 := Nat.le_trans hcs.1 (by decide)
 have hl1 : list.length ≤ 9223372036854775807 := Nat.le_trans hls.1 (by decide)
 have hd1 : ds.length ≤ 9223372036854775807 := Nat.le_trans hds.1 (by decide)
 have ho1 : order.length ≤ 9223372036854775807 := Nat.le_trans hor.1 (by decide)
 refine acall_of Tryz.func6 rfl (by decide) (N := 101) rfl (by simp) (R := [.tmp 12]) rfl fun en k0 => ?_
 refine awR [] [none] ?_
 simp only [(id F_lDO), seval, cGrp]
 repeat refine ob ?_
 have hG := group_nil n cash list hn hcs.2 hls.2 hc1 hl1
 have hxg := grpN_x n cash list [] []
 have hclg := grpN_cl n cash list [] []
 have hval := grpN_valid n cash list [] []
 rw [← gc_cg] at hval
 refine awR [] [none, none, none, none, none, none] ?_
 simp only [(id F_lDO), seval, cGrp, flat_pure cU16_pure, flat_pure cN4_pure]
 repeat refine ob ?_
 refine ⟨_, hG, (by first | rfl | simp [allA, pure1, pureCs, pureC, A1.cells, cGrp, flat_pure cEst_pure, flat_pure cDebt_pure, flat_pure cDisp_pure, flat_pure cI_pure]), ?_⟩
 try unfold Later
 try simp only [(id F_lDO), seval, cGrp, flat_pure cU16_pure, flat_pure cN4_pure]
 repeat refine ob ?_
 generalize grpN n cash list [] [] = g at *
 have hgn : g.ests.length ≤ 1000000 := by have := hxg.1; omega
 have hgc : ∀ e ∈ g.ests, e.claims.length ≤ 1000000 := fun e he => by have := (hxg.2.1 e he).1.1; omega
 refine awR [30] [none, none, none, none] ?_
 simp only [(id F_lDO), seval, cGrp, flat_pure cEst_pure, flat_pure cDebt_pure, flat_pure cDisp_pure, flat_pure cI_pure]
 repeat refine ob ?_
 refine ⟨_, disputes_I g ds 5 100 _ _ hgn hgc hd1 hds.2 (by decide) (fun y B hB => ?_), ?_⟩
 ·
  simp only [up_apply] at hB
  repeat (split at hB; · omega)
  cases hB
 rintro res H' nxW ⟨l0, all, s, so, hln, hperm, hokd, rfl, rfl⟩
 simp only [(id F_lDO), seval]
 repeat refine ob ?_
 have hnk : ¬ 100 < l0.length := by omega
 simp only [exK, cellsK, if_neg hnk]
 refine awp_pub (t := 14) (by rfl) (by rfl) (by decide) (by rfl) ?_
 simp only [(id F_lDO), seval]
 have hvd := built_vD g l0 all (by omega) hperm hokd
 have hll : l0.length ≤ 1000000 ∧ ∀ d ∈ l0, d.opts.length ≤ 1000000 := ⟨by omega, fun d hd => by have := (hokd d hd).2.1; omega⟩
 have hCh := choose_A l0 bits hbits hll
 have hfit := fits_of (chL_ok bits l0 0 fun d hd => (hokd d hd).1)
 have hcl := chL_len bits l0 0
 rw [cN_cI] at hCh
 obtain ⟨c0, hc0⟩ : ∃ c : List Int, c = (chL bits l0 0).map fun n : Nat => (n : Int) := ⟨_, rfl⟩
 have hc0l : (chL bits l0 0).length = c0.length := by rw [hc0, List.length_map]
 rw [hc0l, ← hc0] at hCh
 rw [← hc0] at hfit
 have hmid : mid ⟨apL g.ests l0 c0, g.debts⟩ g l0 c0 := ⟨hclg, hval, hvd, hfit, rfl, rfl⟩
 have hAp := dApply_A g l0 c0 (xG_cq hxg) (xG_ok hxg) (cqD_of (by omega) hokd)
 rw [mid_apply hmid] at hAp
 generalize (⟨apL g.ests l0 c0, g.debts⟩ : GGrp) = W at *
 dsimp only at hAp
 refine awR [] [none, none, none, none] ?_
 simp only [(id F_lDO), seval, cGrp, flat_pure cEst_pure, flat_pure cDebt_pure, flat_pure cDisp_pure, flat_pure cI_pure]
 repeat refine ob ?_
 refine ⟨_, hCh, (by first | rfl | simp [allA, pure1, pureCs, pureC, A1.cells, cGrp, flat_pure cEst_pure, flat_pure cDebt_pure, flat_pure cDisp_pure, flat_pure cI_pure]), ?_⟩
 try unfold Later
 try simp only [(id F_lDO), seval, cGrp, flat_pure cEst_pure, flat_pure cDebt_pure, flat_pure cDisp_pure, flat_pure cI_pure]
 repeat refine ob ?_
 refine awR [] [none, none, none, none, none, none, none, none, none, none] ?_
 simp only [(id F_lDO), seval, cGrp, flat_pure cEst_pure, flat_pure cDebt_pure, flat_pure cDisp_pure, flat_pure cI_pure, flat_pure cN_pure]
 repeat refine ob ?_
 refine ⟨_, hAp, (by first | rfl | simp [allA, pure1, pureCs, pureC, A1.cells, cGrp, flat_pure cEst_pure, flat_pure cDebt_pure, flat_pure cDisp_pure, flat_pure cI_pure]), ?_⟩
 try unfold Later
 try simp only [(id F_lDO), seval, cGrp, flat_pure cEst_pure, flat_pure cDebt_pure, flat_pure cDisp_pure, flat_pure cI_pure, flat_pure cN_pure]
 repeat refine ob ?_
 refine awR [] [none, none] ?_
 simp only [(id F_lDO), seval, cGrp]
 repeat refine ob ?_
 refine awF ?_
 refine awK ?_
 simp only [(id F_lDO), seval]
 refine awR [] [none, none, none] ?_
 simp only [(id F_lDO), seval, cGrp]
 repeat refine ob ?_
 refine awR [] [none] ?_
 simp only [(id F_lDO), seval, cGrp]
 repeat refine ob ?_
 refine awp_keep [5, 13, 14, 15, 16, 18, 19] [16, 18] ?_
 try unfold Later
 try simp only [(id F_lDO), seval, cGrp]
 repeat' first|apply awS|apply awB
 refine awp_loopw (fun n st => ∃ k x l c nx, n = l.length ∧ mid W x l c ∧ xG x ∧ l.length ≤ 1000 ∧ k ≤ 1000000 - l.length ∧ st = ⟨mkT [(5, .val (.one (.sh 1 order.length (flat cY8 order)))), (13, .val (.one (.ptr 13 0 0))), (14, .val (.one (.sh 3 l.length (flat cDisp l)))), (15, .val (.one (.sh 1 c.length (flat cI c)))), (16, .val (.one (.ptr 16 nxW 0))), (18, .val (.one (.ptr 18 (nxW + 1) 0))), (19, one (.int .i64 k))], mkH [(16, ⟨nxW, 28, 2, 1, cGrp W⟩), (18, ⟨nxW + 1, 28, 2, 1, cGrp x⟩)], nx, 0⟩) (l0.length) ⟨0, g, l0, c0, _, rfl, hmid, hxg, by omega, by omega, rfl⟩ ?_
 rintro n0 st ⟨k, x, l, c, nx0, rfl, hm, hx, hlb, hkb, rfl⟩
 by_cases hl0 : (0 : Int) < (l.length : Int)
 ·
  refine awR [] [none, none, none] ?_
  simp only [(id F_lDO), seval, cGrp, hl0]
  repeat refine ob ?_
  refine awT ?_
  refine awK ?_
  simp only [(id F_lDO), seval]
  refine awR [] [none] ?_
  simp only [(id F_lDO), seval, cGrp, hl0]
  repeat refine ob ?_
  by_cases hko : (k : Int) < (order.length : Int)
  ·
   refine awR [] [none, none, none, none] ?_
   simp only [(id F_lDO), seval, cGrp, hl0, hko]
   repeat refine ob ?_
   refine awT ?_
   have hkol : k < order.length := by omega
   have hato := flat_at cY8_len order k hkol
   rw [Nat.mul_one] at hato
   have hob := hor.2 _ (List.getElem_mem hkol)
   obtain ⟨oq, hoe⟩ : ∃ b, order[k] = b := ⟨_, rfl⟩
   rw [hoe] at hato hob
   obtain ⟨i, hi⟩ : ∃ i, i = oq % l.length := ⟨_, rfl⟩
   have w1 := tmodN oq l.length
   rw [← hi] at w1
   have hi9 : i < l.length := hi ▸ Nat.mod_lt _ (by omega)
   refine awR [] [none, none, none, none, none, none, none, none, none] ?_
   simp only [(id F_lDO), seval, cGrp, hl0, hko, hato, cY8, w1]
   repeat refine ob ?_
   have hil : i < l.length := by omega
   have hcl2 := hm.2.2.2.1.1
   have hic : i < c.length := by omega
   obtain ⟨y, hyd, hym, hyx⟩ := mid_stepX hm hx i hil hic
   have hel : (l.eraseIdx i).length = l.length - 1 := List.length_eraseIdx_of_lt hil
   have hatc := flat_at cI_len c i hic
   rw [Nat.mul_one] at hatc
   have hgo := dDecide_A x l ((i : Nat) : Int) c[i] (xG_cq hx) (xG_ok hx) (cqD_of (by omega) fun d hd => (hm.2.2.1.2.2 d hd).2)
   rw [hyd] at hgo
   dsimp only at hgo
   have hel2 : ((l.eraseIdx i).length : Int) = (l.length : Int) - 1 := by omega
   have hrl : (l.eraseIdx i).length = (l.eraseIdx i).length := rfl
   have hce : flat cI (c.eraseIdx i) = (flat cI c).take i ++ (flat cI c).drop (i + 1) := by
    rw [List.eraseIdx_eq_take_drop_succ, flat_append]
    have h1 := flat_take cI_len c i
    have h2 := flat_drop cI_len c (i + 1)
    rw [Nat.mul_one] at h1 h2
    rw [h1, h2]
   have hcel : (c.eraseIdx i).length = c.length - 1 := List.length_eraseIdx_of_lt hic
   have hcil : ∀ z ∈ c, True := fun _ _ => trivial
   generalize hcx : c[i] = cx at *
   have hfl := flat_length cI_len c
   rw [Nat.mul_one] at hfl
   refine awD (scq [1, 3, 5, 7, 9, 11, 13] (.two 7 12 (scq [17, 19, 21, 23, 24, 26, 29, 31] .nil) (scq [14, 17, 19, 21, 23, 26, 29, 31] .nil))) [none, none, none, none, none, none, none, none, none, none, none, none, none, none, none, none] ?_
   simp only [(id F_lDO), seval, cGrp, hl0, hko, hatc, cI, hcx, flat_pure cEst_pure, flat_pure cDebt_pure, flat_pure cDisp_pure, flat_pure cI_pure]
   repeat refine ob ?_
   refine ⟨?_, ?_⟩
   ·
    repeat refine ob ?_
    refine ⟨_, hgo, (by first | rfl | simp [allA, pure1, pureCs, pureC, A1.cells, cGrp, flat_pure cEst_pure, flat_pure cDebt_pure, flat_pure cDisp_pure, flat_pure cI_pure]), ?_⟩
    try unfold Later
    try simp only [(id F_lDO), seval, cGrp, hl0, hko, hatc, cI, hcx, flat_pure cEst_pure, flat_pure cDebt_pure, flat_pure cDisp_pure, flat_pure cI_pure]
    repeat refine ob ?_
    refine awR [] [none, none, none, some (75, false), some (75, false), some (75, false), some (75, false), some (75, false), some (75, false), none] ?_
    simp only [(id F_lDO), seval, cGrp, hl0, hko, hel2]
    repeat refine ob ?_
    refine awF ?_
    refine awK ?_
    simp only [(id F_lDO), seval]
    refine awR [] [none, none, none, none] ?_
    simp only [(id F_lDO), seval, cGrp, hl0, hko]
    repeat refine ob ?_
    repeat' first|apply awS|apply awB
    refine awp_drawsI [] (by kernel_rfl) (.cons 1 true (.cons 2 true (.cons 3 true (.cons 5 true (.cons 6 true (.cons 7 true (.cons 8 true (.cons 0 false (.cons 4 false (.cons 9 false (.cons 10 true .nil))))))))))) (by kernel_rfl) (gs := [none, none, none, none, none, none, none, none, none, none, none]) (by kernel_rfl) (by simp only [(id zS), seval]; rfl) (by decide) ?_
    simp only [(id F_lDO), seval, cGrp, hl0, hko, hfl, (id SD)]
    repeat refine ob ?_
    refine awp_pub (t := 15) (by rfl) (by rfl) (by decide) (by rfl) ?_
    simp only [(id F_lDO), seval]
    have hk1 : ((i : Int) + 1).toNat = i + 1 := by omega
    have hfk : List.take (c.length - (i + 1)) (List.drop (i + 1) (flat cI c)) = List.drop (i + 1) (flat cI c) := List.take_of_length_le (by rw [List.length_drop, hfl]; exact Nat.le_refl _)
    have hc9 : i + (c.length - (i + 1)) = (c.eraseIdx i).length := by omega
    simp only [Nat.sub_zero, hk1, hfk, ← hce, hc9]
    refine awR [] [none, none, none] ?_
    simp only [(id F_lDO), seval, cGrp, hl0, hko]
    repeat refine ob ?_
    repeat refine ob ?_
    refine ⟨_, wk_keep [5, 13, 14, 15, 16, 18, 19] [16, 18], (l.eraseIdx i).length, by rw [hel]; omega, k + 1, y, l.eraseIdx i, c.eraseIdx i, ?nn18, rfl, hym, hyx, by rw [hel]; omega, by omega, ?st18⟩
    case st18 => (simp only [(id F_lDO), seval]; first | rfl | (simp; done))
   repeat refine ob ?_
   refine ⟨_, hgo, (by first | rfl | simp [allA, pure1, pureCs, pureC, A1.cells, cGrp, flat_pure cEst_pure, flat_pure cDebt_pure, flat_pure cDisp_pure, flat_pure cI_pure]), ?_⟩
   try unfold Later
   try simp only [(id F_lDO), seval, cGrp, hl0, hko, hatc, cI, hcx, flat_pure cEst_pure, flat_pure cDebt_pure, flat_pure cDisp_pure, flat_pure cI_pure]
   repeat refine ob ?_
   refine awR [] [none, none, none, some (75, false), some (75, false), some (75, false), some (75, false), some (75, false), some (75, false), none] ?_
   simp only [(id F_lDO), seval, cGrp, hl0, hko, hel2]
   repeat refine ob ?_
   refine awF ?_
   refine awK ?_
   simp only [(id F_lDO), seval]
   refine awR [] [none, none, none, none] ?_
   simp only [(id F_lDO), seval, cGrp, hl0, hko]
   repeat refine ob ?_
   repeat' first|apply awS|apply awB
   refine awp_drawsI [] (by kernel_rfl) (.cons 1 true (.cons 2 true (.cons 3 true (.cons 5 true (.cons 6 true (.cons 7 true (.cons 8 true (.cons 0 false (.cons 4 false (.cons 9 false (.cons 10 true .nil))))))))))) (by kernel_rfl) (gs := [none, none, none, none, none, none, none, none, none, none, none]) (by kernel_rfl) (by simp only [(id zS), seval]; rfl) (by decide) ?_
   simp only [(id F_lDO), seval, cGrp, hl0, hko, hfl, (id SD)]
   repeat refine ob ?_
   refine awp_pub (t := 15) (by rfl) (by rfl) (by decide) (by rfl) ?_
   simp only [(id F_lDO), seval]
   have hk1 : ((i : Int) + 1).toNat = i + 1 := by omega
   have hfk : List.take (c.length - (i + 1)) (List.drop (i + 1) (flat cI c)) = List.drop (i + 1) (flat cI c) := List.take_of_length_le (by rw [List.length_drop, hfl]; exact Nat.le_refl _)
   have hc9 : i + (c.length - (i + 1)) = (c.eraseIdx i).length := by omega
   simp only [Nat.sub_zero, hk1, hfk, ← hce, hc9]
   refine awR [] [none, none, none] ?_
   simp only [(id F_lDO), seval, cGrp, hl0, hko]
   repeat refine ob ?_
   repeat refine ob ?_
   refine ⟨_, wk_keep [5, 13, 14, 15, 16, 18, 19] [16, 18], (l.eraseIdx i).length, by rw [hel]; omega, k + 1, y, l.eraseIdx i, c.eraseIdx i, ?nn23, rfl, hym, hyx, by rw [hel]; omega, by omega, ?st23⟩
   case st23 => (simp only [(id F_lDO), seval]; first | rfl | (simp; done))
  refine awR [] [none, none, none, none] ?_
  simp only [(id F_lDO), seval, cGrp, hl0, hko]
  repeat refine ob ?_
  refine awF ?_
  refine awK ?_
  simp only [(id F_lDO), seval]
  obtain ⟨i, hi0, hi9⟩ : ∃ i : Nat, (i : Int) = 0 ∧ i < l.length := ⟨0, rfl, by omega⟩
  have hz1 : ∀ f : Nat → AV, up f 20 (one (.int .i64 0)) = up f 20 (one (.int .i64 (i : Int))) := fun f => by rw [hi0]
  have hz2 : ∀ f : Nat → AV, up f 20 (AV.val (A1.one (C.lit (Value.int IntKind.i64 0)))) = up f 20 (AV.val (A1.one (C.lit (Value.int IntKind.i64 (i : Int))))) := fun f => by rw [hi0]
  first | rw [hz2] | rw [hz1]
  have hil : i < l.length := by omega
  have hcl2 := hm.2.2.2.1.1
  have hic : i < c.length := by omega
  obtain ⟨y, hyd, hym, hyx⟩ := mid_stepX hm hx i hil hic
  have hel : (l.eraseIdx i).length = l.length - 1 := List.length_eraseIdx_of_lt hil
  have hatc := flat_at cI_len c i hic
  rw [Nat.mul_one] at hatc
  have hgo := dDecide_A x l ((i : Nat) : Int) c[i] (xG_cq hx) (xG_ok hx) (cqD_of (by omega) fun d hd => (hm.2.2.1.2.2 d hd).2)
  rw [hyd] at hgo
  dsimp only at hgo
  have hel2 : ((l.eraseIdx i).length : Int) = (l.length : Int) - 1 := by omega
  have hrl : (l.eraseIdx i).length = (l.eraseIdx i).length := rfl
  have hce : flat cI (c.eraseIdx i) = (flat cI c).take i ++ (flat cI c).drop (i + 1) := by
   rw [List.eraseIdx_eq_take_drop_succ, flat_append]
   have h1 := flat_take cI_len c i
   have h2 := flat_drop cI_len c (i + 1)
   rw [Nat.mul_one] at h1 h2
   rw [h1, h2]
  have hcel : (c.eraseIdx i).length = c.length - 1 := List.length_eraseIdx_of_lt hic
  have hcil : ∀ z ∈ c, True := fun _ _ => trivial
  generalize hcx : c[i] = cx at *
  have hfl := flat_length cI_len c
  rw [Nat.mul_one] at hfl
  refine awD (scq [1, 3, 5, 7, 9, 11, 13] (.two 7 12 (scq [17, 19, 21, 23, 24, 26, 29, 31] .nil) (scq [14, 17, 19, 21, 23, 26, 29, 31] .nil))) [none, none, none, none, none, none, none, none, none, none, none, none, none, none, none, none] ?_
  simp only [(id F_lDO), seval, cGrp, hl0, hko, hatc, cI, hcx, flat_pure cEst_pure, flat_pure cDebt_pure, flat_pure cDisp_pure, flat_pure cI_pure]
  repeat refine ob ?_
  refine ⟨?_, ?_⟩
  ·
   repeat refine ob ?_
   refine ⟨_, hgo, (by first | rfl | simp [allA, pure1, pureCs, pureC, A1.cells, cGrp, flat_pure cEst_pure, flat_pure cDebt_pure, flat_pure cDisp_pure, flat_pure cI_pure]), ?_⟩
   try unfold Later
   try simp only [(id F_lDO), seval, cGrp, hl0, hko, hatc, cI, hcx, flat_pure cEst_pure, flat_pure cDebt_pure, flat_pure cDisp_pure, flat_pure cI_pure]
   repeat refine ob ?_
   refine awR [] [none, none, none, some (75, false), some (75, false), some (75, false), some (75, false), some (75, false), some (75, false), none] ?_
   simp only [(id F_lDO), seval, cGrp, hl0, hko, hel2]
   repeat refine ob ?_
   refine awF ?_
   refine awK ?_
   simp only [(id F_lDO), seval]
   refine awR [] [none, none, none, none] ?_
   simp only [(id F_lDO), seval, cGrp, hl0, hko]
   repeat refine ob ?_
   repeat' first|apply awS|apply awB
   refine awp_drawsI [] (by kernel_rfl) (.cons 1 true (.cons 2 true (.cons 3 true (.cons 5 true (.cons 6 true (.cons 7 true (.cons 8 true (.cons 0 false (.cons 4 false (.cons 9 false (.cons 10 true .nil))))))))))) (by kernel_rfl) (gs := [none, none, none, none, none, none, none, none, none, none, none]) (by kernel_rfl) (by simp only [(id zS), seval]; rfl) (by decide) ?_
   simp only [(id F_lDO), seval, cGrp, hl0, hko, hfl, (id SD)]
   repeat refine ob ?_
   refine awp_pub (t := 15) (by rfl) (by rfl) (by decide) (by rfl) ?_
   simp only [(id F_lDO), seval]
   have hk1 : ((i : Int) + 1).toNat = i + 1 := by omega
   have hfk : List.take (c.length - (i + 1)) (List.drop (i + 1) (flat cI c)) = List.drop (i + 1) (flat cI c) := List.take_of_length_le (by rw [List.length_drop, hfl]; exact Nat.le_refl _)
   have hc9 : i + (c.length - (i + 1)) = (c.eraseIdx i).length := by omega
   simp only [Nat.sub_zero, hk1, hfk, ← hce, hc9]
   refine awR [] [none, none, none] ?_
   simp only [(id F_lDO), seval, cGrp, hl0, hko]
   repeat refine ob ?_
   repeat refine ob ?_
   refine ⟨_, wk_keep [5, 13, 14, 15, 16, 18, 19] [16, 18], (l.eraseIdx i).length, by rw [hel]; omega, k + 1, y, l.eraseIdx i, c.eraseIdx i, ?nn30, rfl, hym, hyx, by rw [hel]; omega, by omega, ?st30⟩
   case st30 => (simp only [(id F_lDO), seval]; first | rfl | (simp; done))
  repeat refine ob ?_
  refine ⟨_, hgo, (by first | rfl | simp [allA, pure1, pureCs, pureC, A1.cells, cGrp, flat_pure cEst_pure, flat_pure cDebt_pure, flat_pure cDisp_pure, flat_pure cI_pure]), ?_⟩
  try unfold Later
  try simp only [(id F_lDO), seval, cGrp, hl0, hko, hatc, cI, hcx, flat_pure cEst_pure, flat_pure cDebt_pure, flat_pure cDisp_pure, flat_pure cI_pure]
  repeat refine ob ?_
  refine awR [] [none, none, none, some (75, false), some (75, false), some (75, false), some (75, false), some (75, false), some (75, false), none] ?_
  simp only [(id F_lDO), seval, cGrp, hl0, hko, hel2]
  repeat refine ob ?_
  refine awF ?_
  refine awK ?_
  simp only [(id F_lDO), seval]
  refine awR [] [none, none, none, none] ?_
  simp only [(id F_lDO), seval, cGrp, hl0, hko]
  repeat refine ob ?_
  repeat' first|apply awS|apply awB
  refine awp_drawsI [] (by kernel_rfl) (.cons 1 true (.cons 2 true (.cons 3 true (.cons 5 true (.cons 6 true (.cons 7 true (.cons 8 true (.cons 0 false (.cons 4 false (.cons 9 false (.cons 10 true .nil))))))))))) (by kernel_rfl) (gs := [none, none, none, none, none, none, none, none, none, none, none]) (by kernel_rfl) (by simp only [(id zS), seval]; rfl) (by decide) ?_
  simp only [(id F_lDO), seval, cGrp, hl0, hko, hfl, (id SD)]
  repeat refine ob ?_
  refine awp_pub (t := 15) (by rfl) (by rfl) (by decide) (by rfl) ?_
  simp only [(id F_lDO), seval]
  have hk1 : ((i : Int) + 1).toNat = i + 1 := by omega
  have hfk : List.take (c.length - (i + 1)) (List.drop (i + 1) (flat cI c)) = List.drop (i + 1) (flat cI c) := List.take_of_length_le (by rw [List.length_drop, hfl]; exact Nat.le_refl _)
  have hc9 : i + (c.length - (i + 1)) = (c.eraseIdx i).length := by omega
  simp only [Nat.sub_zero, hk1, hfk, ← hce, hc9]
  refine awR [] [none, none, none] ?_
  simp only [(id F_lDO), seval, cGrp, hl0, hko]
  repeat refine ob ?_
  repeat refine ob ?_
  refine ⟨_, wk_keep [5, 13, 14, 15, 16, 18, 19] [16, 18], (l.eraseIdx i).length, by rw [hel]; omega, k + 1, y, l.eraseIdx i, c.eraseIdx i, ?nn35, rfl, hym, hyx, by rw [hel]; omega, by omega, ?st35⟩
  case st35 => (simp only [(id F_lDO), seval]; first | rfl | (simp; done))
 refine awR [] [none, none, none] ?_
 simp only [(id F_lDO), seval, cGrp, hl0]
 repeat refine ob ?_
 refine awF ?_
 refine awQ ?_
 simp only [(id F_lDO), seval]
 have hl9 : l = [] := List.eq_nil_of_length_eq_zero (by omega)
 subst hl9
 have hxW := mid_end hm
 subst hxW
 have hSg := SameGroup_yes x (xG_sg hx)
 refine awR [] [none, none, some (96, true), some (96, true), some (96, true), none, none] ?_
 simp only [(id F_lDO), seval, cGrp, hl0, flat_pure cEst_pure, flat_pure cDebt_pure, flat_pure cDisp_pure, flat_pure cI_pure, decide_true, BEq.rfl]
 repeat refine ob ?_
 refine ⟨_, awake22_A, (by first | rfl | simp [allA, pure1, pureCs, pureC, A1.cells, cGrp, flat_pure cEst_pure, flat_pure cDebt_pure, flat_pure cDisp_pure, flat_pure cI_pure]), ?_⟩
 try unfold Later
 try simp only [(id F_lDO), seval, cGrp, hl0, flat_pure cEst_pure, flat_pure cDebt_pure, flat_pure cDisp_pure, flat_pure cI_pure, decide_true, BEq.rfl]
 repeat refine ob ?_
 refine ⟨_, hSg, (by first | rfl | simp [allA, pure1, pureCs, pureC, A1.cells, cGrp, flat_pure cEst_pure, flat_pure cDebt_pure, flat_pure cDisp_pure, flat_pure cI_pure]), ?_⟩
 try unfold Later
 try simp only [(id F_lDO), seval, cGrp, hl0, flat_pure cEst_pure, flat_pure cDebt_pure, flat_pure cDisp_pure, flat_pure cI_pure, decide_true, BEq.rfl]
 repeat refine ob ?_
 refine awX ?_
 (first | (simp only [(id F_lDO), seval, cGrp, hl0]; done) | (simp only [(id F_lDO), seval, cGrp]; first | (simp [hl0]; done)))
theorem lDO_walk (v0 v1 v2 v3 v4 v5 : Value) (n : Nat) (cash : List Nat) (list ds : List N4) (bits : Nat) (order : List Nat) (W : World) (o0 : rC (fun n : Nat => [.lit (.int .u8 n)]) (· < 256) W (LT W.heap.size) [v0] n) (o1 : rC (cSl 1 cU16) (okSl (· < 65536)) W (LT W.heap.size) [v1] cash) (o2 : rC (cSl 4 cN4) (okSl okN4) W (LT W.heap.size) [v2] list) (o3 : rC (cSl 4 cN4) (okSl okN4) W (LT W.heap.size) [v3] ds) (o4 : rC cU16 (· < 65536) W (LT W.heap.size) [v4] bits) (o5 : rC (cSl 1 cY8) (okSl (· < 256)) W (LT W.heap.size) [v5] order) :
    Calls Tryz.prog 6 #[v0, v1, v2, v3, v4, v5] W fun e w' => e = .returned (.bool true) ∧ Below W.heap.size W w' := by
  obtain ⟨h0, k0⟩ := den_oneC o0 rfl
  obtain ⟨h1, k1⟩ := den_oneC o1 rfl
  obtain ⟨h2, k2⟩ := den_oneC o2 rfl
  obtain ⟨h3, k3⟩ := den_oneC o3 rfl
  obtain ⟨h4, k4⟩ := den_oneC o4 rfl
  obtain ⟨h5, k5⟩ := den_oneC o5 rfl
  exact acall_law (vs := [v0, v1, v2, v3, v4, v5]) (lDO_A n cash list ds bits order k0 k1 k2 k3 k4 k5) ⟨h0, h1, h2, h3, h4, h5, trivial⟩
end Go.Proofs.YtinaeglgfomlaaaGreatDoor
end
