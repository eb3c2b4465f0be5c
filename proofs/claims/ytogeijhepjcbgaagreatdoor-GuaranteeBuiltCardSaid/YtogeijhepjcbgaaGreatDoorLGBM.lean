/- GuaranteeBuilt: the law's own function; walked by the abstract machine. -/
import Derived.Test.YtogeijhepjcbgaaGreatDoorBl6M
import Derived.Test.YtogeijhepjcbgaaGreatDoorGu4M
set_option linter.unusedVariables false
set_option linter.unusedSimpArgs false
set_option linter.defProp false
set_option linter.unnecessarySimpa false
/- GuaranteeBuilt: the law's own function; walked by the abstract machine. -/
namespace Go.Proofs.YtogeijhepjcbgaaGreatDoor
open Go Go.RowKit
def lsD : List GDebt → Int → Int
  | [], n => n
  | d :: l, n => lsD l (n + (d.legs.length : Int))
theorem lsD_eq : ∀ (l : List GDebt) (n : Int), lsD l n = n + ((legsOf l).length : Int)
  | [], n => by simp [lsD, legsOf]
  | d :: l, n => by
    have h := lsD_eq l (n + (d.legs.length : Int))
    simp only [lsD, h, legsOf, List.map_cons, List.flatten_cons, List.length_append]
    omega
theorem cnC_bnd (ds : List GDebt) (i : Nat) : ∀ (l : List GClaim) (c : Nat) (n : Int), n - (l.length : Int) ≤ cnC ds i l c n ∧ cnC ds i l c n ≤ n
  | [], c, n => by simp [cnC]
  | y :: l, c, n => by
    have h := cnC_bnd ds i l (c + 1) (if lgD ((i : Int), (c : Int)) ds 0 = none then n else n - 1)
    simp only [cnC, List.length_cons]
    split at h <;> rename_i hx <;> simp only [hx, if_true, if_false, reduceCtorEq] <;> omega
theorem lGBt_ar28 : arT Tryz.prog 28 = none := by kernel_rfl
theorem lGBt_ar27 : arT Tryz.prog 27 = none := by kernel_rfl
theorem lGBt_ar48 : arT Tryz.prog 48 = none := by kernel_rfl
theorem lGBt_el64 : elT Tryz.prog 64 = some (69, 5, 56) := by kernel_rfl
theorem lGBt_el28 : elT Tryz.prog 28 = some (50, 4, 64) := by kernel_rfl
theorem lGBt_el27 : elT Tryz.prog 27 = some (67, 5, 88) := by kernel_rfl
theorem lGBt_el48 : elT Tryz.prog 48 = some (39, 2, 16) := by kernel_rfl
theorem lGBt_fo50_1 : foT Tryz.prog 50 1 = some (3, 48) := by kernel_rfl
theorem lGBt_fo67_1 : foT Tryz.prog 67 1 = some (3, 64) := by kernel_rfl
theorem lGBt_fo30_0 : foT Tryz.prog 30 0 = some (0, 27) := by kernel_rfl
theorem lGBt_fo30_1 : foT Tryz.prog 30 1 = some (1, 28) := by kernel_rfl
theorem lGBt_fo39_0 : foT Tryz.prog 39 0 = some (0, 3) := by kernel_rfl
theorem lGBt_fo39_1 : foT Tryz.prog 39 1 = some (1, 3) := by kernel_rfl
theorem lGBt_ld64 : ldT Tryz.prog 64 = some (false, 1) := by kernel_rfl
theorem lGBt_ld28 : ldT Tryz.prog 28 = some (false, 1) := by kernel_rfl
theorem lGBt_ld27 : ldT Tryz.prog 27 = some (false, 1) := by kernel_rfl
theorem lGBt_ld48 : ldT Tryz.prog 48 = some (false, 1) := by kernel_rfl
theorem lGBt_ld67 : ldT Tryz.prog 67 = some (true, 5) := by kernel_rfl
theorem lGBt_ld30 : ldT Tryz.prog 30 = some (true, 2) := by kernel_rfl
theorem lGBt_ld39 : ldT Tryz.prog 39 = some (true, 2) := by kernel_rfl
theorem lGBt_ld3 : ldT Tryz.prog 3 = some (false, 1) := by kernel_rfl
theorem lGBt_zr67 : zrT Tryz.prog 67 = some [.bool false, .string bEmpty, .string bEmpty, .slice none 0 0, .slice none 0 0] := by kernel_rfl
theorem lGBt_zr30 : zrT Tryz.prog 30 = some [.slice none 0 0, .slice none 0 0] := by kernel_rfl
theorem lGBt_zr39 : zrT Tryz.prog 39 = some [.int .i64 0, .int .i64 0] := by kernel_rfl
def F_lGBt := And.intro lGBt_ar28 (And.intro lGBt_ar27 (And.intro lGBt_ar48 (And.intro lGBt_el64 (And.intro lGBt_el28 (And.intro lGBt_el27 (And.intro lGBt_el48 (And.intro lGBt_fo50_1 (And.intro lGBt_fo67_1 (And.intro lGBt_fo30_0 (And.intro lGBt_fo30_1 (And.intro lGBt_fo39_0 (And.intro lGBt_fo39_1 (And.intro lGBt_ld64 (And.intro lGBt_ld28 (And.intro lGBt_ld27 (And.intro lGBt_ld48 (And.intro lGBt_ld67 (And.intro lGBt_ld30 (And.intro lGBt_ld39 (And.intro lGBt_ld3 (And.intro lGBt_zr67 (And.intro lGBt_zr30 (lGBt_zr39)))))))))))))))))))))))
set_option maxRecDepth 100000 in
set_option maxHeartbeats 4000000 in
theorem lGBt_A (n : Nat) (cash : List Nat) (list : List N4) (pools debts : List N3) (hn : n < 256) (hcs : okSl (· < 65536) cash) (hls : okSl okN4 list) (hps : okSl okN3 pools) (hds : okSl okN3 debts) : ACall Tryz.prog 10 [.one (.lit (.int .u8 n)), .one (.sh 1 cash.length (flat cU16 cash)), .one (.sh 4 list.length (flat cN4 list)), .one (.sh 3 pools.length (flat cN3 pools)), .one (.sh 3 debts.length (flat cN3 debts))] (one (.bool true)) := by
  have hc1 : cash.length ≤ 9223372036854775807 := Nat.le_trans hcs.1 (by decide)
  have hl1 : list.length ≤ 9223372036854775807 := Nat.le_trans hls.1 (by decide)
  have hp1 : pools.length ≤ 9223372036854775807 := Nat.le_trans hps.1 (by decide)
  have hd1 : debts.length ≤ 9223372036854775807 := Nat.le_trans hds.1 (by decide)
  refine acall_of Tryz.func10 rfl (by decide) (N := 110) rfl (by simp) (R := [.tmp 10]) rfl fun en k0 => ?_
  repeat' first|refine awS ?_|refine awB ?_
  refine awR [] [none] ?_
  simp only [(id F_lGBt), (id SS), seval, reduceIte, ne_eq]
  repeat refine ⟨by first|omega|(simp only [List.length_cons];omega)|exact ⟨⟨by omega,by omega⟩,rfl⟩|rfl,?_⟩
  have hGR := group_A n cash list pools debts hn hcs.2 hls.2 hps.2 hds.2 hc1 hl1 hp1 hd1
  have hok := grpN_ok n cash list pools debts
  have hval := grpN_valid n cash list pools debts
  rw [← gc_cg] at hval
  have hdo := grpN_d n cash list pools debts
  have hel := grpE_len n cash list pools
  have heb := grpE_okB n cash list pools
  repeat' first|refine awS ?_|refine awB ?_
  refine awR [] [none, none, none, none, none, none, none, none] ?_
  simp only [(id F_lGBt), (id SS), seval, reduceIte, ne_eq, flat_pure cU16_pure, flat_pure cN4_pure, flat_pure cN3_pure, cGrp]
  repeat refine ⟨by first|omega|(simp only [List.length_cons];omega)|exact ⟨⟨by omega,by omega⟩,rfl⟩|rfl,?_⟩
  refine ⟨_, hGR, (by first | rfl | simp [allA, pure1, pureCs, pureC, A1.cells, cGrp, flat_pure cEst_pure, flat_pure cDebt_pure]), ?_⟩
  try unfold Later
  try simp only [(id F_lGBt), (id SS), seval, reduceIte, ne_eq, flat_pure cU16_pure, flat_pure cN4_pure, flat_pure cN3_pure, cGrp]
  repeat refine ⟨by first|omega|(simp only [List.length_cons];omega)|exact ⟨⟨by omega,by omega⟩,rfl⟩|rfl,?_⟩
  generalize hgg : grpN n cash list pools debts = g at *
  have hel2 : g.ests.length ≤ 4 := by rw [← hgg]; show (grpE n cash list pools).length ≤ 4; omega
  have heb2 : ∀ e ∈ g.ests, e.claims.length ≤ 6 := by rw [← hgg]; exact fun e he => (heb e he).1
  have hgo := grpOK2_ok hok.1
  have hgn : g.debts.length ≤ 1000000000000 := by have := hok.2.1; omega
  have hgl : ∀ d ∈ g.debts, d.legs.length ≤ 1000000000000 := fun d hd => by have := hok.2.2 d hd; omega
  have hC := gCheck_A g hgo
  have hok3 := hok.2.1
  repeat' first|refine awS ?_|refine awB ?_
  refine awR [] [none, none, none] ?_
  simp only [(id F_lGBt), (id SS), seval, reduceIte, ne_eq, cGrp, hval, flat_pure cEst_pure, flat_pure cDebt_pure, decide_true, Bool.not_true]
  repeat refine ⟨by first|omega|(simp only [List.length_cons];omega)|exact ⟨⟨by omega,by omega⟩,rfl⟩|rfl,?_⟩
  refine ⟨_, hC, (by first | rfl | simp [allA, pure1, pureCs, pureC, A1.cells, cGrp, flat_pure cEst_pure, flat_pure cDebt_pure]), ?_⟩
  try unfold Later
  try simp only [(id F_lGBt), (id SS), seval, reduceIte, ne_eq, cGrp, hval, flat_pure cEst_pure, flat_pure cDebt_pure, decide_true, Bool.not_true]
  repeat refine ⟨by first|omega|(simp only [List.length_cons];omega)|exact ⟨⟨by omega,by omega⟩,rfl⟩|rfl,?_⟩
  repeat' first|refine awS ?_|refine awB ?_
  refine awF ?_
  refine awp_skip ?_
  simp only [(id F_lGBt), (id SS), seval, reduceIte, ne_eq]
  repeat' first|refine awS ?_|refine awB ?_
  refine awR [] [none] ?_
  simp only [(id F_lGBt), (id SS), seval, reduceIte, ne_eq]
  repeat refine ⟨by first|omega|(simp only [List.length_cons];omega)|exact ⟨⟨by omega,by omega⟩,rfl⟩|rfl,?_⟩
  repeat' first|refine awS ?_|refine awB ?_
  refine awR [] [none, none, none, none] ?_
  simp only [(id F_lGBt), (id SS), seval, reduceIte, ne_eq, cGrp]
  repeat refine ⟨by first|omega|(simp only [List.length_cons];omega)|exact ⟨⟨by omega,by omega⟩,rfl⟩|rfl,?_⟩
  refine awp_keep [11, 12, 35, 36, 37] [11] ?_
  try unfold Later
  try simp only [(id F_lGBt), (id SS), seval, reduceIte, ne_eq]
  repeat' first|refine awS ?_|refine awB ?_
  refine awp_loopw (fun n st => ∃ i0 tn nx, i0 ≤ g.debts.length ∧ n = g.debts.length - i0 ∧ lsD (g.debts.drop i0) tn = lsD g.debts 0 ∧ 0 ≤ tn ∧ tn ≤ 4 * i0 ∧ st = ⟨mkT [(11, .val (.one (.ptr 11 0 0))), (12, one (.int .i64 tn)), (35, .val (.one (.sh 4 g.debts.length (flat cDebt g.debts)))), (36, one (.int .i64 g.debts.length)), (37, one (.int .i64 i0))], mkH [(11, ⟨0, 30, 2, 1, cGrp g⟩)], nx, 0⟩) (g.debts.length) ⟨0, 0, _, by omega, by omega, by rfl, (by first | omega | assumption | rfl | simp | (simp; omega)), (by first | omega | assumption | rfl | simp | (simp; omega)), rfl⟩ ?_
  rintro n0 st ⟨i0, tn, nx0, hk0, rfl, hL0, hV0_1, hV0_2, rfl⟩
  by_cases hlt0 : i0 < g.debts.length
  · skip
    have hI0 : (i0 : Int) < (g.debts.length : Int) := by omega
    have hat0 := flat_at cDebt_len g.debts i0 hlt0
    try rw [Nat.mul_one] at hat0
    rw [List.drop_eq_getElem_cons hlt0] at hL0
    have hdl := hok.2.2 _ (List.getElem_mem hlt0)
    have hat9 : ∀ k (hk : k < g.debts[i0].legs.length), lgD g.debts[i0].legs[k] g.debts 0 = some (i0, k) := fun k hk => lgD_at g hdo.1 i0 k hlt0 hk
    generalize g.debts[i0] = d at *
    simp only [lsD] at hL0
    repeat' first|refine awS ?_|refine awB ?_
    refine awR [] [none] ?_
    simp only [(id F_lGBt), (id SS), seval, reduceIte, ne_eq, hI0, hat0, cDebt]
    repeat refine ⟨by first|omega|(simp only [List.length_cons];omega)|exact ⟨⟨by omega,by omega⟩,rfl⟩|rfl,?_⟩
    repeat' first|refine awS ?_|refine awB ?_
    refine awT ?_
    refine awp_skip ?_
    simp only [(id F_lGBt), (id SS), seval, reduceIte, ne_eq]
    repeat' first|refine awS ?_|refine awB ?_
    refine awR [] [none, none] ?_
    simp only [(id F_lGBt), (id SS), seval, reduceIte, ne_eq, hI0, hat0, cDebt]
    repeat refine ⟨by first|omega|(simp only [List.length_cons];omega)|exact ⟨⟨by omega,by omega⟩,rfl⟩|rfl,?_⟩
    repeat' first|refine awS ?_|refine awB ?_
    refine awR [] [none, none, none, none, none, none, none, none] ?_
    simp only [(id F_lGBt), (id SS), seval, reduceIte, ne_eq, hI0, hat0, cDebt, cGrp]
    repeat refine ⟨by first|omega|(simp only [List.length_cons];omega)|exact ⟨⟨by omega,by omega⟩,rfl⟩|rfl,?_⟩
    refine awp_keep [11, 12, 13, 35, 36, 37, 45, 46, 47] [11] ?_
    try unfold Later
    try simp only [(id F_lGBt), (id SS), seval, reduceIte, ne_eq, hI0, hat0, cDebt]
    repeat' first|refine awS ?_|refine awB ?_
    refine awp_loopw (fun n st => ∃ k nx, k ≤ d.legs.length ∧ n = d.legs.length - k ∧ st = ⟨mkT [(11, .val (.one (.ptr 11 0 0))), (12, one (.int .i64 (tn + (k : Int)))), (13, one (.int .i64 i0)), (35, .val (.one (.sh 4 g.debts.length (flat cDebt g.debts)))), (36, one (.int .i64 g.debts.length)), (37, one (.int .i64 i0)), (45, .val (.one (.sh 2 d.legs.length (flat cLeg d.legs)))), (46, one (.int .i64 d.legs.length)), (47, one (.int .i64 k))], mkH [(11, ⟨0, 30, 2, 1, cGrp g⟩)], nx, 0⟩) (d.legs.length) ⟨0, _, by omega, by omega, by simp only [Int.natCast_zero, Int.add_zero]; rfl⟩ ?_
    rintro n1 st ⟨k, nx1, hk, rfl, rfl⟩
    by_cases hlt1 : (k : Int) < (d.legs.length : Int)
    · skip
      repeat' first|refine awS ?_|refine awB ?_
      refine awR [] [none] ?_
      simp only [(id F_lGBt), (id SS), seval, reduceIte, ne_eq, hI0, hat0, cDebt, hlt1]
      repeat refine ⟨by first|omega|(simp only [List.length_cons];omega)|exact ⟨⟨by omega,by omega⟩,rfl⟩|rfl,?_⟩
      repeat' first|refine awS ?_|refine awB ?_
      refine awT ?_
      refine awp_skip ?_
      simp only [(id F_lGBt), (id SS), seval, reduceIte, ne_eq]
      have hkl : k < d.legs.length := by omega
      have hatk := flat_at cLeg_len d.legs k hkl
      repeat' first|refine awS ?_|refine awB ?_
      refine awR [] [none, none, none, none, none, none] ?_
      simp only [(id F_lGBt), (id SS), seval, reduceIte, ne_eq, hI0, hat0, cDebt, hlt1, hatk, cLeg]
      repeat refine ⟨by first|omega|(simp only [List.length_cons];omega)|exact ⟨⟨by omega,by omega⟩,rfl⟩|rfl,?_⟩
      have hkl : k < d.legs.length := by omega
      have hF := gFind_A g d.legs[k] hgo hgn hgl
      rw [hval, hat9 k hkl] at hF
      simp only [fnS, lgR, ne_eq, not_true_eq_false, if_false] at hF
      generalize d.legs[k] = l at *
      repeat' first|refine awS ?_|refine awB ?_
      refine awR [] [none, none, none, none, none, none, none, none, none, none, none, none, none] ?_
      simp only [(id F_lGBt), (id SS), seval, reduceIte, ne_eq, hI0, hat0, cDebt, hlt1, cGrp, flat_pure cEst_pure, flat_pure cDebt_pure]
      repeat refine ⟨by first|omega|(simp only [List.length_cons];omega)|exact ⟨⟨by omega,by omega⟩,rfl⟩|rfl,?_⟩
      refine ⟨_, hF, (by first | rfl | simp [allA, pure1, pureCs, pureC, A1.cells, cGrp, flat_pure cEst_pure, flat_pure cDebt_pure]), ?_⟩
      try unfold Later
      try simp only [(id F_lGBt), (id SS), seval, reduceIte, ne_eq, hI0, hat0, cDebt, hlt1, cGrp, flat_pure cEst_pure, flat_pure cDebt_pure]
      repeat refine ⟨by first|omega|(simp only [List.length_cons];omega)|exact ⟨⟨by omega,by omega⟩,rfl⟩|rfl,?_⟩
      repeat' first|refine awS ?_|refine awB ?_
      refine awR [] [none, none, none, some (64, false), some (64, false), some (64, false), none, none, some (69, false), some (69, false), some (69, false), none] ?_
      simp only [(id F_lGBt), (id SS), seval, reduceIte, ne_eq, hI0, hat0, cDebt, hlt1, decide_true, Bool.not_true]
      repeat refine ⟨by first|omega|(simp only [List.length_cons];omega)|exact ⟨⟨by omega,by omega⟩,rfl⟩|rfl,?_⟩
      repeat' first|refine awS ?_|refine awB ?_
      refine awF ?_
      refine awp_skip ?_
      simp only [(id F_lGBt), (id SS), seval, reduceIte, ne_eq]
      repeat' first|refine awS ?_|refine awB ?_
      refine awR [] [none, none, none] ?_
      simp only [(id F_lGBt), (id SS), seval, reduceIte, ne_eq, hI0, hat0, cDebt, hlt1]
      repeat refine ⟨by first|omega|(simp only [List.length_cons];omega)|exact ⟨⟨by omega,by omega⟩,rfl⟩|rfl,?_⟩
      repeat' first|refine awS ?_|refine awB ?_
      refine awR [] [none, none] ?_
      simp only [(id F_lGBt), (id SS), seval, reduceIte, ne_eq, hI0, hat0, cDebt, hlt1]
      repeat refine ⟨by first|omega|(simp only [List.length_cons];omega)|exact ⟨⟨by omega,by omega⟩,rfl⟩|rfl,?_⟩
      repeat refine ⟨by first|omega|(simp only [List.length_cons];omega)|exact ⟨⟨by omega,by omega⟩,rfl⟩|rfl,?_⟩
      have hnk : tn + (k : Int) + 1 = tn + ((k + 1 : Nat) : Int) := by omega
      refine ⟨_, wk_keep [11, 12, 13, 35, 36, 37, 45, 46, 47] [11], d.legs.length - (k + 1), by omega, k + 1, ?na15, by omega, rfl, ?st15⟩
      case st15 => (simp only [(id F_lGBt), (id SS), seval, reduceIte, ne_eq, hnk]; first | rfl | (simp; done))
    · skip
      repeat' first|refine awS ?_|refine awB ?_
      refine awR [] [none] ?_
      simp only [(id F_lGBt), (id SS), seval, reduceIte, ne_eq, hI0, hat0, cDebt, hlt1]
      repeat refine ⟨by first|omega|(simp only [List.length_cons];omega)|exact ⟨⟨by omega,by omega⟩,rfl⟩|rfl,?_⟩
      repeat' first|refine awS ?_|refine awB ?_
      refine awF ?_
      refine awp_exit ?_
      simp only [(id F_lGBt), (id SS), seval, reduceIte, ne_eq]
      obtain rfl : k = d.legs.length := by omega
      repeat' first|refine awS ?_|refine awB ?_
      refine awR [] [none, none] ?_
      simp only [(id F_lGBt), (id SS), seval, reduceIte, ne_eq, hI0, hat0, cDebt, hlt1]
      repeat refine ⟨by first|omega|(simp only [List.length_cons];omega)|exact ⟨⟨by omega,by omega⟩,rfl⟩|rfl,?_⟩
      repeat refine ⟨by first|omega|(simp only [List.length_cons];omega)|exact ⟨⟨by omega,by omega⟩,rfl⟩|rfl,?_⟩
      refine ⟨_, wk_keep [11, 12, 35, 36, 37] [11], g.debts.length - (i0 + 1), by omega, i0 + 1, (tn + (d.legs.length : Int)), ?a17_nx, by omega, rfl, ?i17_0, ?i17_1, ?i17_2, ?st17⟩
      case st17 => (simp only [(id F_lGBt), (id SS), seval, reduceIte, ne_eq, hI0, hat0, cDebt, hlt1]; first | rfl | (simp [hI0, hat0, cDebt, hlt1, Nat.add_mul]; done))
      case i17_0 => (first | exact hL0 | (rw [← hL0]; simp only [reduceIte, hI0, hat0, cDebt, hlt1]; done) | (rw [← hL0]; simp [hI0, hat0, cDebt, hlt1]; done) | (simp [hI0, hat0, cDebt, hlt1] at hL0; simpa using hL0) | (rw [← hL0]; simp [*]; done))
      case i17_1 => (first | omega | assumption | (simp; omega) | (simp_all; done))
      case i17_2 => (first | omega | assumption | (simp; omega) | (simp_all; done))
  · skip
    obtain rfl : i0 = g.debts.length := by omega
    have hI0 : ¬ (g.debts.length : Int) < (g.debts.length : Int) := by omega
    rw [List.drop_length] at hL0
    simp only [lsD] at hL0
    repeat' first|refine awS ?_|refine awB ?_
    refine awR [] [none] ?_
    simp only [(id F_lGBt), (id SS), seval, reduceIte, ne_eq, hI0]
    repeat refine ⟨by first|omega|(simp only [List.length_cons];omega)|exact ⟨⟨by omega,by omega⟩,rfl⟩|rfl,?_⟩
    repeat' first|refine awS ?_|refine awB ?_
    refine awF ?_
    refine awp_exit ?_
    simp only [(id F_lGBt), (id SS), seval, reduceIte, ne_eq]
    repeat' first|refine awS ?_|refine awB ?_
    refine awR [] [none, none, none, none] ?_
    simp only [(id F_lGBt), (id SS), seval, reduceIte, ne_eq, hI0, cGrp]
    repeat refine ⟨by first|omega|(simp only [List.length_cons];omega)|exact ⟨⟨by omega,by omega⟩,rfl⟩|rfl,?_⟩
    refine awp_keep [11, 12, 79, 80, 81] [11] ?_
    try unfold Later
    try simp only [(id F_lGBt), (id SS), seval, reduceIte, ne_eq, hI0]
    repeat' first|refine awS ?_|refine awB ?_
    refine awp_loopw (fun n st => ∃ i1 m nx, i1 ≤ g.ests.length ∧ n = g.ests.length - i1 ∧ cnE g.debts (g.ests.drop i1) i1 m = cnE g.debts g.ests 0 tn ∧ -6 * (i1 : Int) ≤ m ∧ m ≤ 12 ∧ st = ⟨mkT [(11, .val (.one (.ptr 11 0 0))), (12, one (.int .i64 m)), (79, .val (.one (.sh 5 g.ests.length (flat cEst g.ests)))), (80, one (.int .i64 g.ests.length)), (81, one (.int .i64 i1))], mkH [(11, ⟨0, 30, 2, 1, cGrp g⟩)], nx, 0⟩) (g.ests.length) ⟨0, tn, _, by omega, by omega, by rfl, (by first | omega | assumption | rfl | simp | (simp; omega)), (by first | omega | assumption | rfl | simp | (simp; omega)), rfl⟩ ?_
    rintro n2 st ⟨i1, m, nx2, hk2, rfl, hL2, hV2_1, hV2_2, rfl⟩
    by_cases hlt2 : i1 < g.ests.length
    · skip
      have hI2 : (i1 : Int) < (g.ests.length : Int) := by omega
      have hat2 := flat_at cEst_len g.ests i1 hlt2
      try rw [Nat.mul_one] at hat2
      rw [List.drop_eq_getElem_cons hlt2] at hL2
      have hec := heb2 _ (List.getElem_mem hlt2)
      have hbb := cnC_bnd g.debts i1 g.ests[i1].claims 0 m
      generalize g.ests[i1] = e at *
      simp only [cnE] at hL2
      repeat' first|refine awS ?_|refine awB ?_
      refine awR [] [none] ?_
      simp only [(id F_lGBt), (id SS), seval, reduceIte, ne_eq, hI0, hI2, hat2, cEst]
      repeat refine ⟨by first|omega|(simp only [List.length_cons];omega)|exact ⟨⟨by omega,by omega⟩,rfl⟩|rfl,?_⟩
      repeat' first|refine awS ?_|refine awB ?_
      refine awT ?_
      refine awp_skip ?_
      simp only [(id F_lGBt), (id SS), seval, reduceIte, ne_eq]
      repeat' first|refine awS ?_|refine awB ?_
      refine awR [] [none, none, none, none, none, none] ?_
      simp only [(id F_lGBt), (id SS), seval, reduceIte, ne_eq, hI0, hI2, hat2, cEst, cEst]
      repeat refine ⟨by first|omega|(simp only [List.length_cons];omega)|exact ⟨⟨by omega,by omega⟩,rfl⟩|rfl,?_⟩
      repeat' first|refine awS ?_|refine awB ?_
      refine awR [] [none, none, none, none] ?_
      simp only [(id F_lGBt), (id SS), seval, reduceIte, ne_eq, hI0, hI2, hat2, cEst]
      repeat refine ⟨by first|omega|(simp only [List.length_cons];omega)|exact ⟨⟨by omega,by omega⟩,rfl⟩|rfl,?_⟩
      refine awp_keep [11, 12, 19, 79, 80, 81, 87, 88, 89] [11] ?_
      try unfold Later
      try simp only [(id F_lGBt), (id SS), seval, reduceIte, ne_eq, hI0, hI2, hat2, cEst]
      repeat' first|refine awS ?_|refine awB ?_
      refine awp_loopw (fun n st => ∃ c0 u nx, c0 ≤ e.claims.length ∧ n = e.claims.length - c0 ∧ cnC g.debts i1 (e.claims.drop c0) c0 u = cnC g.debts i1 e.claims 0 m ∧ m - (c0 : Int) ≤ u ∧ u ≤ m ∧ st = ⟨mkT [(11, .val (.one (.ptr 11 0 0))), (12, one (.int .i64 u)), (19, one (.int .i64 i1)), (79, .val (.one (.sh 5 g.ests.length (flat cEst g.ests)))), (80, one (.int .i64 g.ests.length)), (81, one (.int .i64 i1)), (87, .val (.one (.sh 5 e.claims.length (flat cClaim e.claims)))), (88, one (.int .i64 e.claims.length)), (89, one (.int .i64 c0))], mkH [(11, ⟨0, 30, 2, 1, cGrp g⟩)], nx, 0⟩) (e.claims.length) ⟨0, m, _, by omega, by omega, by rfl, (by first | omega | assumption | rfl | simp | (simp; omega)), (by first | omega | assumption | rfl | simp | (simp; omega)), rfl⟩ ?_
      rintro n3 st ⟨c0, u, nx3, hk3, rfl, hL3, hV3_1, hV3_2, rfl⟩
      by_cases hlt3 : c0 < e.claims.length
      · skip
        have hI3 : (c0 : Int) < (e.claims.length : Int) := by omega
        rw [List.drop_eq_getElem_cons hlt3] at hL3
        generalize e.claims[c0] = y at *
        simp only [cnC] at hL3
        repeat' first|refine awS ?_|refine awB ?_
        refine awR [] [none] ?_
        simp only [(id F_lGBt), (id SS), seval, reduceIte, ne_eq, hI0, hI2, hat2, cEst, hI3]
        repeat refine ⟨by first|omega|(simp only [List.length_cons];omega)|exact ⟨⟨by omega,by omega⟩,rfl⟩|rfl,?_⟩
        repeat' first|refine awS ?_|refine awB ?_
        refine awT ?_
        refine awp_skip ?_
        simp only [(id F_lGBt), (id SS), seval, reduceIte, ne_eq]
        repeat' first|refine awS ?_|refine awB ?_
        refine awR [] [none, none] ?_
        simp only [(id F_lGBt), (id SS), seval, reduceIte, ne_eq, hI0, hI2, hat2, cEst, hI3]
        repeat refine ⟨by first|omega|(simp only [List.length_cons];omega)|exact ⟨⟨by omega,by omega⟩,rfl⟩|rfl,?_⟩
        by_cases hfd : lgD ((i1 : Int), (c0 : Int)) g.debts 0 = none
        · skip
          have hF := gFind_A g ((i1 : Int), (c0 : Int)) hgo hgn hgl
          rw [hval, hfd] at hF
          simp only [fnS, lgR, ne_eq, not_true_eq_false, if_false] at hF
          repeat' first|refine awS ?_|refine awB ?_
          refine awR [] [none, none, none, none, none, none, none, none, none, none, none] ?_
          simp only [(id F_lGBt), (id SS), seval, reduceIte, ne_eq, hI0, hI2, hat2, cEst, hI3, hfd, cGrp, flat_pure cEst_pure, flat_pure cDebt_pure]
          repeat refine ⟨by first|omega|(simp only [List.length_cons];omega)|exact ⟨⟨by omega,by omega⟩,rfl⟩|rfl,?_⟩
          refine ⟨_, hF, (by first | rfl | simp [allA, pure1, pureCs, pureC, A1.cells, cGrp, flat_pure cEst_pure, flat_pure cDebt_pure]), ?_⟩
          try unfold Later
          try simp only [(id F_lGBt), (id SS), seval, reduceIte, ne_eq, hI0, hI2, hat2, cEst, hI3, hfd, cGrp, flat_pure cEst_pure, flat_pure cDebt_pure]
          repeat refine ⟨by first|omega|(simp only [List.length_cons];omega)|exact ⟨⟨by omega,by omega⟩,rfl⟩|rfl,?_⟩
          repeat' first|refine awS ?_|refine awB ?_
          refine awR [] [none] ?_
          simp only [(id F_lGBt), (id SS), seval, reduceIte, ne_eq, hI0, hI2, hat2, cEst, hI3, hfd]
          repeat refine ⟨by first|omega|(simp only [List.length_cons];omega)|exact ⟨⟨by omega,by omega⟩,rfl⟩|rfl,?_⟩
          repeat' first|refine awS ?_|refine awB ?_
          refine awF ?_
          refine awp_skip ?_
          simp only [(id F_lGBt), (id SS), seval, reduceIte, ne_eq]
          repeat' first|refine awS ?_|refine awB ?_
          refine awR [] [none, none] ?_
          simp only [(id F_lGBt), (id SS), seval, reduceIte, ne_eq, hI0, hI2, hat2, cEst, hI3, hfd]
          repeat refine ⟨by first|omega|(simp only [List.length_cons];omega)|exact ⟨⟨by omega,by omega⟩,rfl⟩|rfl,?_⟩
          repeat refine ⟨by first|omega|(simp only [List.length_cons];omega)|exact ⟨⟨by omega,by omega⟩,rfl⟩|rfl,?_⟩
          refine ⟨_, wk_keep [11, 12, 19, 79, 80, 81, 87, 88, 89] [11], e.claims.length - (c0 + 1), by omega, c0 + 1, (u), ?a28_nx, by omega, rfl, ?i28_0, ?i28_1, ?i28_2, ?st28⟩
          case st28 => (simp only [(id F_lGBt), (id SS), seval, reduceIte, ne_eq, hI0, hI2, hat2, cEst, hI3, hfd]; first | rfl | (simp [hI0, hI2, hat2, cEst, hI3, hfd, Nat.add_mul]; done))
          case i28_0 => (first | exact hL3 | (rw [← hL3]; simp only [reduceIte, hI0, hI2, hat2, cEst, hI3, hfd]; done) | (rw [← hL3]; simp [hI0, hI2, hat2, cEst, hI3, hfd]; done) | (simp [hI0, hI2, hat2, cEst, hI3, hfd] at hL3; simpa using hL3) | (rw [← hL3]; simp [*]; done))
          case i28_1 => (first | omega | assumption | (simp; omega) | (simp_all; done))
          case i28_2 => (first | omega | assumption | (simp; omega) | (simp_all; done))
        · skip
          obtain ⟨x, hx⟩ := Option.ne_none_iff_exists'.1 hfd
          have hF := gFind_A g ((i1 : Int), (c0 : Int)) hgo hgn hgl
          rw [hval, hx] at hF
          simp only [fnS, lgR, ne_eq, not_true_eq_false, if_false] at hF
          repeat' first|refine awS ?_|refine awB ?_
          refine awR [] [none, none, none, none, none, none, none, none, none, none, none] ?_
          simp only [(id F_lGBt), (id SS), seval, reduceIte, ne_eq, hI0, hI2, hat2, cEst, hI3, hfd, cGrp, flat_pure cEst_pure, flat_pure cDebt_pure]
          repeat refine ⟨by first|omega|(simp only [List.length_cons];omega)|exact ⟨⟨by omega,by omega⟩,rfl⟩|rfl,?_⟩
          refine ⟨_, hF, (by first | rfl | simp [allA, pure1, pureCs, pureC, A1.cells, cGrp, flat_pure cEst_pure, flat_pure cDebt_pure]), ?_⟩
          try unfold Later
          try simp only [(id F_lGBt), (id SS), seval, reduceIte, ne_eq, hI0, hI2, hat2, cEst, hI3, hfd, cGrp, flat_pure cEst_pure, flat_pure cDebt_pure]
          repeat refine ⟨by first|omega|(simp only [List.length_cons];omega)|exact ⟨⟨by omega,by omega⟩,rfl⟩|rfl,?_⟩
          repeat' first|refine awS ?_|refine awB ?_
          refine awR [] [none] ?_
          simp only [(id F_lGBt), (id SS), seval, reduceIte, ne_eq, hI0, hI2, hat2, cEst, hI3, hfd]
          repeat refine ⟨by first|omega|(simp only [List.length_cons];omega)|exact ⟨⟨by omega,by omega⟩,rfl⟩|rfl,?_⟩
          repeat' first|refine awS ?_|refine awB ?_
          refine awT ?_
          repeat' first|refine awS ?_|refine awB ?_
          refine awR [] [none, none, none] ?_
          simp only [(id F_lGBt), (id SS), seval, reduceIte, ne_eq, hI0, hI2, hat2, cEst, hI3, hfd]
          repeat refine ⟨by first|omega|(simp only [List.length_cons];omega)|exact ⟨⟨by omega,by omega⟩,rfl⟩|rfl,?_⟩
          repeat' first|refine awS ?_|refine awB ?_
          refine awR [] [none, none] ?_
          simp only [(id F_lGBt), (id SS), seval, reduceIte, ne_eq, hI0, hI2, hat2, cEst, hI3, hfd]
          repeat refine ⟨by first|omega|(simp only [List.length_cons];omega)|exact ⟨⟨by omega,by omega⟩,rfl⟩|rfl,?_⟩
          repeat refine ⟨by first|omega|(simp only [List.length_cons];omega)|exact ⟨⟨by omega,by omega⟩,rfl⟩|rfl,?_⟩
          refine ⟨_, wk_keep [11, 12, 19, 79, 80, 81, 87, 88, 89] [11], e.claims.length - (c0 + 1), by omega, c0 + 1, ((u - 1)), ?a33_nx, by omega, rfl, ?i33_0, ?i33_1, ?i33_2, ?st33⟩
          case st33 => (simp only [(id F_lGBt), (id SS), seval, reduceIte, ne_eq, hI0, hI2, hat2, cEst, hI3, hfd]; first | rfl | (simp [hI0, hI2, hat2, cEst, hI3, hfd, Nat.add_mul]; done))
          case i33_0 => (first | exact hL3 | (rw [← hL3]; simp only [reduceIte, hI0, hI2, hat2, cEst, hI3, hfd]; done) | (rw [← hL3]; simp [hI0, hI2, hat2, cEst, hI3, hfd]; done) | (simp [hI0, hI2, hat2, cEst, hI3, hfd] at hL3; simpa using hL3) | (rw [← hL3]; simp [*]; done))
          case i33_1 => (first | omega | assumption | (simp; omega) | (simp_all; done))
          case i33_2 => (first | omega | assumption | (simp; omega) | (simp_all; done))
      · skip
        obtain rfl : c0 = e.claims.length := by omega
        have hI3 : ¬ (e.claims.length : Int) < (e.claims.length : Int) := by omega
        rw [List.drop_length] at hL3
        simp only [cnC] at hL3
        repeat' first|refine awS ?_|refine awB ?_
        refine awR [] [none] ?_
        simp only [(id F_lGBt), (id SS), seval, reduceIte, ne_eq, hI0, hI2, hat2, cEst, hI3]
        repeat refine ⟨by first|omega|(simp only [List.length_cons];omega)|exact ⟨⟨by omega,by omega⟩,rfl⟩|rfl,?_⟩
        repeat' first|refine awS ?_|refine awB ?_
        refine awF ?_
        refine awp_exit ?_
        simp only [(id F_lGBt), (id SS), seval, reduceIte, ne_eq]
        repeat' first|refine awS ?_|refine awB ?_
        refine awR [] [none, none] ?_
        simp only [(id F_lGBt), (id SS), seval, reduceIte, ne_eq, hI0, hI2, hat2, cEst, hI3]
        repeat refine ⟨by first|omega|(simp only [List.length_cons];omega)|exact ⟨⟨by omega,by omega⟩,rfl⟩|rfl,?_⟩
        repeat refine ⟨by first|omega|(simp only [List.length_cons];omega)|exact ⟨⟨by omega,by omega⟩,rfl⟩|rfl,?_⟩
        refine ⟨_, wk_keep [11, 12, 79, 80, 81] [11], g.ests.length - (i1 + 1), by omega, i1 + 1, ?a36_m, ?a36_nx, by omega, rfl, ?i36_0, ?i36_1, ?i36_2, ?st36⟩
        case st36 => (simp only [(id F_lGBt), (id SS), seval, reduceIte, ne_eq, hI0, hI2, hat2, cEst, hI3]; first | rfl | (simp [hI0, hI2, hat2, cEst, hI3, Nat.add_mul]; done))
        case i36_0 => (rw [← hL2, ← hL3])
        case i36_1 => (first | omega | assumption | (simp; omega) | (simp_all; done))
        case i36_2 => (first | omega | assumption | (simp; omega) | (simp_all; done))
    · skip
      obtain rfl : i1 = g.ests.length := by omega
      have hI2 : ¬ (g.ests.length : Int) < (g.ests.length : Int) := by omega
      rw [List.drop_length] at hL2
      simp only [cnE] at hL2
      repeat' first|refine awS ?_|refine awB ?_
      refine awR [] [none] ?_
      simp only [(id F_lGBt), (id SS), seval, reduceIte, ne_eq, hI0, hI2]
      repeat refine ⟨by first|omega|(simp only [List.length_cons];omega)|exact ⟨⟨by omega,by omega⟩,rfl⟩|rfl,?_⟩
      repeat' first|refine awS ?_|refine awB ?_
      refine awF ?_
      refine awp_exit ?_
      simp only [(id F_lGBt), (id SS), seval, reduceIte, ne_eq]
      have hm0 : m = 0 := by rw [hL2]; rw [← cn_zero g.ests g.debts hdo]; congr 1; rw [hL0, lsD_eq]; omega
      repeat' first|refine awS ?_|refine awB ?_
      refine awR [] [none, none, some (106, true), some (106, true), none, none] ?_
      simp only [(id F_lGBt), (id SS), seval, reduceIte, ne_eq, hI0, hI2, hm0, decide_true]
      repeat refine ⟨by first|omega|(simp only [List.length_cons];omega)|exact ⟨⟨by omega,by omega⟩,rfl⟩|rfl,?_⟩
      refine ⟨_, awake18_A, (by first | rfl | simp [allA, pure1, pureCs, pureC, A1.cells, cGrp, flat_pure cEst_pure, flat_pure cDebt_pure]), ?_⟩
      try unfold Later
      try simp only [(id F_lGBt), (id SS), seval, reduceIte, ne_eq, hI0, hI2, hm0, decide_true]
      repeat refine ⟨by first|omega|(simp only [List.length_cons];omega)|exact ⟨⟨by omega,by omega⟩,rfl⟩|rfl,?_⟩
      repeat' first|refine awS ?_|refine awB ?_
      refine awp_ret ?_
      (first | (simp only [(id F_lGBt), (id SS), seval, reduceIte, ne_eq, hI0, hI2, ← hL0, ← hL2]; done) | (simp only [(id F_lGBt), (id SS), seval, reduceIte, ne_eq]; first | (simp [hI0, hI2, ← hL0, ← hL2]; done) | (simp [hI0, hI2]; done) | (rw [← hL0, ← hL2]; simp [hI0, hI2]; done)))
theorem lGBt_walk (v0 v1 v2 v3 v4 : Value) (n : Nat) (cash : List Nat) (list : List N4) (pools debts : List N3) (W : World) (o0 : rC (fun n : Nat => [.lit (.int .u8 n)]) (· < 256) W (LT W.heap.size) [v0] n) (o1 : rC (cSl 1 cU16) (okSl (· < 65536)) W (LT W.heap.size) [v1] cash) (o2 : rC (cSl 4 cN4) (okSl okN4) W (LT W.heap.size) [v2] list) (o3 : rC (cSl 3 cN3) (okSl okN3) W (LT W.heap.size) [v3] pools) (o4 : rC (cSl 3 cN3) (okSl okN3) W (LT W.heap.size) [v4] debts) :
    Calls Tryz.prog 10 #[v0, v1, v2, v3, v4] W fun e w' => e = .returned (.bool true) ∧ Below W.heap.size W w' := by
  obtain ⟨h0, k0⟩ := den_oneC o0 rfl
  obtain ⟨h1, k1⟩ := den_oneC o1 rfl
  obtain ⟨h2, k2⟩ := den_oneC o2 rfl
  obtain ⟨h3, k3⟩ := den_oneC o3 rfl
  obtain ⟨h4, k4⟩ := den_oneC o4 rfl
  exact acall_law (vs := [v0, v1, v2, v3, v4]) (lGBt_A n cash list pools debts k0 k1 k2 k3 k4) ⟨h0, h1, h2, h3, h4, trivial⟩
end Go.Proofs.YtogeijhepjcbgaaGreatDoor
