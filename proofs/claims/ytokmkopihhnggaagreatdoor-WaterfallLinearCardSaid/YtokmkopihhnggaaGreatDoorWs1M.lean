/- The waterfall: the slopes of ladders, the next tier, the slopes of the ranks; walked by the abstract machine. -/
import Derived.Test.YtokmkopihhnggaaGreatDoorWl6M
import Derived.Test.YtokmkopihhnggaaGreatDoorWe1M
set_option linter.unusedVariables false
set_option linter.unusedSimpArgs false
set_option linter.defProp false
namespace Go.Proofs.YtokmkopihhnggaaGreatDoor
open Go Go.RowKit
noncomputable def gpR (l : List WT) (m : Rat) : AV := .tup [.agg (cRat (enc (if wOpen l m then wGap l m else 0))), .one (.lit (.bool (decide (wOpen l m))))]
def F35 := And.intro zS (And.intro tf55 (And.intro tf56 (And.intro tf18 (And.intro tf57 (tf39)))))
set_option maxRecDepth 100000 in
set_option maxHeartbeats 4000000 in
theorem slope_I (H : Hp) (ny s sc nn : Nat) (R0 : WR) (l : List WT) (m r : Rat) (K Sm M A C Z : Nat) (h50 : H 50 = some ⟨s, 200, 4, 1, .own 48 sc nn 3 :: cRat (enc R0.rv)⟩) (h48 : H 48 = some ⟨sc, 32, 3, nn, flat cQ R0.cl⟩) (hR0 : R0.cl.length = nn) (hbH : ∀ y B, H y = some B → y < 7000) (hn : nn ≤ 1000000) (hl : wOK K Sm l) (hin : ∀ t ∈ l, wIn nn t) (hM : qB M m) (hMb : M + l.length * (Sm + 1) ≤ 50000000000) (hr : qB A r) (hC : R0.B C) (hZ : K + (A + Sm) ≤ Z) (hB : C + wN l * (Z + 1) ≤ 50000000000) (hZb : Z ≤ 40000000000) : ACallI Tryz.prog 145 [.one (.sh 4 l.length (flat cWT l)), .agg (cRat (enc m)), .agg (cRat (enc r)), .one (.ptr 50 s 0)] H ny
  (fun res H' _ => res = .tup [] ∧ ∀ y B', mkOn H [(50, ⟨s, 200, 4, 1, .own 48 sc nn 3 :: cRat (enc (wSlope l m r R0).rv)⟩), (48, ⟨sc, 32, 3, nn, flat cQ (wSlope l m r R0).cl⟩)] y = some B' → H' y = some B') := by
 have hfl := wSplit_le l m
 have hll := hl.1
 refine acallI_of 7000 Tryz.func145 rfl (by decide) (N := 27) rfl (by simp) (Rl := []) rfl fun en k0 => ?_
 refine awN ?_
 simp only [(id F35), seval, cRat, h50, h48]
 repeat refine ob ?_
 have hA := split_A l m K Sm M hl hM (by omega) (by omega)
 simp only [spR, cRat] at hA
 refine awN ?_
 simp only [(id F35), seval, cRat, h50, h48, flat_pure cWT_pure]
 repeat refine ob ?_
 refine ⟨_, hA, (by first | rfl | simp [allA, pure1, pureCs, pureC, A1.cells, flat_pure cWT_pure]), ?_⟩
 try unfold Later
 try simp only [(id F35), seval, cRat, h50, h48, flat_pure cWT_pure]
 repeat refine ob ?_
 by_cases hk : ((wSplit l m).1 : Int) < (l.length : Int)
 ·skip
  refine awN ?_
  simp only [(id F35), seval, cRat, h50, h48, hk]
  repeat refine ob ?_
  refine awT ?_
  have hkl : (wSplit l m).1 < l.length := by omega
  have hat := flat_at cWT_len l (wSplit l m).1 hkl
  obtain ⟨t, ht⟩ : ∃ t, l[(wSplit l m).1] = t := ⟨_, rfl⟩
  rw [ht] at hat
  have htm : t ∈ l := ht ▸ List.getElem_mem hkl
  have hgt : l.getD (wSplit l m).1 [] = t := by rw [List.getD_eq_getElem?_getD, List.getElem?_eq_getElem hkl, ht]; rfl
  have hsz := hl.2 t htm
  have hwl : t.length ≤ wN l := by have h8 := wN_at l _ hkl; rw [ht] at h8; omega
  have hm2 : t.length * (Z + 1) ≤ wN l * (Z + 1) := Nat.mul_le_mul_right _ hwl
  have hfw := hfl
  repeat' first|apply awS|apply awB
  refine awp_drawsI [26] (by kernel_rfl) (.cons 0 true (.cons 1 true (.cons 2 true (.cons 3 true (.cons 4 true (.cons 5 true (.cons 6 false .nil))))))) (by kernel_rfl) (gs := [none, none, none, none, none, none, none]) (by kernel_rfl) (by simp only [(id zS), seval]; rfl) (by decide) ?_
  simp only [(id F35), seval, cRat, h50, h48, hk, hat, cWT, (id SD)]
  repeat refine ob ?_
  refine ⟨_, share_I _ _ s sc nn R0 t r K A Sm C Z (by simp only [up_apply]; (repeat rw [if_neg (by decide)]); exact h50) (by simp only [up_apply]; (repeat rw [if_neg (by decide)]); exact h48) hR0 (fun y B h => ?_) (by omega) hsz.1 (hin _ htm) hr hsz.2.1 hsz.2.2 hC (by omega) (by omega) (by omega), ?_⟩
  ·simp only [up_apply] at h
   repeat (split at h; · omega)
   have h9 := hbH y B h
   omega
  rintro res H' nx' ⟨rfl, hW⟩
  simp only [(id F35), seval, (id SD)]
  repeat refine ob ?_
  try refine ⟨rfl, ?_⟩
  intro y B h
  have hpay : wSlope l m r R0 = wPut (r / wSum t) t R0 := by unfold wSlope wShare; rw [if_pos hkl, hgt]
  rw [hpay] at h
  refine hW y B ?_
  try simp only [mkOn, up_apply] at h ⊢
  by_cases hy : y = 50
  ·subst hy
   first | exact h | (simpa [h50, cRat] using h)
  simp only [hy, if_false] at h ⊢
  by_cases hy2 : y = 48
  ·subst hy2
   first | exact h | (simpa [h48] using h)
  simp only [hy2, if_false] at h ⊢
  have h9 := hbH y B h
  repeat rw [if_neg (by omega)]
  exact h
 skip
 refine awN ?_
 simp only [(id F35), seval, cRat, h50, h48, hk]
 repeat refine ob ?_
 refine awF ?_
 refine awK ?_
 simp only [(id F35), seval]
 try refine ⟨rfl, ?_⟩
 intro y B h
 have hpay : wSlope l m r R0 = R0 := by unfold wSlope wShare; rw [if_neg (by omega)]
 rw [hpay] at h
 try simp only [mkOn, up_apply] at h ⊢
 by_cases hy : y = 50
 ·subst hy
  first | exact h | (simpa [h50, cRat] using h)
 simp only [hy, if_false] at h ⊢
 by_cases hy2 : y = 48
 ·subst hy2
  first | exact h | (simpa [h48] using h)
 simp only [hy2, if_false] at h ⊢
 have h9 := hbH y B h
 repeat rw [if_neg (by omega)]
 exact h
def F36 := And.intro zS (And.intro tf55 (And.intro tf56 (And.intro tf46 (And.intro tf18 (And.intro tf38 (tf39))))))
set_option maxRecDepth 100000 in
set_option maxHeartbeats 4000000 in
theorem gap_A (l : List WT) (m : Rat) (K Sm M : Nat) (hl : wOK K Sm l) (hM : qB M m) (hS : Sm ≤ 40000000000) (hB : M + l.length * (Sm + 1) ≤ 50000000000) : ACall Tryz.prog 172 [.one (.sh 4 l.length (flat cWT l)), .agg (cRat (enc m))] (gpR l m) := by
 have hfl := wSplit_le l m
 have hll := hl.1
 refine acall_of Tryz.func172 rfl (by decide) (N := 26) rfl (by simp) (R := [.cell 4 32, .tmp 5]) rfl fun en k0 => ?_
 refine awN ?_
 simp only [(id F36), seval, cRat]
 repeat refine ob ?_
 have hA := split_A l m K Sm M hl hM (by omega) (by omega)
 simp only [spR, cRat] at hA
 refine awN ?_
 simp only [(id F36), seval, cRat, flat_pure cWT_pure]
 repeat refine ob ?_
 refine ⟨_, hA, (by first | rfl | simp [allA, pure1, pureCs, pureC, A1.cells, flat_pure cWT_pure]), ?_⟩
 try unfold Later
 try simp only [(id F36), seval, cRat, flat_pure cWT_pure]
 repeat refine ob ?_
 by_cases hk : ((wSplit l m).1 : Int) = (l.length : Int)
 ·
  refine awN ?_
  simp only [(id F36), seval, cRat, hk]
  repeat refine ob ?_
  refine awT ?_
  refine awN ?_
  simp only [(id F36), seval, cRat, hk]
  repeat refine ob ?_
  refine awX ?_
  have ho : ¬ wOpen l m := by unfold wOpen; omega
  simp only [(id F36), seval]
  simp [gpR, ho, enc0_cells]
 refine awN ?_
 simp only [(id F36), seval, cRat, hk]
 repeat refine ob ?_
 refine awF ?_
 refine awK ?_
 simp only [(id F36), seval]
 have hkl : (wSplit l m).1 < l.length := by omega
 have hat := flat_at cWT_len l (wSplit l m).1 hkl
 obtain ⟨t, ht⟩ : ∃ t, l[(wSplit l m).1] = t := ⟨_, rfl⟩
 rw [ht] at hat
 have htm : t ∈ l := ht ▸ List.getElem_mem hkl
 have hgt : l.getD (wSplit l m).1 [] = t := by rw [List.getD_eq_getElem?_getD, List.getElem?_eq_getElem hkl, ht]; rfl
 have hsz := hl.2 t htm
 have hkI : ((wSplit l m).1 : Int) < (l.length : Int) := by omega
 have hB4 := aSubQ (wSum t) (wSplit l m).2 _ _ hsz.2.1 (wSplit_B l m M (fun t ht => (hl.2 t ht).2.1) hM) (by omega) (by omega)
 simp only [cRat] at hB4
 refine awD (scT 0 6 (scq [12, 14, 17] .nil)) [none, none, none, none, none, none, none, none, none] ?_
 simp only [(id F36), seval, cRat, hk, hat, cWT, hkI]
 repeat refine ob ?_
 refine ⟨_, hB4, (by first | rfl | simp [allA, pure1, pureCs, pureC, A1.cells, flat_pure cWT_pure]), ?_⟩
 try unfold Later
 try simp only [(id F36), seval, cRat, hk, hat, cWT, hkI]
 repeat refine ob ?_
 refine awX ?_
 have ho : wOpen l m := hkl
 have hgv : wGap l m = wSum t - (wSplit l m).2 := by unfold wGap; rw [hgt]
 simp only [(id F36), seval]
 simp [gpR, ho, hgv, cRat]
def F37 := And.intro zS (And.intro tf51 (And.intro tf79 (And.intro tf71 (And.intro tf52 (And.intro tf54 (And.intro tf18 (And.intro tf12 (And.intro tf66 (And.intro tf80 (And.intro tf39 (tf81)))))))))))
set_option maxRecDepth 100000 in
set_option maxHeartbeats 4000000 in
theorem rates_A (L : WL) (m : Rat) (K Sm M Z : Nat) (hn : L.count ≤ 1000000) (hl : wOK K Sm L.ranks) (hin : ∀ t ∈ L.ranks, wIn L.count t) (hM : qB M m) (hMb : M + L.ranks.length * (Sm + 1) ≤ 50000000000) (hZ : K + (1 + Sm) ≤ Z) (hB : 1 + wN L.ranks * (Z + 1) ≤ 50000000000) (hZb : Z ≤ 40000000000) : ACall Tryz.prog 144 [.agg (cLay L), .agg (cRat (enc m))] (.val (.one (.sh 3 L.count (flat cQ (wRates L m))))) := by
 refine acall_of Tryz.func144 rfl (by decide) (N := 21) rfl (by simp) (R := [.tmp 4]) rfl fun en k0 => ?_
 refine awN ?_
 simp only [(id F37), seval, cRat, cLay]
 repeat refine ob ?_
 refine awp_nb 40 ?_
 dsimp only
 refine awN ?_
 simp only [(id F37), seval, cRat, cLay, repl_cQ]
 repeat refine ob ?_
 refine awp_wk (wk_cells 50 (.own 48 2 L.count 3 :: cRat (enc 0)) (by rfl) (by show (4 : Nat) ≠ 0; decide) (by rfl) (fun κ vs h => res_start _ h)) ?_
 simp only [(id F37), seval]
 have h1 := aInt 1 (by decide) (by decide)
 rw [show (((1 : Int) : Rat)) = 1 by rfl] at h1
 simp only [cRat] at h1
 repeat' first|apply awS|apply awB
 refine awp_drawsI [16] (by kernel_rfl) (.cons 0 true (.cons 1 true (.cons 2 true (.cons 4 true (.cons 3 false (.cons 5 false .nil)))))) (by kernel_rfl) (gs := [none, none, none, none, none, none]) (by kernel_rfl) (by simp only [(id zS), seval]; rfl) (by decide) ?_
 simp only [(id F37), seval, cRat, cLay, flat_pure cWT_pure, (id SD)]
 repeat refine ob ?_
 refine ⟨_, h1, rfl, ?_⟩
 try unfold Later
 try simp only [(id F37), seval, cRat, cLay, flat_pure cWT_pure]
 repeat refine ob ?_
 refine ⟨_, slope_I _ _ 3 2 L.count ⟨List.replicate L.count 0, 0⟩ L.ranks m 1 K Sm M 1 1 Z (by rfl) (by rfl) (by simp) (fun y B h => ?_) hn hl hin hM hMb qB_one (zeros_B _) (by omega) hB hZb, ?_⟩
 ·simp only [up_apply] at h
  repeat (split at h; · omega)
  cases h
 rintro res H' nx' ⟨rfl, hW⟩
 simp only [(id F37), seval, (id SD)]
 repeat refine ob ?_
 refine awp_weak hW ?_
 simp only [(id F37), seval]
 refine awp_pubc 48 50 0 (by rfl) (by rfl) (by rfl) (by decide) (by show (3 : Nat) ≠ 0; decide) (by show (4 : Nat) ≠ 0; decide) rfl ?_
 simp only [(id F37), seval]
 refine awN ?_
 simp only [(id F37), seval, cRat, flat_pure cQ_pure]
 repeat refine ob ?_
 refine awX ?_
 (first | (simp only [(id F37), seval, cRat, flat_pure cQ_pure, wRates]; done) | (simp only [(id F37), seval, cRat]; first | (simp [flat_pure cQ_pure, wRates]; done)))
end Go.Proofs.YtokmkopihhnggaaGreatDoor
