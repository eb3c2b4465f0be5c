/- The sanity check of layer 29; walked by the abstract machine. -/
import Derived.Test.YtpdmlemknomoeaaGreatDoorCs2M
import Derived.Test.YtpdmlemknomoeaaGreatDoorBl6M
import Derived.Test.YtpdmlemknomoeaaGreatDoorAbBM
import Derived.Test.YtpdmlemknomoeaaGreatDoorBl3M
import Derived.Test.YtpdmlemknomoeaaGreatDoorLawM
import Derived.Test.YtpdmlemknomoeaaGreatDoorBl1M
import Derived.Test.YtpdmlemknomoeaaGreatDoorNumM
import Derived.Deep.DeepCutAuto
import Derived.Deep.RegionHeld3
import Derived.Test.YtpdmlemknomoeaaGreatDoorRw6M
set_option linter.unusedVariables false
set_option linter.unusedSimpArgs false
set_option linter.defProp false
set_option linter.unnecessarySimpa false
set_option linter.unusedSectionVars false
section
/- The sanity check of layer 29; walked by the abstract machine. -/
namespace Go.Proofs.YtpdmlemknomoeaaGreatDoor
open Go Go.RowKit
theorem kx_toAll {e : En} {H : Hp} {nx : Nat} {σ : Nat → Value} {w : World} : ∀ b, (kx e H nx σ w).S b → (kAll w).S b ∧ (kAll w).w.heap[b]? = (kx e H nx σ w).w.heap[b]? := fun b hb => ⟨kAll_S hb.2.1, rfl⟩
theorem own_read2 {e : En} {H : Hp} {nx : Nat} {σ : Nat → Value} {w : World} (hW : RW e H nx σ w) {v : Value} {nm s n sz : Nat} {B : Blk} (hd : den (kx e H nx σ w) v (.own nm s n sz)) (hB : H nm = some B) (hs : B.st = s) (hsz : B.sz ≠ 0) {cs' : List C}
    (hc : ∀ xs, denVs (kx e H nx σ w) xs B.cs → denVs (kAll w) xs cs') : den (kAll w) v (.sh sz n cs') := own_read hW hB hsz hs hd hc
theorem den1s_nilT {κ κ' : Kx} {vs : List Value} (h : den1s κ vs []) : den1s κ' vs [] := by
  cases vs with
  | nil => trivial
  | cons v vs => exact h.elim
theorem denVs_nilT {κ κ' : Kx} {vs : List Value} (h : denVs κ vs []) : denVs κ' vs [] := by
  cases vs with
  | nil => trivial
  | cons v vs => exact h.elim
def awN : List Int := [5, 20, 10]
noncomputable def awC (v : Int) : GClaim := ⟨-1, 2, enc ((v : Int) : Rat)⟩
noncomputable def awE : GEst := ⟨gZ, awN.map awC, []⟩
noncomputable def awG : GGrp := ⟨[awE], []⟩
def awLs : List GCls := [⟨0, 2, true, [0, 2]⟩, ⟨0, 2, false, [1]⟩]
theorem aw_el : elB (awC 5) = true ∧ elB (awC 20) = true ∧ elB (awC 10) = true := by
  have h5 : qSgn ((5 : Int) : Rat) = 1 := by decide +kernel
  have h20 : qSgn ((20 : Int) : Rat) = 1 := by decide +kernel
  have h10 : qSgn ((10 : Int) : Rat) = 1 := by decide +kernel
  have key : ∀ v : Int, qSgn ((v : Int) : Rat) = 1 → elB (awC v) = true := fun v h => by
    show (if (-1 : Int) = -1 then decide (0 < qSgn (qOf (enc ((v : Int) : Rat)))) else false) = true
    rw [if_pos rfl, qOf_enc, h]; rfl
  exact ⟨key 5 h5, key 20 h20, key 10 h10⟩
theorem aw_pk (r : Int) (s : Bool) : pkB r s (enc ((10 : Int) : Rat)) (awC 5) = (decide (2 = r) && s) ∧ pkB r s (enc ((10 : Int) : Rat)) (awC 20) = (decide (2 = r) && !s) ∧ pkB r s (enc ((10 : Int) : Rat)) (awC 10) = (decide (2 = r) && s) := by
  obtain ⟨e1, e2, e3⟩ := aw_el
  have h5 : qCmp ((5 : Int) : Rat) ((10 : Int) : Rat) = -1 := by decide +kernel
  have h20 : qCmp ((20 : Int) : Rat) ((10 : Int) : Rat) = 1 := by decide +kernel
  have h10 : qCmp ((10 : Int) : Rat) ((10 : Int) : Rat) = 0 := by decide +kernel
  refine ⟨?_, ?_, ?_⟩
  · unfold pkB; rw [e1]; simp only [awC, qOf_enc, h5]; by_cases h : (2 : Int) = r <;> cases s <;> simp [h]
  · unfold pkB; rw [e2]; simp only [awC, qOf_enc, h20]; by_cases h : (2 : Int) = r <;> cases s <;> simp [h]
  unfold pkB; rw [e3]; simp only [awC, qOf_enc, h10]; by_cases h : (2 : Int) = r <;> cases s <;> simp [h]
theorem aw_form : foE (enc ((10 : Int) : Rat)) [awE] 0 [] = awLs := by
  have hp := aw_pk
  have hc : awE.claims = [awC 5, awC 20, awC 10] := rfl
  simp only [foE, rkN, blN, fmS, hc, fmL, (hp _ _).1, (hp _ _).2.1, (hp _ _).2.2]
  rfl
theorem aw_valid : gcSpec awG = 0 := by
  rw [gc_cg]
  refine cg_valid awG 1 (by decide) rfl (fun i hi => ?_) (fun e he => ?_) ⟨by simp [legsOf, awG], by simp [legsOf, awG], by simp [awG]⟩ (by simp [awG])
  · obtain rfl : i = 0 := by simp [awG] at hi; omega
    refine ⟨sgn_gZ, fun c hc => ?_, fun k hk => by simp [awG, awE] at hk⟩
    obtain ⟨v, hv, rfl⟩ := List.mem_map.1 (show c ∈ awN.map awC from hc)
    refine ⟨by simp [awC], by simp [awC], by simp [awC], by simp [awC], by simp [awC], ?_⟩
    show 0 ≤ qSgn (qOf (enc ((v : Int) : Rat)))
    have hv0 : ∀ v ∈ awN, (0 : Int) ≤ v := by decide
    rw [qOf_enc]
    exact sgnN (by exact_mod_cast hv0 v hv)
  obtain rfl : e = awE := by simpa [awG] using he
  simp [awE, awN]
theorem aw_qB : ∀ v ∈ awN, qB 1 ((v : Int) : Rat) := by
  intro v hv
  have h : ∀ v ∈ awN, v.natAbs < 256 := by decide
  have := h v hv
  exact ⟨by simpa using this, by simp⟩
theorem aw_ok : grpOK awG ∧ ∀ e ∈ awG.ests, e.claims.length ≤ 1000000 ∧ ∀ c ∈ e.claims, bigOK c.amount := by
  have hb : ∀ c ∈ awE.claims, sB 1 c.amount := fun c hc => by
    obtain ⟨v, hv, rfl⟩ := List.mem_map.1 (show c ∈ awN.map awC from hc)
    exact sB_enc (aw_qB v hv)
  refine ⟨⟨fun e he => ?_, by simp [awG]⟩, fun e he => ?_⟩
  · obtain rfl : e = awE := by simpa [awG] using he
    exact ⟨ratOK_gZ, fun c hc => ⟨by have := (hb c hc).1; omega, by have := (hb c hc).2; omega⟩, by simp [awE, awN], by simp [awE]⟩
  obtain rfl : e = awE := by simpa [awG] using he
  exact ⟨by simp [awE, awN], fun c hc => (hb c hc).mono (by decide)⟩
def F_lAw29 := And.intro zS (And.intro tf15 (And.intro tf41 (And.intro tf16 (And.intro tf68 (And.intro tf17 (And.intro tf7 (And.intro tf19 (And.intro tf20 (And.intro tf23 (And.intro tf24 (And.intro tf30 (And.intro tf12 (And.intro tf94 (And.intro tf64 (And.intro tf96 (And.intro tf51 (And.intro tf66 (And.intro tf60 (And.intro tf100 (tf13))))))))))))))))))))
set_option maxRecDepth 100000 in
set_option maxHeartbeats 4000000 in
theorem awake29_A : ACall Tryz.prog 15 [] (one (.bool true)) := by
 refine acall_of Tryz.func15 rfl (by decide) (N := 46) rfl (by simp) (R := [.tmp 0]) rfl fun en k0 => ?_
 refine awR [] [none] ?_
 simp only [(id F_lAw29), seval]
 repeat refine ob ?_
 refine awR [] [none, none, none, none] ?_
 simp only [(id F_lAw29), seval]
 repeat refine ob ?_
 refine awR [] [none, none, none] ?_
 simp only [(id F_lAw29), seval]
 repeat refine ob ?_
 refine awp_nilc 6 3 25 _ 70 5 (by decide) (by rfl) (by decide) (by simp) (by rfl) ?_
 refine awp_keep [1, 8, 9, 10] [1, 6, 8, 25] ?_
 try unfold Later
 try simp only [(id F_lAw29), seval]
 repeat' first|apply awS|apply awB
 refine awp_loopw (fun n st => ∃ k s nx, k ≤ 3 ∧ n = 3 - k ∧ st = ⟨mkT [(1, .val (.one (.ptr 1 1 0))), (8, .val (.one (.own 8 2 3 1))), (9, one (.int .i64 3)), (10, one (.int .i64 k))], mkH [(1, ⟨1, 27, 2, 1, [.own 6 0 1 5, .lit (.slice none 0 0)]⟩), (6, ⟨0, 68, 5, 1, [.lit (.bool false), .lit (.string bEmpty), .lit (.string bEmpty), .own 25 s k 5, .lit (.slice none 0 0)]⟩), (8, ⟨2, 3, 1, 3, flat cI awN⟩), (25, ⟨s, 70, 5, k, flat cClaim ((awN.take k).map awC)⟩)], nx, 0⟩) (3) ⟨0, _, _, by omega, by omega, rfl⟩ ?_
 rintro n0 st ⟨k, s, nx0, hk, rfl, rfl⟩
 by_cases hlt : (k : Int) < 3
 ·
  refine awR [] [none] ?_
  simp only [(id F_lAw29), seval, hlt]
  repeat refine ob ?_
  refine awT ?_
  refine awK ?_
  simp only [(id F_lAw29), seval]
  have hk3 : k < awN.length := by show k < 3; omega
  have hfl9 : (flat cI awN).length = 3 := rfl
  have hatn : (flat cI awN)[k]? = some (.lit (.int .i64 awN[k])) := by
    have h3 : k = 0 ∨ k = 1 ∨ k = 2 := by omega
    rcases h3 with rfl | rfl | rfl <;> rfl
  refine awR [] [none, none, none] ?_
  simp only [(id F_lAw29), seval, hlt, hatn]
  repeat refine ob ?_
  have hvb : (0 : Int) ≤ awN[k] ∧ awN[k] ≤ 20 := (show ∀ v ∈ awN, (0 : Int) ≤ v ∧ v ≤ 20 by decide) _ (List.getElem_mem hk3)
  have htk : (awN.take (k + 1)).map awC = (awN.take k).map awC ++ [awC awN[k]] := by rw [List.take_succ_eq_append_getElem hk3, List.map_append]; rfl
  generalize awN[k] = v at *
  refine awD (scq [1, 5, 7, 9, 11, 13, 15] (.two 1 8 (scq [16, 19, 20, 22, 25, 27, 28] .nil) (scq [19] (.two 1 10 (scq [20, 22, 25, 27, 28] .nil) (.two 1 11 (scq [22, 25, 27, 28] .nil) (scq [3, 25, 27, 28] .nil)))))) [none, none, none, none, none, none, none, none, none, none, none, none, none, none, none] ?_
  simp only [(id F_lAw29), seval, hlt, cRat]
  repeat refine ob ?_
  refine ⟨?_, ?_⟩
  ·
   repeat refine ob ?_
   refine ⟨_, (aWhole v (by omega) (by omega)), (by first | rfl | simp [allA, pure1, pureCs, pureC, A1.cells, flat_pure cCls_pure, flat_pure cI_pure, fmR]), ?_⟩
   try unfold Later
   try simp only [(id F_lAw29), seval, hlt, cRat]
   repeat refine ob ?_
   refine awR [] [none, none] ?_
   simp only [(id F_lAw29), seval, hlt]
   repeat refine ob ?_
   repeat refine ob ?_
   refine ⟨_, wk_keep [1, 8, 9, 10] [1, 6, 8, 25], 3 - (k + 1), by omega, k + 1, ?sa, ?na, by omega, rfl, ?st⟩
   case st => (simp only [(id F_lAw29), seval, htk, flat_snoc, cClaim, awC]; rfl)
  repeat refine ob ?_
  refine ⟨_, (aWhole v (by omega) (by omega)), (by first | rfl | simp [allA, pure1, pureCs, pureC, A1.cells, flat_pure cCls_pure, flat_pure cI_pure, fmR]), ?_⟩
  try unfold Later
  try simp only [(id F_lAw29), seval, hlt, cRat]
  repeat refine ob ?_
  refine ⟨?_, ?_⟩
  ·
   repeat refine ob ?_
   refine awR [] [none, none] ?_
   simp only [(id F_lAw29), seval, hlt]
   repeat refine ob ?_
   repeat refine ob ?_
   refine ⟨_, wk_keep [1, 8, 9, 10] [1, 6, 8, 25], 3 - (k + 1), by omega, k + 1, ?sa, ?na, by omega, rfl, ?st⟩
   case st => (simp only [(id F_lAw29), seval, htk, flat_snoc, cClaim, awC]; rfl)
  repeat refine ob ?_
  refine ⟨?_, ?_⟩
  ·
   repeat refine ob ?_
   refine awR [] [none, none] ?_
   simp only [(id F_lAw29), seval, hlt]
   repeat refine ob ?_
   repeat refine ob ?_
   refine ⟨_, wk_keep [1, 8, 9, 10] [1, 6, 8, 25], 3 - (k + 1), by omega, k + 1, ?sa, ?na, by omega, rfl, ?st⟩
   case st => (simp only [(id F_lAw29), seval, htk, flat_snoc, cClaim, awC]; rfl)
  repeat refine ob ?_
  refine awR [] [none, none] ?_
  simp only [(id F_lAw29), seval, hlt]
  repeat refine ob ?_
  repeat refine ob ?_
  refine ⟨_, wk_keep [1, 8, 9, 10] [1, 6, 8, 25], 3 - (k + 1), by omega, k + 1, ?sa, ?na, by omega, rfl, ?st⟩
  case st => (simp only [(id F_lAw29), seval, htk, flat_snoc, cClaim, awC]; rfl)
 refine awR [] [none] ?_
 simp only [(id F_lAw29), seval, hlt]
 repeat refine ob ?_
 refine awF ?_
 refine awQ ?_
 simp only [(id F_lAw29), seval]
 obtain rfl : k = 3 := by omega
 refine awp_pubc 25 6 3 (by rfl) (by rfl) (by rfl) (by decide) (by show (5 : Nat) ≠ 0; decide) (by show (5 : Nat) ≠ 0; decide) rfl ?_
 refine awp_wk (wk_cells 6 (cEst awE) (by rfl) (by show (5 : Nat) ≠ 0; decide) (by rfl) (fun κ vs h => ?_)) ?_
 ·
  obtain ⟨v1, vs1, rfl, d1, h⟩ := denVs_cons h
  obtain ⟨v2, vs2, rfl, d2, h⟩ := denVs_cons h
  obtain ⟨v3, vs3, rfl, d3, h⟩ := denVs_cons h
  obtain ⟨v4, vs4, rfl, d4, h⟩ := denVs_cons h
  obtain ⟨v5, vs5, rfl, d5, h⟩ := denVs_cons h
  exact ⟨d1, d2, d3, d4, den_nilsh 1 d5, h⟩
 refine awp_pubc 6 1 0 (by rfl) (by rfl) (by rfl) (by decide) (by show (5 : Nat) ≠ 0; decide) (by show (2 : Nat) ≠ 0; decide) rfl ?_
 refine awp_wk (wk_cells 1 (cGrp awG) (by rfl) (by show (2 : Nat) ≠ 0; decide) (by rfl) (fun κ vs h => ?_)) ?_
 ·
  obtain ⟨v1, vs1, rfl, d1, h⟩ := denVs_cons h
  obtain ⟨v2, vs2, rfl, d2, h⟩ := denVs_cons h
  exact ⟨d1, den_nilsh 4 d2, h⟩
 have hF := cForms_A awG (enc ((10 : Int) : Rat)) ((sB_enc (show qB 1 ((10 : Int) : Rat) from ⟨by decide, by decide⟩)).mono (by decide)) aw_ok.1 (by simp [awG]) aw_ok.2
 have hfo : foC (gcSpec awG) (enc ((10 : Int) : Rat)) awG = 0 ∧ foL (gcSpec awG) (enc ((10 : Int) : Rat)) awG = awLs := by
  have := aw_form
  unfold foC foL
  rw [if_pos aw_valid, if_pos aw_valid, show awG.ests = [awE] from rfl, this]
  exact ⟨rfl, rfl⟩
 rw [hfo.1, hfo.2] at hF
 simp only [(id F_lAw29), seval]
 refine awD (scq [1, 2, 4, 7, 9, 11, 13, 15] .nil) [none, none, none, none, none, none, none, none] ?_
 simp only [(id F_lAw29), seval, hlt, cRat, cGrp, fmR, flat_pure cEst_pure]
 repeat refine ob ?_
 refine ⟨_, (aWhole 10 (by decide) (by decide)), (by first | rfl | simp [allA, pure1, pureCs, pureC, A1.cells, flat_pure cCls_pure, flat_pure cI_pure, fmR]), ?_⟩
 try unfold Later
 try simp only [(id F_lAw29), seval, hlt, cRat, cGrp, fmR, flat_pure cEst_pure]
 repeat refine ob ?_
 refine ⟨_, hF, (by first | rfl | simp [allA, pure1, pureCs, pureC, A1.cells, flat_pure cCls_pure, flat_pure cI_pure, fmR]), ?_⟩
 try unfold Later
 try simp only [(id F_lAw29), seval, hlt, cRat, cGrp, fmR, flat_pure cEst_pure]
 repeat refine ob ?_
 refine awR [44] [none, none, none, some (37, true), some (37, true), some (37, true), some (37, true), some (37, true), some (37, true), some (37, true), none, none] ?_
 simp only [(id F_lAw29), seval, hlt, decide_true]
 repeat refine ob ?_
 refine ⟨_, acallI_borrow (SameClasses_yes awLs (by decide) (by decide)) rfl (fun e σ w vs hW hd => ?_), ?_⟩
 ·
  obtain ⟨v1, vs1, rfl, d1, hd⟩ := den1s_cons hd
  obtain ⟨v2, vs2, rfl, d2, hd⟩ := den1s_cons hd
  refine ⟨den_pure kx_toAll (by simp [pureC, flat_pure cCls_pure]) d1, own_read2 hW d2 rfl rfl (by show (4 : Nat) ≠ 0; decide) (fun xs hx => ?_), den1s_nilT hd⟩
  obtain ⟨x1, xs1, rfl, a1, hx⟩ := denVs_cons hx
  obtain ⟨x2, xs2, rfl, a2, hx⟩ := denVs_cons hx
  obtain ⟨x3, xs3, rfl, a3, hx⟩ := denVs_cons hx
  obtain ⟨x4, xs4, rfl, a4, hx⟩ := denVs_cons hx
  obtain ⟨x5, xs5, rfl, a5, hx⟩ := denVs_cons hx
  obtain ⟨x6, xs6, rfl, a6, hx⟩ := denVs_cons hx
  obtain ⟨x7, xs7, rfl, a7, hx⟩ := denVs_cons hx
  obtain ⟨x8, xs8, rfl, a8, hx⟩ := denVs_cons hx
  refine ⟨a1, a2, a3, own_read2 hW a4 rfl rfl (by show (1 : Nat) ≠ 0; decide) (fun ys hy => ?_), a5, a6, a7, own_read2 hW a8 rfl rfl (by show (1 : Nat) ≠ 0; decide) (fun ys hy => ?_), denVs_nilT hx⟩
  ·
   obtain ⟨y1, ys1, rfl, c1, hy⟩ := denVs_cons hy
   obtain ⟨y2, ys2, rfl, c2, hy⟩ := denVs_cons hy
   exact ⟨c1, c2, denVs_nilT hy⟩
  obtain ⟨y1, ys1, rfl, c1, hy⟩ := denVs_cons hy
  exact ⟨c1, denVs_nilT hy⟩
 rintro res H' nx' ⟨rfl, rfl, rfl⟩
 simp only [(id F_lAw29), seval]
 refine awX ?_
 (first | (simp only [(id F_lAw29), seval, hlt]; done) | (simp only [(id F_lAw29), seval]; first | (simp [hlt]; done)))
end Go.Proofs.YtpdmlemknomoeaaGreatDoor
end
section
/- Plain numbers, rows of numbers and rows of fixed rows of numbers, opened as cells. -/
namespace Go.Proofs.YtpdmlemknomoeaaGreatDoor
open Go Go.RowKit Go.ChangeShapes Go.WideShapes Go.ChangeAt
theorem opensC_u8 : Opens Tryz.prog 5 (rC (fun n : Nat => [.lit (.int .u8 n)]) (· < 256)) := by
  intro H enc W fuel cs x h
  obtain ⟨n, rfl, hn⟩ := opens_u8 Tryz.underlying5 H enc W fuel cs x h
  exact ⟨n, ⟨⟨rfl, rfl⟩, trivial⟩, hn⟩
theorem opensC_u16 : Opens Tryz.prog 50 (rC cU16 (· < 65536)) := by
  intro H enc W fuel cs x h
  obtain ⟨n, rfl, hn⟩ := opens_u16 Tryz.underlying50 H enc W fuel cs x h
  exact ⟨n, ⟨⟨rfl, rfl⟩, trivial⟩, hn⟩
theorem Tryz.cellsU16 : Tryz.prog.cellsOf 50 = 1 := by kernel_rfl
theorem Tryz.cellsN4 : Tryz.prog.cellsOf 95 = 4 := by kernel_rfl
theorem opensC_u16s : Opens Tryz.prog 22 (rC (cSl 1 cU16) (okSl (· < 65536))) := opens_sl Tryz.underlying22 Tryz.cellsU16 (by decide) cU16_len opensC_u16
def okN4 (x : N4) : Prop := x.a < 65536 ∧ x.b < 65536 ∧ x.c < 65536 ∧ x.d < 65536
theorem opensC_N4 : Opens Tryz.prog 95 (rC cN4 okN4) := by
  intro H enc W fuel cs x h
  obtain ⟨xs, m, _, _, hl, hxs, hf⟩ := DataW.trod_array Tryz.underlying95 h
  rw [Tryz.cellsN4] at hl
  simp only [Tryz.cellsU16] at hf
  match cs, hl with
  | [c0, c1, c2, c3], _ =>
    have h0 := hf 0 (by decide); rw [List.getElem?_eq_getElem (by omega)] at h0
    have h1 := hf 1 (by decide); rw [List.getElem?_eq_getElem (by omega)] at h1
    have h2 := hf 2 (by decide); rw [List.getElem?_eq_getElem (by omega)] at h2
    have h3 := hf 3 (by decide); rw [List.getElem?_eq_getElem (by omega)] at h3
    obtain ⟨a0, k0, o0⟩ := opensC_u16 H enc W _ _ _ h0
    obtain ⟨a1, k1, o1⟩ := opensC_u16 H enc W _ _ _ h1
    obtain ⟨a2, k2, o2⟩ := opensC_u16 H enc W _ _ _ h2
    obtain ⟨a3, k3, o3⟩ := opensC_u16 H enc W _ _ _ h3
    replace k0 : denVs (kAll W) [c0] _ := k0
    replace k1 : denVs (kAll W) [c1] _ := k1
    replace k2 : denVs (kAll W) [c2] _ := k2
    replace k3 : denVs (kAll W) [c3] _ := k3
    exact ⟨⟨a0, a1, a2, a3⟩, denVs.append k0 (denVs.append k1 (denVs.append k2 k3)), o0, o1, o2, o3⟩
theorem opensC_N4s : Opens Tryz.prog 23 (rC (cSl 4 cN4) (okSl okN4)) := opens_sl Tryz.underlying23 Tryz.cellsN4 (by decide) cN4_len opensC_N4
end Go.Proofs.YtpdmlemknomoeaaGreatDoor
end
section
/- Lists of rationals; FewRats, SameRats: walked. -/
namespace Go.Proofs.YtpdmlemknomoeaaGreatDoor
open Go.RowKit
def RL (w : World) (v : Value) (l : List GRat) : Prop := rSlice 3 rRat w (LT w.heap.size) [v] l
theorem RL.below {w w' : World} {v : Value} {l : List GRat} (h : RL w v l) (hb : Below w.heap.size w w') : RL w' v l := (stays_rSlice stays_rRat).below h hb hb.size
theorem RL.drew {w : World} {v : Value} {l : List GRat} (h : RL w v l) : RL w.drew v l := h
theorem RL.open {w : World} {v : Value} {l : List GRat} (h : RL w v l) :
    ∃ a cap, v = .slice a l.length cap ∧ l.length ≤ 9223372036854775807 ∧ (l = [] ∨ ∃ b off, a = some ⟨b, off, none⟩ ∧ b < w.heap.size ∧ ∀ j (h : j < l.length), w.cell? ⟨b, off + j * 3, none⟩ = some (.bool l[j].neg) ∧ w.cell? ⟨b, off + j * 3 + 1, none⟩ = some (.string l[j].num) ∧ w.cell? ⟨b, off + j * 3 + 2, none⟩ = some (.string l[j].den) ∧ sB maxLen l[j]) := by
  obtain ⟨a, cap, hv, h1, h2, h3, h4⟩ := h
  simp only [List.cons.injEq, and_true] at hv
  refine ⟨a, cap, hv, len_le h1 h2, ?_⟩
  rcases h4 with h4 | ⟨b, off, h5, h6, h7⟩
  · exact .inl h4
  refine .inr ⟨b, off, h5, h6, fun j hj => ?_⟩
  obtain ⟨cs, k1, k2, rfl, k3, k4⟩ := h7 j hj
  exact ⟨k2 0 (by decide), k2 1 (by decide), k2 2 (by decide), k3, k4⟩
end Go.Proofs.YtpdmlemknomoeaaGreatDoor
end
section
/- Amounts: walked; rows of rationals of the call's own. -/
namespace Go.Proofs.YtpdmlemknomoeaaGreatDoor
open Go.RowKit
theorem rRat_new (w : World) (S : Nat → Prop) (r : GRat) (h : sB maxLen r) : rRat w S [.bool r.neg, .string r.num, .string r.den] r := ⟨rfl, h.1, h.2⟩
def cellF (rs : List GRat) (j : Nat) : Value := if j % 3 = 0 then .bool (rs.getD (j / 3) gZ).neg else if j % 3 = 1 then .string (rs.getD (j / 3) gZ).num else .string (rs.getD (j / 3) gZ).den
def OwnR (w : World) (g n : Nat) (rs : List GRat) : Prop := rs.length = n ∧ Own w g 38 (n * 3) (cellF rs)
theorem cellF0 (rs : List GRat) (k : Nat) : cellF rs (k * 3) = .bool (rs.getD k gZ).neg := by
  unfold cellF; rw [if_pos (by omega), show k * 3 / 3 = k by omega]
theorem cellF1 (rs : List GRat) (k : Nat) : cellF rs (k * 3 + 1) = .string (rs.getD k gZ).num := by
  unfold cellF; rw [if_neg (by omega), if_pos (by omega), show (k * 3 + 1) / 3 = k by omega]
theorem cellF2 (rs : List GRat) (k : Nat) : cellF rs (k * 3 + 2) = .string (rs.getD k gZ).den := by
  unfold cellF; rw [if_neg (by omega), if_neg (by omega), show (k * 3 + 2) / 3 = k by omega]
theorem OwnR.facts {w : World} {g n : Nat} {rs : List GRat} (h : OwnR w g n rs) {k : Nat} (hk : k < n) :
    w.cell? ⟨g, k * 3, none⟩ = some (.bool (rs.getD k gZ).neg) ∧ w.cell? ⟨g, k * 3 + 1, none⟩ = some (.string (rs.getD k gZ).num) ∧ w.cell? ⟨g, k * 3 + 2, none⟩ = some (.string (rs.getD k gZ).den) ∧ (∀ j, w.frozen? ⟨g, j, none⟩ = false) ∧ g < w.heap.size := by
  have h1 := h.2.cell (j := k * 3) (by omega)
  have h2 := h.2.cell (j := k * 3 + 1) (by omega)
  have h3 := h.2.cell (j := k * 3 + 2) (by omega)
  rw [cellF0] at h1
  rw [cellF1] at h2
  rw [cellF2] at h3
  exact ⟨h1, h2, h3, fun j => h.2.frozen j, h.2.lt⟩
theorem OwnR.put {w : World} {g n : Nat} {rs : List GRat} (h : OwnR w g n rs) {k : Nat} (hk : k < n) (r : GRat) :
    OwnR (((w.setCell ⟨g, k * 3, none⟩ (.bool r.neg)).setCell ⟨g, k * 3 + 1, none⟩ (.string r.num)).setCell ⟨g, k * 3 + 2, none⟩ (.string r.den)) g n (rs.set k r) := by
  refine ⟨by rw [List.length_set]; exact h.1, (((h.2.set _ _).set _ _).set _ _).congr fun j hj => ?_⟩
  have hk' : k < rs.length := by rw [h.1]; exact hk
  unfold upd
  by_cases e2 : j = k * 3 + 2
  · rw [if_pos e2, e2, cellF2]; simp [List.getD, hk']
  rw [if_neg e2]
  by_cases e1 : j = k * 3 + 1
  · rw [if_pos e1, e1, cellF1]; simp [List.getD, hk']
  rw [if_neg e1]
  by_cases e0 : j = k * 3
  · rw [if_pos e0, e0, cellF0]; simp [List.getD, hk']
  rw [if_neg e0]
  have hne : ¬ k = j / 3 := by omega
  unfold cellF
  simp [List.getD, List.getElem?_set, hne]
theorem OwnR.below {w w' : World} {g n : Nat} {rs : List GRat} (h : OwnR w g n rs) (hb : Below w.heap.size w w') : OwnR w' g n rs := ⟨h.1, h.2.below hb h.2.lt⟩
theorem OwnR.alloc {w : World} {g n : Nat} {rs : List GRat} (h : OwnR w g n rs) (o : Obj) : OwnR (w.alloc o) g n rs := ⟨h.1, h.2.alloc o⟩
theorem OwnR.drew {w : World} {g n : Nat} {rs : List GRat} (h : OwnR w g n rs) : OwnR w.drew g n rs := h
theorem OwnR.other {w : World} {g g' n : Nat} {rs : List GRat} (h : OwnR w g n rs) (hne : g' ≠ g) (r : GRat) : OwnR (put3 w g' r) g n rs := ⟨h.1, ((h.2.other hne _ _).other hne _ _).other hne _ _⟩
theorem OwnR.new (w : World) (n : Nat) : OwnR (w.alloc (.cells (madeCells #[.bool false, .string { data := #[] }, .string { data := #[] }] (n * 3)) 38)) w.heap.size n (List.replicate n gZ) := by
  refine ⟨by simp, ?_⟩
  unfold Own
  rw [heap_alloc_new]
  congr 2
  apply Array.ext
  · simp [madeCells]
  intro i h1 h2
  have hi : i < n * 3 := by simpa using h2
  have e : (List.replicate n gZ).getD (i / 3) gZ = gZ := by simp [List.getD, List.getElem?_replicate]; split <;> rfl
  simp only [madeCells, Array.getElem_map, Array.getElem_range, cellF, e]
  have : i % 3 = 0 ∨ i % 3 = 1 ∨ i % 3 = 2 := by omega
  rcases this with h | h | h <;> simp [h] <;> rfl
theorem OwnR.reads {w : World} {g n : Nat} {rs : List GRat} (h : OwnR w g n rs) (hn : n ≤ maxLen) (hs : ∀ r ∈ rs, sB maxLen r) : RL w (.slice (some ⟨g, 0, none⟩) n n) rs := by
  refine ⟨some ⟨g, 0, none⟩, n, by rw [h.1], by rw [h.1]; exact Nat.le_refl _, hn, by simp, .inr ⟨g, 0, rfl, h.2.lt, fun j hj => ⟨[.bool rs[j].neg, .string rs[j].num, .string rs[j].den], rfl, ?_, rRat_new _ _ _ (hs _ (List.getElem_mem hj))⟩⟩⟩
  intro c hc
  obtain ⟨f0, f1, f2, _⟩ := h.facts (k := j) (by rw [← h.1]; exact hj)
  have e : rs.getD j gZ = rs[j] := by simp [List.getD, hj]
  rw [e] at f0 f1 f2
  have : c = 0 ∨ c = 1 ∨ c = 2 := by omega
  rcases this with rfl | rfl | rfl
  · simpa using f0
  · simpa using f1
  simpa using f2
end Go.Proofs.YtpdmlemknomoeaaGreatDoor
end
section
/- guarantee.Refunds: walked. -/
namespace Go.Proofs.YtpdmlemknomoeaaGreatDoor
open Go.RowKit
attribute [local go_sem ↓] Go.wp_at_zero Go.wp_at_succ
def RSt (w wr : World) (W : GRat) (n : Nat) (rs : List GRat) (s o : GRat) : Prop :=
  Bx wr w.heap.size W ∧ OwnR wr (w.heap.size + 1) n rs ∧ Bx wr (w.heap.size + 1 + 1) s ∧ Bx wr (w.heap.size + 1 + 1 + 1) o ∧ Below w.heap.size w wr
section
variable {w wr : World} {W : GRat} {n : Nat} {rs : List GRat} {s o : GRat}
theorem RSt.next {w' : World} (h : RSt w wr W n rs s o) (hb : Below wr.heap.size wr w') : RSt w w' W n rs s o := ⟨h.1.below hb, h.2.1.below hb, h.2.2.1.below hb, h.2.2.2.1.below hb, h.2.2.2.2.step hb⟩
theorem RSt.drew (h : RSt w wr W n rs s o) : RSt w wr.drew W n rs s o := ⟨h.1.drew, h.2.1.drew, h.2.2.1.drew, h.2.2.2.1.drew, Below.drew h.2.2.2.2⟩
theorem RSt.alloc (h : RSt w wr W n rs s o) (b : Obj) : RSt w (wr.alloc b) W n rs s o := h.next ((Below.refl _ _).alloc (Nat.le_refl _) _)
theorem RSt.putO (h : RSt w wr W n rs s o) (a : GRat) : RSt w (put3 wr (w.heap.size + 1 + 1 + 1) a) W n rs s a :=
  ⟨h.1.other (by omega) a, h.2.1.other (by omega) a, h.2.2.1.other (by omega) a, h.2.2.2.1.put a, below_put h.2.2.2.2 (by omega) a⟩
theorem RSt.lt (h : RSt w wr W n rs s o) : w.heap.size + 1 + 1 + 1 < wr.heap.size := Blk3.lt h.2.2.2.1
end
end Go.Proofs.YtpdmlemknomoeaaGreatDoor
end
section
/- insolvencylaw18.awake: walked. -/
namespace Go.Proofs.YtpdmlemknomoeaaGreatDoor
open Go.RowKit
attribute [local go_sem ↓] Go.wp_at_zero Go.wp_at_succ
theorem RL.get {w : World} {v : Value} {l : List GRat} (h : RL w v l) {k : Nat} (hk : k < l.length) :
    ∃ b off cap, v = .slice (some ⟨b, off, none⟩) l.length cap ∧ b < w.heap.size ∧ l.length ≤ 9223372036854775807 ∧ ∀ j (h : j < l.length), w.cell? ⟨b, off + j * 3, none⟩ = some (.bool l[j].neg) ∧ w.cell? ⟨b, off + j * 3 + 1, none⟩ = some (.string l[j].num) ∧ w.cell? ⟨b, off + j * 3 + 2, none⟩ = some (.string l[j].den) ∧ sB maxLen l[j] := by
  obtain ⟨a, cap, rfl, h1, h2⟩ := h.open
  rcases h2 with h2 | ⟨b, off, rfl, hb, h3⟩
  · rw [h2] at hk; simp at hk
  exact ⟨b, off, cap, rfl, hb, h1, h3⟩
def AwS (w5 : World) (b off : Nat) (q0 q20 : GRat) (w' : World) : Prop := Below w5.heap.size w5 w' ∧ w'.cell? ⟨b, off, none⟩ = some (.bool q0.neg) ∧ w'.cell? ⟨b, off + 1, none⟩ = some (.string q0.num) ∧ w'.cell? ⟨b, off + 2, none⟩ = some (.string q0.den) ∧ w'.cell? ⟨b, off + 3, none⟩ = some (.bool q20.neg) ∧ w'.cell? ⟨b, off + 3 + 1, none⟩ = some (.string q20.num) ∧ w'.cell? ⟨b, off + 3 + 2, none⟩ = some (.string q20.den) ∧ w'.cell? ⟨b, off + 6, none⟩ = some (.bool q20.neg) ∧ w'.cell? ⟨b, off + 6 + 1, none⟩ = some (.string q20.num) ∧ w'.cell? ⟨b, off + 6 + 2, none⟩ = some (.string q20.den)
theorem AwS.drew {w5 W : World} {b off : Nat} {q0 q20 : GRat} (h : AwS w5 b off q0 q20 W) : AwS w5 b off q0 q20 W.drew := ⟨Below.drew h.1, h.2⟩
theorem AwS.next {w5 W V : World} {b off : Nat} {q0 q20 : GRat} (h : AwS w5 b off q0 q20 W) (hb : b < w5.heap.size) (hV : Below W.heap.size W V) : AwS w5 b off q0 q20 V := by
  have hc : ∀ o, V.cell? ⟨b, o, none⟩ = W.cell? ⟨b, o, none⟩ := fun o => hV.cell (p := ⟨b, o, none⟩) (Nat.lt_of_lt_of_le hb h.1.size)
  obtain ⟨h0, h⟩ := h
  refine ⟨h0.step hV, ?_⟩
  simp only [hc]
  exact h
end Go.Proofs.YtpdmlemknomoeaaGreatDoor
end
section
/- GuaranteeCheck: the law's own function; walked by the abstract machine. -/
namespace Go.Proofs.YtpdmlemknomoeaaGreatDoor
open Go Go.RowKit
theorem acall_law {P : Program} {f : FuncId} {args : List A1} {vs : List Value} {w : World} (h : ACall P f args (one (.bool true))) (hd : den1s (kAll w) vs args) :
    Calls P f vs.toArray w fun e w' => e = .returned (.bool true) ∧ Below w.heap.size w w' :=
  (h.2 w (LT w.heap.size) vs (fun _ h => h) hd).mono fun e w' ⟨v, he, hb, hv⟩ => by
    have : v = .bool true := hv.1
    subst this
    exact ⟨he, hb⟩
theorem den_oneC {α : Type} {enc : α → List C} {ok : α → Prop} {W : World} {v : Value} {a : α} {c : C} (o : rC enc ok W (LT W.heap.size) [v] a) (he : enc a = [c]) : den1 (kAll W) v (.one c) ∧ ok a := by
  obtain ⟨h, k⟩ := o
  rw [he] at h
  exact ⟨h.1, k⟩
end Go.Proofs.YtpdmlemknomoeaaGreatDoor
end
section
/- Classes as arguments of a law, opened; ClassSum's own function. -/
namespace Go.Proofs.YtpdmlemknomoeaaGreatDoor
open Go Go.RowKit Go.ChangeShapes Go.WideShapes Go.ChangeAt
theorem Tryz.cellsCInts : Tryz.prog.cellsOf 56 = 1 := by kernel_rfl
theorem opensC_Ints : Opens Tryz.prog 56 (rC (cSl 1 cI) (okSl i64ok)) := opens_sl Tryz.underlying56 Tryz.cellsIntC (by decide) cI_len opensC_int
theorem Tryz.cellsCCls : Tryz.prog.cellsOf 58 = 4 := by kernel_rfl
def okCls (x : GCls) : Prop := i64ok x.est ∧ i64ok x.rank ∧ True ∧ okSl i64ok x.claims
set_option maxRecDepth 100000 in
theorem opensC_Cls : Opens Tryz.prog 58 (rC cCls okCls) := by
  refine opens_fields Tryz.underlying58 fun H enc W n cs hl hf => ?_
  rw [Tryz.cellsCCls] at hl
  match cs, hl with
  | [c0, c1, c2, c3], _ =>
    obtain ⟨x0, h0⟩ := hf 0 _ 1 rfl Tryz.cellsIntC
    obtain ⟨a0, k0, o0⟩ := opensC_int H enc W _ _ _ h0
    replace k0 : denVs (kAll W) [c0] _ := k0
    obtain ⟨x1, h1⟩ := hf 1 _ 1 rfl Tryz.cellsIntC
    obtain ⟨a1, k1, o1⟩ := opensC_int H enc W _ _ _ h1
    replace k1 : denVs (kAll W) [c1] _ := k1
    obtain ⟨x2, h2⟩ := hf 2 _ 1 rfl Tryz.cellsBool
    obtain ⟨a2, k2, o2⟩ := opensC_boolT H enc W _ _ _ h2
    replace k2 : denVs (kAll W) [c2] _ := k2
    obtain ⟨x3, h3⟩ := hf 3 _ 1 rfl Tryz.cellsCInts
    obtain ⟨a3, k3, o3⟩ := opensC_Ints H enc W _ _ _ h3
    replace k3 : denVs (kAll W) [c3] _ := k3
    exact ⟨⟨a0, a1, a2, a3⟩, (denVs.append k0 (denVs.append k1 (denVs.append k2 k3))), o0, o1, o2, o3⟩
def okAm (e : GEst) : Prop := ∀ c ∈ e.claims, sB 1 c.amount
theorem grpE_am (n : Nat) (cash : List Nat) (list : List N4) (pools : List N3) : ∀ e ∈ grpE n cash list pools, okAm e := by
  have hz : okAm ztEst := by simp [okAm, ztEst]
  refine foldl_ok _ (fun es p h => ?_) _ _ (foldl_ok _ (fun es x h => ?_) _ _ fun e he => ?_)
  · unfold addAg
    split
    · exact set_ok h _ (getD_ok h hz (p.a % (1 + n % 4)))
    exact h
  · unfold addClaim
    split
    · exact h
    have h0 := getD_ok h hz (x.a % (1 + n % 4))
    generalize es.getD (x.a % (1 + n % 4)) ztEst = e at *
    refine set_ok h _ fun c hc => ?_
    rcases List.mem_append.1 hc with h1 | h1
    · exact h0 c h1
    obtain rfl : c = mkClaim (1 + n % 4) x := by simpa using h1
    exact sB_enc (amt_qB _)
  obtain ⟨i, _, rfl⟩ := List.mem_map.1 he
  simp [okAm, mkEst]
end Go.Proofs.YtpdmlemknomoeaaGreatDoor
end
