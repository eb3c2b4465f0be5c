/- GuaranteeMany: the law's own function; walked by the abstract machine. -/
import Derived.Test.YtokmkopihhnggaaDoorRw6M
import Derived.Test.YtokmkopihhnggaaDoorGu4M
import Derived.Test.YtokmkopihhnggaaDoorBl3M
import Derived.Test.YtokmkopihhnggaaDoorSplM
import Derived.Test.YtokmkopihhnggaaDoorAbZM
set_option linter.unusedVariables false
set_option linter.unusedSimpArgs false
set_option linter.defProp false
set_option linter.unnecessarySimpa false
/- GuaranteeMany: the law's own function; walked by the abstract machine. -/
namespace Go.Proofs.YtokmkopihhnggaaDoor
open Go Go.RowKit
theorem tmodN (n m : Nat) : ((n : Nat) : Int).tmod (m : Int) = ((n % m : Nat) : Int) := by norm_cast
theorem repl_snoc (m : Nat) (z : List C) : repl m z ++ z = repl (m + 1) z := by
  induction m with
  | zero => simp [repl_zero, repl_succ]
  | succ m ih => rw [repl_succ, List.append_assoc, ih, ← repl_succ]
theorem repl_gmZ (n : Nat) : repl n [C.lit (.int .i64 0), C.lit (.int .i64 0), C.lit (.bool false), C.lit (.string bEmpty), C.lit (.string bEmpty)] = flat cClaim (List.replicate n gmZ) := by
  induction n with
  | zero => rfl
  | succ n ih => rw [List.replicate_succ, flat_cons, ← ih, repl_succ]; rfl
theorem gm_len (i : Nat) : (flat cEst (List.replicate i gmE)).length = i * 5 := by rw [flat_length cEst_len, List.length_replicate]
theorem gm_get (i : Nat) (a b c x e : C) : (flat cEst (List.replicate i gmE) ++ [a, b, c, x, e])[i * 5 + 3]? = some x := by
  rw [List.getElem?_append_right (by rw [gm_len]; omega), gm_len, show i * 5 + 3 - i * 5 = 3 by omega]; rfl
theorem gm_set (i : Nat) (a b c x e y : C) : (flat cEst (List.replicate i gmE) ++ [a, b, c, x, e]).set (i * 5 + 3) y = flat cEst (List.replicate i gmE) ++ [a, b, c, y, e] := by
  rw [List.set_append_right _ _ (by rw [gm_len]; omega), gm_len, show i * 5 + 3 - i * 5 = 3 by omega]; rfl
theorem gm_rlen (i : Nat) (a b c x e : C) : (flat cEst (List.replicate i gmE) ++ [a, b, c, x, e]).length = i * 5 + 5 := by rw [List.length_append, gm_len]; rfl
theorem gm_snoc (i : Nat) : flat cEst (List.replicate (i + 1) gmE) = flat cEst (List.replicate i gmE) ++ [C.lit (.bool false), C.lit (.string bEmpty), C.lit (.string bEmpty), .sh 5 20 (flat cClaim gmCs), .sh 1 0 []] := by
  rw [List.replicate_succ', flat_append, flat_cons, flat_nil, List.append_nil]
  have h : cEst gmE = [C.lit (.bool false), C.lit (.string bEmpty), C.lit (.string bEmpty), .sh 5 20 (flat cClaim gmCs), .sh 1 0 []] := by
    show [C.lit (.bool false), C.lit (.string bEmpty), C.lit (.string bEmpty), C.sh 5 gmCs.length (flat cClaim gmCs), C.sh 1 0 []] = _
    rw [gmCs_len]
  rw [h]
theorem gm_est {κ : Kx} {vs : List Value} (i : Nat) (h : denVs κ vs (flat cEst (List.replicate i gmE) ++ [C.lit (.bool false), C.lit (.string bEmpty), C.lit (.string bEmpty), .sh 5 20 (flat cClaim gmCs), (C.lit (.slice none 0 0))])) : denVs κ vs (flat cEst (List.replicate (i + 1) gmE)) := by
  have h1 := denVs_set (d := .sh 1 0 []) (i * 5 + 4) (by rw [List.getElem?_append_right (by rw [gm_len]; omega), gm_len, show i * 5 + 4 - i * 5 = 4 by omega]; rfl) (fun v hv => den_nilsh 1 hv) h
  rw [List.set_append_right _ _ (by rw [gm_len]; omega), gm_len, show i * 5 + 4 - i * 5 = 4 by omega] at h1
  rw [gm_snoc]
  exact h1
theorem gm_cs (j : Nat) (h : j < 20) : (List.replicate j gmC ++ List.replicate (20 - j) gmZ).set j gmC = List.replicate (j + 1) gmC ++ List.replicate (20 - (j + 1)) gmZ := by
  rw [List.set_append_right _ _ (by simp), List.length_replicate, Nat.sub_self, show 20 - j = (20 - (j + 1)) + 1 by omega, List.replicate_succ, List.set_cons_zero, List.replicate_succ', List.append_assoc]
  rfl
theorem gm_cl (j : Nat) (h : j < 20) : spl (flat cClaim (List.replicate j gmC ++ List.replicate (20 - j) gmZ)) (j * 5) [C.lit (.int .i64 (-1))] = flat cClaim (List.replicate (j + 1) gmC ++ List.replicate (20 - (j + 1)) gmZ) := by
  have hl : j < (List.replicate j gmC ++ List.replicate (20 - j) gmZ).length := by simp; omega
  have hz : (List.replicate j gmC ++ List.replicate (20 - j) gmZ)[j] = gmZ := by
    rw [List.getElem_append_right (by simp)]
    simp
  have h1 := flat_setf cClaim_len (List.replicate j gmC ++ List.replicate (20 - j) gmZ) j 0 [C.lit (.int .i64 (-1))] gmC hl (by decide) (by rw [hz]; rfl)
  rw [Nat.add_zero, gm_cs j h] at h1
  exact h1
theorem gm_all : List.replicate 20 gmC ++ List.replicate (20 - 20) gmZ = gmCs := by simp [gmCs]
theorem gm_legs (k : Nat) : flat cLeg (gmL k) ++ [C.lit (.int .i64 0), C.lit (.int .i64 (k : Int))] = flat cLeg (gmL (k + 1)) := by
  rw [gmL, flat_append, flat_cons, flat_nil]; rfl
theorem gm_nils {κ : Kx} : ∀ {d : Nat} {vs : List Value}, denVs κ vs (repl d [C.lit (.bool false), C.lit (.string bEmpty), C.lit (.string bEmpty), C.lit (.slice none 0 0)]) → denVs κ vs (flat cDebt (List.replicate d (gmD 0)))
  | 0, vs, h => h
  | d + 1, vs, h => by
    rw [repl_succ] at h
    obtain ⟨v1, vs1, rfl, d1, h⟩ := denVs_cons h
    obtain ⟨v2, vs2, rfl, d2, h⟩ := denVs_cons h
    obtain ⟨v3, vs3, rfl, d3, h⟩ := denVs_cons h
    obtain ⟨v4, vs4, rfl, d4, h⟩ := denVs_cons h
    exact ⟨d1, d2, d3, den_nilsh 2 d4, gm_nils h⟩
theorem gm_dbts {κ : Kx} {vs : List Value} (d L : Nat) (h : denVs κ vs (C.lit (.bool false) :: C.lit (.string bEmpty) :: C.lit (.string bEmpty) :: .sh 2 L (flat cLeg (gmL L)) :: repl d [C.lit (.bool false), C.lit (.string bEmpty), C.lit (.string bEmpty), C.lit (.slice none 0 0)])) : denVs κ vs (flat cDebt (gmDs (d + 1) L)) := by
  obtain ⟨v1, vs1, rfl, d1, h⟩ := denVs_cons h
  obtain ⟨v2, vs2, rfl, d2, h⟩ := denVs_cons h
  obtain ⟨v3, vs3, rfl, d3, h⟩ := denVs_cons h
  obtain ⟨v4, vs4, rfl, d4, h⟩ := denVs_cons h
  refine ⟨d1, d2, d3, ?_, gm_nils h⟩
  show den κ v4 (.sh 2 (gmL L).length (flat cLeg (gmL L)))
  rw [gmL_len]; exact d4
theorem gm_grp {κ : Kx} {vs : List Value} (N D L : Nat) (h : denVs κ vs [.sh 5 N (flat cEst (List.replicate N gmE)), .sh 4 D (flat cDebt (gmDs D L))]) : denVs κ vs (cGrp (gmG N D L)) := by
  show denVs κ vs [.sh 5 (List.replicate N gmE).length (flat cEst (List.replicate N gmE)), .sh 4 (gmDs D L).length (flat cDebt (gmDs D L))]
  rw [List.length_replicate, gmDs_len]; exact h
def F_lGM := And.intro zS (And.intro tf14 (And.intro tf53 (And.intro tf15 (And.intro tf16 (And.intro tf54 (And.intro tf17 (And.intro tf26 (And.intro tf18 (And.intro tf28 (And.intro tf19 (And.intro tf20 (And.intro tf55 (And.intro tf23 (And.intro tf56 (And.intro tf24 (And.intro tf29 (And.intro tf30 (And.intro tf12 (And.intro tf61 (And.intro tf62 (And.intro tf63 (And.intro tf64 (And.intro tf4 (And.intro tf65 (And.intro tf51 (And.intro tf59 (And.intro tf60 (And.intro tf66 (tf34)))))))))))))))))))))))))))))
set_option maxRecDepth 100000 in
set_option maxHeartbeats 4000000 in
theorem lGM_A (n0 d0 l0 : Nat) (hn0 : n0 < 256) (hd0 : d0 < 256) (hl0 : l0 < 256) : ACall Tryd.prog 3 [.one (.lit (.int .u8 n0)), .one (.lit (.int .u8 d0)), .one (.lit (.int .u8 l0))] (one (.bool true)) := by
 refine acall_of Tryd.func3 rfl (by decide) (N := 112) rfl (by simp) (R := [.tmp 6]) rfl fun en k0 => ?_
 refine awR [] [none] ?_
 simp only [(id F_lGM), seval]
 repeat refine ob ?_
 obtain ⟨m9, hm9⟩ : ∃ x, n0 % 12 = x := ⟨_, rfl⟩
 have bm9 : m9 < 12 := by omega
 have wm9 : ((n0 : Nat) : Int).tmod 12 = (m9 : Int) := by have := tmodN n0 12; rw [hm9] at this; exact this
 have zm9 : IntKind.i64.wrap ((m9 : Nat) : Int) = (m9 : Int) := wri _ (by omega)
 obtain ⟨D9, hD9⟩ : ∃ x, d0 % 20 = x := ⟨_, rfl⟩
 have bD9 : D9 < 20 := by omega
 have wD9 : ((d0 : Nat) : Int).tmod 20 = (D9 : Int) := by have := tmodN d0 20; rw [hD9] at this; exact this
 have zD9 : IntKind.i64.wrap ((D9 : Nat) : Int) = (D9 : Int) := wri _ (by omega)
 obtain ⟨L9, hL9⟩ : ∃ x, l0 % 12 = x := ⟨_, rfl⟩
 have bL9 : L9 < 12 := by omega
 have wL9 : ((l0 : Nat) : Int).tmod 12 = (L9 : Int) := by have := tmodN l0 12; rw [hL9] at this; exact this
 have zL9 : IntKind.i64.wrap ((L9 : Nat) : Int) = (L9 : Int) := wri _ (by omega)
 obtain ⟨N9, hN9⟩ : ∃ x, x = 1 + m9 := ⟨_, rfl⟩
 have zN : (1 : Int) + (m9 : Int) = (N9 : Int) := by omega
 refine awR [] [none, none, none] ?_
 simp only [(id F_lGM), seval]
 repeat refine ob ?_
 refine awR [] [none] ?_
 simp only [(id F_lGM), seval]
 repeat refine ob ?_
 refine awp_nilc 7 0 28 _ 31 5 (by decide) (by rfl) (by decide) (by simp) (by rfl) ?_
 simp only [(id F_lGM), seval]
 refine awp_keep [0, 1, 2, 7, 8] [7, 28] ?_
 try unfold Later
 try simp only [(id F_lGM), seval]
 repeat' first|apply awS|apply awB
 refine awp_loopw (fun n st => ∃ i s nx, i ≤ N9 ∧ n = N9 - i ∧ st = ⟨mkT [(0, one (.int .u8 n0)), (1, one (.int .u8 d0)), (2, one (.int .u8 l0)), (7, .val (.one (.ptr 7 0 0))), (8, one (.int .i64 i))], mkH [(7, ⟨0, 25, 2, 1, [.own 28 s i 5, (C.lit (.slice none 0 0))]⟩), (28, ⟨s, 31, 5, i, flat cEst (List.replicate i gmE)⟩)], nx, 0⟩) (N9) ⟨0, _, _, by omega, by omega, rfl⟩ ?_
 rintro n0 st ⟨i, s, nx0, hi, rfl, rfl⟩
 by_cases hi0 : (i : Int) < (N9 : Int)
 ·
  refine awR [] [none, none, none, none, none, none] ?_
  simp only [(id F_lGM), seval, hi0, wm9, zm9, zN]
  repeat refine ob ?_
  refine awT ?_
  refine awK ?_
  simp only [(id F_lGM), seval]
  refine awD (scq [1, 3, 4, 7, 8, 10, 13, 14] .nil) [none, none, none, none, none, none, none, none] ?_
  simp only [(id F_lGM), seval, hi0, repl_gmZ]
  repeat refine ob ?_
  refine awR [] [none, none, none, none, none, none, none, none] ?_
  simp only [(id F_lGM), seval, hi0, gm_get, gm_rlen]
  repeat refine ob ?_
  refine awp_keep [0, 1, 2, 7, 8, 36, 37] [7, 28, 25] ?_
  try unfold Later
  try simp only [(id F_lGM), seval, hi0]
  repeat' first|apply awS|apply awB
  refine awp_loopw (fun n st => ∃ j s2 s3 nx, j ≤ 20 ∧ n = 20 - j ∧ st = ⟨mkT [(0, one (.int .u8 n0)), (1, one (.int .u8 d0)), (2, one (.int .u8 l0)), (7, .val (.one (.ptr 7 0 0))), (8, one (.int .i64 i)), (36, one (.int .i64 20)), (37, one (.int .i64 j))], mkH [(7, ⟨0, 25, 2, 1, [.own 28 s2 (i + 1) 5, (C.lit (.slice none 0 0))]⟩), (28, ⟨s2, 31, 5, i + 1, flat cEst (List.replicate i gmE) ++ [C.lit (.bool false), C.lit (.string bEmpty), C.lit (.string bEmpty), .own 25 s3 20 5, (C.lit (.slice none 0 0))]⟩), (25, ⟨s3, 33, 5, 20, flat cClaim (List.replicate j gmC ++ List.replicate (20 - j) gmZ)⟩)], nx, 0⟩) (20) ⟨0, _, _, _, by omega, by omega, rfl⟩ ?_
  rintro n1 st ⟨j, s2, s3, nx1, hj, rfl, rfl⟩
  by_cases hj0 : (j : Int) < (20 : Int)
  ·
   refine awR [] [none] ?_
   simp only [(id F_lGM), seval, hi0, hj0]
   repeat refine ob ?_
   refine awT ?_
   refine awK ?_
   simp only [(id F_lGM), seval]
   refine awR [] [none, none] ?_
   simp only [(id F_lGM), seval, hi0, hj0]
   repeat refine ob ?_
   have hcl := gm_cl j (by omega)
   have hcn : (flat cClaim (List.replicate j gmC ++ List.replicate (20 - j) gmZ)).length = 100 := by rw [flat_length cClaim_len, List.length_append, List.length_replicate, List.length_replicate]; omega
   refine awR [] [none, none, none, none, none, none, none, none, none, none] ?_
   simp only [(id F_lGM), seval, hi0, hj0, gm_get, gm_rlen, hcl, hcn]
   repeat refine ob ?_
   refine awR [] [none, none] ?_
   simp only [(id F_lGM), seval, hi0, hj0]
   repeat refine ob ?_
   repeat refine ob ?_
   refine ⟨_, wk_keep [0, 1, 2, 7, 8, 36, 37] [7, 28, 25], 20 - (j + 1), by omega, j + 1, ?e11_0, ?e11_1, ?na11, by omega, rfl, ?st11⟩
   case st11 => (simp only [(id F_lGM), seval]; first | rfl | (simp; done))
  refine awR [] [none] ?_
  simp only [(id F_lGM), seval, hi0, hj0]
  repeat refine ob ?_
  refine awF ?_
  refine awQ ?_
  simp only [(id F_lGM), seval]
  have hj20 : j = 20 := by omega
  subst hj20
  simp only [gm_all]
  refine awp_pubc 25 28 (i * 5 + 3) (by rfl) (by rfl) (gm_get i _ _ _ _ _) (by decide) (by show (5 : Nat) ≠ 0; decide) (by show (5 : Nat) ≠ 0; decide) rfl ?_
  simp only [(id F_lGM), seval, gm_set]
  refine awp_wk (wk_cells 28 (flat cEst (List.replicate (i + 1) gmE)) (by rfl) (by show (5 : Nat) ≠ 0; decide) (by rw [gm_len, gm_rlen]; omega) (fun κ vs h => gm_est i h)) ?_
  simp only [(id F_lGM), seval]
  refine awR [] [none, none, none] ?_
  simp only [(id F_lGM), seval, hi0, hj0]
  repeat refine ob ?_
  repeat refine ob ?_
  refine ⟨_, wk_keep [0, 1, 2, 7, 8] [7, 28], N9 - (i + 1), by omega, i + 1, ?e14_0, ?na14, by omega, rfl, ?st14⟩
  case st14 => (simp only [(id F_lGM), seval]; first | rfl | (simp; done))
 refine awR [] [none, none, none, none, none, none] ?_
 simp only [(id F_lGM), seval, hi0, wm9, zm9, zN]
 repeat refine ob ?_
 refine awF ?_
 refine awQ ?_
 simp only [(id F_lGM), seval]
 refine awR [] [none] ?_
 simp only [(id F_lGM), seval, hi0]
 repeat refine ob ?_
 have hiN : i = N9 := by omega
 simp only [hiN]
 refine awp_nilc 7 1 61 _ 36 4 (by decide) (by rfl) (by decide) (by simp) (by rfl) ?_
 simp only [(id F_lGM), seval]
 refine awp_keep [1, 2, 7, 10] [7, 28, 61] ?_
 try unfold Later
 try simp only [(id F_lGM), seval, hi0]
 repeat' first|apply awS|apply awB
 refine awp_loopw (fun n st => ∃ d t nx, d ≤ D9 ∧ n = D9 - d ∧ st = ⟨mkT [(1, one (.int .u8 d0)), (2, one (.int .u8 l0)), (7, .val (.one (.ptr 7 0 0))), (10, one (.int .i64 d))], mkH [(7, ⟨0, 25, 2, 1, [.own 28 s N9 5, .own 61 t d 4]⟩), (28, ⟨s, 31, 5, N9, flat cEst (List.replicate N9 gmE)⟩), (61, ⟨t, 36, 4, d, repl d [C.lit (.bool false), C.lit (.string bEmpty), C.lit (.string bEmpty), C.lit (.slice none 0 0)]⟩)], nx, 0⟩) (D9) ⟨0, _, _, by omega, by omega, rfl⟩ ?_
 rintro n2 st ⟨d, t, nx2, hd, rfl, rfl⟩
 by_cases hd0 : (d : Int) < (D9 : Int)
 ·
  refine awR [] [none, none, none, none, none] ?_
  simp only [(id F_lGM), seval, hi0, hd0, wD9, zD9]
  repeat refine ob ?_
  refine awT ?_
  refine awK ?_
  simp only [(id F_lGM), seval]
  refine awR [] [none, none, none, none, none, none, none] ?_
  simp only [(id F_lGM), seval, hi0, hd0]
  repeat refine ob ?_
  refine awR [] [none, none, none] ?_
  simp only [(id F_lGM), seval, hi0, hd0]
  repeat refine ob ?_
  repeat refine ob ?_
  refine ⟨_, wk_keep [1, 2, 7, 10] [7, 28, 61], D9 - (d + 1), by omega, d + 1, ?e20_0, ?na20, by omega, rfl, ?st20⟩
  case st20 => (simp only [(id F_lGM), seval, repl_snoc]; first | rfl | (simp; done))
 refine awR [] [none, none, none, none, none] ?_
 simp only [(id F_lGM), seval, hi0, hd0, wD9, zD9]
 repeat refine ob ?_
 refine awF ?_
 refine awQ ?_
 simp only [(id F_lGM), seval]
 refine awp_cut2 (M := fun st => ∃ lg nx, (lg = decide (8 < N9 ∨ 16 < D9)) ∧ st = ⟨mkT [(2, one (.int .u8 l0)), (7, .val (.one (.ptr 7 0 0))), (11, one (.bool lg))], mkH [(7, ⟨0, 25, 2, 1, [.own 28 s N9 5, .own 61 t D9 4]⟩), (28, ⟨s, 31, 5, N9, flat cEst (List.replicate N9 gmE)⟩), (61, ⟨t, 36, 4, D9, repl D9 [C.lit (.bool false), C.lit (.string bEmpty), C.lit (.string bEmpty), C.lit (.slice none 0 0)]⟩)], nx, 0⟩) ?_ ?_
 ·
  by_cases h8 : (8 : Int) < (N9 : Int)
  ·
   have hdD : d = D9 := by omega
   simp only [hdD]
   refine awR [] [none, none, none, none, none, some (67, false), some (67, false), some (67, false), some (67, false), none, none] ?_
   simp only [(id F_lGM), seval, hi0, hd0, h8]
   repeat refine ob ?_
   intro zc zQ hM
   refine awp_wk (wk_keep [2, 7, 11] [7, 28, 61]) (hM _ ⟨true, ?_, (by first | (symm; exact decide_eq_true (by omega)) | (symm; exact decide_eq_false (by omega))), ?cs22⟩)
   case cs22 => (simp only [(id F_lGM), seval]; rfl)
  by_cases h16 : (16 : Int) < (D9 : Int)
  ·
   have hdD : d = D9 := by omega
   simp only [hdD]
   refine awR [] [none, none, none, none, none, some (67, false), some (67, false), some (67, false), some (67, false), none, none] ?_
   simp only [(id F_lGM), seval, hi0, hd0, h8, h16]
   repeat refine ob ?_
   intro zc zQ hM
   refine awp_wk (wk_keep [2, 7, 11] [7, 28, 61]) (hM _ ⟨true, ?_, (by first | (symm; exact decide_eq_true (by omega)) | (symm; exact decide_eq_false (by omega))), ?cs24⟩)
   case cs24 => (simp only [(id F_lGM), seval]; rfl)
  have hdD : d = D9 := by omega
  simp only [hdD]
  refine awR [] [none, none, none, none, none, some (67, false), some (67, false), some (67, false), some (67, false), none, none] ?_
  simp only [(id F_lGM), seval, hi0, hd0, h8, h16]
  repeat refine ob ?_
  intro zc zQ hM
  refine awp_wk (wk_keep [2, 7, 11] [7, 28, 61]) (hM _ ⟨false, ?_, (by first | (symm; exact decide_eq_true (by omega)) | (symm; exact decide_eq_false (by omega))), ?cs26⟩)
  case cs26 => (simp only [(id F_lGM), seval]; rfl)
 rintro st ⟨lg, nxa, hlg, rfl⟩
 refine awp_cut2 (M := fun st => ∃ lg2 nx, (lg2 = decide (8 < N9 ∨ 16 < D9 ∨ 0 < D9 ∧ 8 < L9)) ∧ st = ⟨mkT [(7, .val (.one (.ptr 7 0 0))), (11, one (.bool lg2))], mkH [(7, ⟨0, 25, 2, 1, cGrp (gmG N9 D9 L9)⟩)], nx, 0⟩) ?_ ?_
 ·
  by_cases ha : (0 : Int) < (D9 : Int)
  ·
   refine awR [] [none, none, none, none] ?_
   simp only [(id F_lGM), seval, hi0, hd0, ha]
   repeat refine ob ?_
   refine awT ?_
   refine awR [] [none] ?_
   simp only [(id F_lGM), seval, hi0, hd0, ha]
   repeat refine ob ?_
   obtain ⟨d1, hd1⟩ : ∃ x, D9 = x + 1 := ⟨D9 - 1, by omega⟩
   have hrep : repl D9 [C.lit (.bool false), C.lit (.string bEmpty), C.lit (.string bEmpty), C.lit (.slice none 0 0)] = C.lit (.bool false) :: C.lit (.string bEmpty) :: C.lit (.string bEmpty) :: (C.lit (.slice none 0 0)) :: repl d1 [C.lit (.bool false), C.lit (.string bEmpty), C.lit (.string bEmpty), C.lit (.slice none 0 0)] := by rw [hd1, repl_succ]; rfl
   simp only [hrep]
   refine awp_nilc 61 3 94 _ 38 2 (by decide) (by rfl) (by decide) (by simp) (by rfl) ?_
   simp only [(id F_lGM), seval]
   refine awp_keep [2, 7, 11, 12] [7, 28, 61, 94] ?_
   try unfold Later
   try simp only [(id F_lGM), seval, hi0, hd0, ha]
   repeat' first|apply awS|apply awB
   refine awp_loopw (fun n st => ∃ k u nx, k ≤ L9 ∧ n = L9 - k ∧ st = ⟨mkT [(2, one (.int .u8 l0)), (7, .val (.one (.ptr 7 0 0))), (11, one (.bool lg)), (12, one (.int .i64 k))], mkH [(7, ⟨0, 25, 2, 1, [.own 28 s N9 5, .own 61 t D9 4]⟩), (28, ⟨s, 31, 5, N9, flat cEst (List.replicate N9 gmE)⟩), (61, ⟨t, 36, 4, D9, C.lit (.bool false) :: C.lit (.string bEmpty) :: C.lit (.string bEmpty) :: .own 94 u k 2 :: repl d1 [C.lit (.bool false), C.lit (.string bEmpty), C.lit (.string bEmpty), C.lit (.slice none 0 0)]⟩), (94, ⟨u, 38, 2, k, flat cLeg (gmL k)⟩)], nx, 0⟩) (L9) ⟨0, _, _, by omega, by omega, rfl⟩ ?_
   rintro n3 st ⟨k, u, nx3, hk, rfl, rfl⟩
   by_cases hk0 : (k : Int) < (L9 : Int)
   ·
    refine awR [] [none, none, none, none, none] ?_
    simp only [(id F_lGM), seval, hi0, hd0, ha, hk0, wL9, zL9]
    repeat refine ob ?_
    refine awT ?_
    refine awK ?_
    simp only [(id F_lGM), seval]
    refine awD (scq [1, 5, 7, 9, 11, 13, 15, 17] (.two 1 9 (scq [18, 20, 23, 25, 26] .nil) (.two 1 10 (scq [20, 23, 25, 26] .nil) (scq [3, 23, 25, 26] .nil)))) [none, none, none, none, none, none, none, none, none, none, none, none, none, none] ?_
    simp only [(id F_lGM), seval, hi0, hd0, ha, hk0]
    repeat refine ob ?_
    refine ⟨?_, ?_⟩
    ·
     repeat refine ob ?_
     refine awR [] [none, none, none] ?_
     simp only [(id F_lGM), seval, hi0, hd0, ha, hk0]
     repeat refine ob ?_
     repeat refine ob ?_
     refine ⟨_, wk_keep [2, 7, 11, 12] [7, 28, 61, 94], L9 - (k + 1), by omega, k + 1, ?e33_0, ?na33, by omega, rfl, ?st33⟩
     case st33 => (simp only [(id F_lGM), seval, gm_legs]; first | rfl | (simp; done))
    repeat refine ob ?_
    refine ⟨?_, ?_⟩
    ·
     repeat refine ob ?_
     refine awR [] [none, none, none] ?_
     simp only [(id F_lGM), seval, hi0, hd0, ha, hk0]
     repeat refine ob ?_
     repeat refine ob ?_
     refine ⟨_, wk_keep [2, 7, 11, 12] [7, 28, 61, 94], L9 - (k + 1), by omega, k + 1, ?e35_0, ?na35, by omega, rfl, ?st35⟩
     case st35 => (simp only [(id F_lGM), seval, gm_legs]; first | rfl | (simp; done))
    repeat refine ob ?_
    refine awR [] [none, none, none] ?_
    simp only [(id F_lGM), seval, hi0, hd0, ha, hk0]
    repeat refine ob ?_
    repeat refine ob ?_
    refine ⟨_, wk_keep [2, 7, 11, 12] [7, 28, 61, 94], L9 - (k + 1), by omega, k + 1, ?e37_0, ?na37, by omega, rfl, ?st37⟩
    case st37 => (simp only [(id F_lGM), seval, gm_legs]; first | rfl | (simp; done))
   refine awR [] [none, none, none, none, none] ?_
   simp only [(id F_lGM), seval, hi0, hd0, ha, hk0, wL9, zL9]
   repeat refine ob ?_
   refine awF ?_
   refine awQ ?_
   simp only [(id F_lGM), seval]
   by_cases hl : lg = true
   ·
    have hlp : 8 < N9 ∨ 16 < D9 := by rw [hl] at hlg; exact of_decide_eq_true hlg.symm
    have hkL : k = L9 := by omega
    simp only [hkL]
    refine awR [] [none, none, some (98, false), some (98, false), some (98, false), some (98, false), none, none] ?_
    simp only [(id F_lGM), seval, hi0, hd0, ha, hk0, hl, wL9, zL9]
    repeat refine ob ?_
    intro zc zQ hM
    refine awp_pubc 94 61 3 (by rfl) (by rfl) (by rfl) (by decide) (by show (2 : Nat) ≠ 0; decide) (by show (4 : Nat) ≠ 0; decide) rfl ?_
    simp only [(id F_lGM), seval]
    refine awp_wk (wk_cells 61 (flat cDebt (gmDs D9 L9)) (by rfl) (by show (4 : Nat) ≠ 0; decide) (by rw [flat_length cDebt_len, gmDs_len]; simp [repl_length]; omega) (fun κ vs h => by rw [hd1]; exact gm_dbts d1 L9 h)) ?_
    simp only [(id F_lGM), seval]
    refine awp_pubc 61 7 1 (by rfl) (by rfl) (by rfl) (by decide) (by show (4 : Nat) ≠ 0; decide) (by show (2 : Nat) ≠ 0; decide) rfl ?_
    simp only [(id F_lGM), seval]
    refine awp_pubc 28 7 0 (by rfl) (by rfl) (by rfl) (by decide) (by show (5 : Nat) ≠ 0; decide) (by show (2 : Nat) ≠ 0; decide) rfl ?_
    simp only [(id F_lGM), seval]
    refine awp_wk (wk_cells 7 (cGrp (gmG N9 D9 L9)) (by rfl) (by show (2 : Nat) ≠ 0; decide) (by rfl) (fun κ vs h => gm_grp N9 D9 L9 h)) ?_
    simp only [(id F_lGM), seval]
    refine awp_wk (wk_keep [7, 11] [7]) (hM _ ⟨true, ?_, (by first | (symm; exact decide_eq_true (by omega)) | (symm; exact decide_eq_false (by omega))), ?cs39⟩)
    case cs39 => (simp only [(id F_lGM), seval]; rfl)
   have hlp : ¬ (8 < N9 ∨ 16 < D9) := fun h9 => hl (by rw [hlg]; exact decide_eq_true h9)
   by_cases hk8 : (8 : Int) < (L9 : Int)
   ·
    have hkL : k = L9 := by omega
    simp only [hkL]
    refine awR [] [none, none, some (98, false), some (98, false), some (98, false), some (98, false), none, none] ?_
    simp only [(id F_lGM), seval, hi0, hd0, ha, hk0, hl, hk8, wL9, zL9]
    repeat refine ob ?_
    intro zc zQ hM
    refine awp_pubc 94 61 3 (by rfl) (by rfl) (by rfl) (by decide) (by show (2 : Nat) ≠ 0; decide) (by show (4 : Nat) ≠ 0; decide) rfl ?_
    simp only [(id F_lGM), seval]
    refine awp_wk (wk_cells 61 (flat cDebt (gmDs D9 L9)) (by rfl) (by show (4 : Nat) ≠ 0; decide) (by rw [flat_length cDebt_len, gmDs_len]; simp [repl_length]; omega) (fun κ vs h => by rw [hd1]; exact gm_dbts d1 L9 h)) ?_
    simp only [(id F_lGM), seval]
    refine awp_pubc 61 7 1 (by rfl) (by rfl) (by rfl) (by decide) (by show (4 : Nat) ≠ 0; decide) (by show (2 : Nat) ≠ 0; decide) rfl ?_
    simp only [(id F_lGM), seval]
    refine awp_pubc 28 7 0 (by rfl) (by rfl) (by rfl) (by decide) (by show (5 : Nat) ≠ 0; decide) (by show (2 : Nat) ≠ 0; decide) rfl ?_
    simp only [(id F_lGM), seval]
    refine awp_wk (wk_cells 7 (cGrp (gmG N9 D9 L9)) (by rfl) (by show (2 : Nat) ≠ 0; decide) (by rfl) (fun κ vs h => gm_grp N9 D9 L9 h)) ?_
    simp only [(id F_lGM), seval]
    refine awp_wk (wk_keep [7, 11] [7]) (hM _ ⟨true, ?_, (by first | (symm; exact decide_eq_true (by omega)) | (symm; exact decide_eq_false (by omega))), ?cs41⟩)
    case cs41 => (simp only [(id F_lGM), seval]; rfl)
   have hkL : k = L9 := by omega
   simp only [hkL]
   refine awR [] [none, none, some (98, false), some (98, false), some (98, false), some (98, false), none, none] ?_
   simp only [(id F_lGM), seval, hi0, hd0, ha, hk0, hl, hk8, wL9, zL9]
   repeat refine ob ?_
   intro zc zQ hM
   refine awp_pubc 94 61 3 (by rfl) (by rfl) (by rfl) (by decide) (by show (2 : Nat) ≠ 0; decide) (by show (4 : Nat) ≠ 0; decide) rfl ?_
   simp only [(id F_lGM), seval]
   refine awp_wk (wk_cells 61 (flat cDebt (gmDs D9 L9)) (by rfl) (by show (4 : Nat) ≠ 0; decide) (by rw [flat_length cDebt_len, gmDs_len]; simp [repl_length]; omega) (fun κ vs h => by rw [hd1]; exact gm_dbts d1 L9 h)) ?_
   simp only [(id F_lGM), seval]
   refine awp_pubc 61 7 1 (by rfl) (by rfl) (by rfl) (by decide) (by show (4 : Nat) ≠ 0; decide) (by show (2 : Nat) ≠ 0; decide) rfl ?_
   simp only [(id F_lGM), seval]
   refine awp_pubc 28 7 0 (by rfl) (by rfl) (by rfl) (by decide) (by show (5 : Nat) ≠ 0; decide) (by show (2 : Nat) ≠ 0; decide) rfl ?_
   simp only [(id F_lGM), seval]
   refine awp_wk (wk_cells 7 (cGrp (gmG N9 D9 L9)) (by rfl) (by show (2 : Nat) ≠ 0; decide) (by rfl) (fun κ vs h => gm_grp N9 D9 L9 h)) ?_
   simp only [(id F_lGM), seval]
   refine awp_wk (wk_keep [7, 11] [7]) (hM _ ⟨false, ?_, (by first | (symm; exact decide_eq_true (by omega)) | (symm; exact decide_eq_false (by omega))), ?cs43⟩)
   case cs43 => (simp only [(id F_lGM), seval]; rfl)
  refine awR [] [none, none, none, none] ?_
  simp only [(id F_lGM), seval, hi0, hd0, ha]
  repeat refine ob ?_
  refine awF ?_
  refine awK ?_
  simp only [(id F_lGM), seval]
  intro zc zQ hM
  have hz9 : D9 = 0 := by omega
  refine awp_wk (wk_cells 61 (flat cDebt (gmDs D9 L9)) (by rfl) (by show (4 : Nat) ≠ 0; decide) (by rw [flat_length cDebt_len, gmDs_len]; simp [repl_length]) (fun κ vs h => by rw [hz9] at h ⊢; exact h)) ?_
  simp only [(id F_lGM), seval]
  refine awp_pubc 61 7 1 (by rfl) (by rfl) (by rfl) (by decide) (by show (4 : Nat) ≠ 0; decide) (by show (2 : Nat) ≠ 0; decide) rfl ?_
  simp only [(id F_lGM), seval]
  refine awp_pubc 28 7 0 (by rfl) (by rfl) (by rfl) (by decide) (by show (5 : Nat) ≠ 0; decide) (by show (2 : Nat) ≠ 0; decide) rfl ?_
  simp only [(id F_lGM), seval]
  refine awp_wk (wk_cells 7 (cGrp (gmG N9 D9 L9)) (by rfl) (by show (2 : Nat) ≠ 0; decide) (by rfl) (fun κ vs h => gm_grp N9 D9 L9 h)) ?_
  simp only [(id F_lGM), seval]
  refine awp_wk (wk_keep [7, 11] [7]) (hM _ ⟨lg, ?_, (by rw [hlg]; exact decide_eq_decide.2 (by omega)), ?cs45⟩)
  case cs45 => (simp only [(id F_lGM), seval]; rfl)
 rintro st ⟨lg2, nxb, hlg2, rfl⟩
 refine awR [] [none] ?_
 simp only [(id F_lGM), seval, hi0, hd0]
 repeat refine ob ?_
 by_cases hl2 : lg2 = true
 ·
  refine awR [] [none] ?_
  simp only [(id F_lGM), seval, hi0, hd0, hl2]
  repeat refine ob ?_
  refine awT ?_
  refine awR [] [none] ?_
  simp only [(id F_lGM), seval, hi0, hd0, hl2]
  repeat refine ob ?_
  have hC := gCheck_A (gmG N9 D9 L9) (gm_ok N9 D9 L9)
  have hv : gcSpec (gmG N9 D9 L9) = 2 := by rw [gm_spec N9 D9 L9 (by omega) (by omega), if_pos (by rw [hl2] at hlg2; exact of_decide_eq_true hlg2.symm)]
  rw [hv] at hC
  refine awR [] [none, none, some (106, true), some (106, true), some (106, true), some (106, true), none, none] ?_
  simp only [(id F_lGM), seval, hi0, hd0, hl2, BEq.rfl, decide_true, flat_pure cEst_pure, flat_pure cDebt_pure, cGrp]
  repeat refine ob ?_
  refine ⟨_, awake18_A, rfl, ?_⟩
  try unfold Later
  try simp only [(id F_lGM), seval, hi0, hd0, hl2, BEq.rfl, decide_true, flat_pure cEst_pure, flat_pure cDebt_pure, cGrp]
  repeat refine ob ?_
  refine ⟨_, hC, rfl, ?_⟩
  try unfold Later
  try simp only [(id F_lGM), seval, hi0, hd0, hl2, BEq.rfl, decide_true, flat_pure cEst_pure, flat_pure cDebt_pure, cGrp]
  repeat refine ob ?_
  refine awX ?_
  (first | (simp only [(id F_lGM), seval, hi0, hd0, hl2]; done) | (simp only [(id F_lGM), seval]; first | (simp [hi0, hd0, hl2]; done)))
 refine awR [] [none] ?_
 simp only [(id F_lGM), seval, hi0, hd0, hl2]
 repeat refine ob ?_
 refine awF ?_
 refine awK ?_
 simp only [(id F_lGM), seval]
 have hC := gCheck_A (gmG N9 D9 L9) (gm_ok N9 D9 L9)
 have hv : gcSpec (gmG N9 D9 L9) = 0 := by rw [gm_spec N9 D9 L9 (by omega) (by omega), if_neg (fun h9 => hl2 (by rw [hlg2]; exact decide_eq_true h9))]
 rw [hv] at hC
 refine awR [] [none, none, some (106, true), some (106, true), some (106, true), some (106, true), none, none] ?_
 simp only [(id F_lGM), seval, hi0, hd0, hl2, BEq.rfl, decide_true, flat_pure cEst_pure, flat_pure cDebt_pure, cGrp]
 repeat refine ob ?_
 refine ⟨_, awake18_A, rfl, ?_⟩
 try unfold Later
 try simp only [(id F_lGM), seval, hi0, hd0, hl2, BEq.rfl, decide_true, flat_pure cEst_pure, flat_pure cDebt_pure, cGrp]
 repeat refine ob ?_
 refine ⟨_, hC, rfl, ?_⟩
 try unfold Later
 try simp only [(id F_lGM), seval, hi0, hd0, hl2, BEq.rfl, decide_true, flat_pure cEst_pure, flat_pure cDebt_pure, cGrp]
 repeat refine ob ?_
 refine awX ?_
 (first | (simp only [(id F_lGM), seval, hi0, hd0, hl2]; done) | (simp only [(id F_lGM), seval]; first | (simp [hi0, hd0, hl2]; done)))
theorem lGM_walk (v0 v1 v2 : Value) (n0 d0 l0 : Nat) (W : World) (o0 : rC (fun n : Nat => [.lit (.int .u8 n)]) (· < 256) W (LT W.heap.size) [v0] n0) (o1 : rC (fun n : Nat => [.lit (.int .u8 n)]) (· < 256) W (LT W.heap.size) [v1] d0) (o2 : rC (fun n : Nat => [.lit (.int .u8 n)]) (· < 256) W (LT W.heap.size) [v2] l0) :
    Calls Tryd.prog 3 #[v0, v1, v2] W fun e w' => e = .returned (.bool true) ∧ Below W.heap.size W w' := by
  obtain ⟨h0, k0⟩ := den_oneC o0 rfl
  obtain ⟨h1, k1⟩ := den_oneC o1 rfl
  obtain ⟨h2, k2⟩ := den_oneC o2 rfl
  exact acall_law (vs := [v0, v1, v2]) (lGM_A n0 d0 l0 k0 k1 k2) ⟨h0, h1, h2, trivial⟩
end Go.Proofs.YtokmkopihhnggaaDoor
