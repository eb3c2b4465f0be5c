/- WaterfallMany: the law's own function; walked by the abstract machine. -/
import Derived.Test.YtokmkopihhnggaaGreatDoorWlaM
import Derived.Test.YtokmkopihhnggaaGreatDoorGu3M
import Derived.Test.YtokmkopihhnggaaGreatDoorOw4M
import Derived.Test.YtokmkopihhnggaaGreatDoorAbZM
import Derived.Test.YtokmkopihhnggaaGreatDoorAbWM
set_option linter.unusedVariables false
set_option linter.unusedSimpArgs false
set_option linter.defProp false
set_option linter.unnecessarySimpa false
/- WaterfallMany: the law's own function; walked by the abstract machine. -/
namespace Go.Proofs.YtokmkopihhnggaaGreatDoor
open Go Go.RowKit
theorem repl_mC (n : Nat) : repl n [C.lit (.int .i64 0), C.lit (.int .i64 0), C.lit (.bool false), C.lit (.string bEmpty), C.lit (.string bEmpty)] = flat cClaim (List.replicate n mC) := by
  induction n with
  | zero => rfl
  | succ n ih => rw [List.replicate_succ, flat_cons, ← ih, repl_succ]; rfl
theorem rep_snoc (j : Nat) : List.replicate j (C.lit (.slice none 0 0)) ++ [C.lit (.slice none 0 0)] = List.replicate (j + 1) (C.lit (.slice none 0 0)) := List.replicate_succ'.symm
theorem rep_mP (j : Nat) : flat cPart (List.replicate j mP) ++ [C.lit (.int .i64 (-1)), C.lit (.bool true), C.lit (.bool false), C.lit (.string bEmpty), C.lit (.string bEmpty)] = flat cPart (List.replicate (j + 1) mP) := by
  rw [List.replicate_succ', flat_append]; rfl
theorem den_nils {κ : Kx} : ∀ {k : Nat} {vs : List Value}, denVs κ vs (List.replicate k (C.lit (.slice none 0 0))) → denVs κ vs (flat cTier (List.replicate k []))
  | 0, vs, h => h
  | k + 1, vs, h => by
    rw [List.replicate_succ] at h ⊢
    obtain ⟨v, vs', rfl, d, h⟩ := denVs_cons h
    exact ⟨den_nilsh 5 d, den_nils h⟩
theorem den_nilA {κ : Kx} : ∀ {k : Nat} {vs : List Value}, denVs κ vs (List.replicate k (C.lit (.slice none 0 0))) → denVs κ vs (flat cAgr (List.replicate k []))
  | 0, vs, h => h
  | k + 1, vs, h => by
    rw [List.replicate_succ] at h ⊢
    obtain ⟨v, vs', rfl, d, h⟩ := denVs_cons h
    exact ⟨den_nilsh 1 d, den_nilA h⟩
theorem m_tier {κ : Kx} {vs : List Value} (t1 p : Nat) (h : denVs κ vs (.sh 5 p (flat cPart (List.replicate p mP)) :: List.replicate t1 (C.lit (.slice none 0 0)))) : denVs κ vs (flat cTier (mA (t1 + 1) p)) := by
  obtain ⟨v, vs', rfl, d, h⟩ := denVs_cons h
  have h1 := den_nils h
  unfold mA
  rw [if_neg (by omega)]
  refine ⟨?_, h1⟩
  show den κ v (.sh 5 (List.replicate p mP).length _)
  rw [List.length_replicate]; exact d
theorem m_agr {κ : Kx} {vs : List Value} (a1 t p : Nat) (h : denVs κ vs (.sh 1 t (flat cTier (mA t p)) :: List.replicate a1 (C.lit (.slice none 0 0)))) : denVs κ vs (flat cAgr (mAs (a1 + 1) t p)) := by
  obtain ⟨v, vs', rfl, d, h⟩ := denVs_cons h
  have h1 := den_nilA h
  unfold mAs
  rw [if_neg (by omega)]
  refine ⟨?_, h1⟩
  show den κ v (.sh 1 (mA t p).length _)
  rw [mA_len]; exact d
theorem m_est {κ : Kx} {vs : List Value} (n a t p : Nat) (h : denVs κ vs [.lit (.bool false), .lit (.string bEmpty), .lit (.string bEmpty), .sh 5 n (flat cClaim (List.replicate n mC)), .sh 1 a (flat cAgr (mAs a t p))]) : denVs κ vs (cEst (mE n a t p)) := by
  show denVs κ vs [.lit (.bool false), .lit (.string bEmpty), .lit (.string bEmpty), .sh 5 (List.replicate n mC).length (flat cClaim (List.replicate n mC)), .sh 1 (mAs a t p).length (flat cAgr (mAs a t p))]
  rw [List.length_replicate, mAs_len]; exact h
def F_lWM := And.intro zS (And.intro tf1 (And.intro tf20 (And.intro tf2 (And.intro tf23 (And.intro tf24 (And.intro tf0 (And.intro tf8 (And.intro tf29 (And.intro tf30 (And.intro tf10 (And.intro tf31 (And.intro tf32 (And.intro tf3 (And.intro tf75 (And.intro tf83 (And.intro tf85 (And.intro tf87 (And.intro tf4 (And.intro tf89 (And.intro tf88 (And.intro tf35 (And.intro tf36 (And.intro tf86 (tf5))))))))))))))))))))))))
set_option maxRecDepth 100000 in
set_option maxHeartbeats 4000000 in
theorem lWM_A (n0 a0 t0 p0 : Nat) (hn0 : n0 < 256) (ha0 : a0 < 256) (ht0 : t0 < 256) (hp0 : p0 < 256) : ACall Tryz.prog 6 [.one (.lit (.int .u8 n0)), .one (.lit (.int .u8 a0)), .one (.lit (.int .u8 t0)), .one (.lit (.int .u8 p0))] (one (.bool true)) := by
 refine acall_of Tryz.func6 rfl (by decide) (N := 112) rfl (by simp) (R := [.tmp 8]) rfl fun en k0 => ?_
 refine awR [] [none] ?_
 simp only [(id F_lWM), seval]
 repeat refine ob ?_
 obtain ⟨nn, hnn⟩ : ∃ x, n0 % 30 = x := ⟨_, rfl⟩
 have bnn : nn < 30 := by omega
 have wnn : ((n0 : Nat) : Int).tmod 30 = (nn : Int) := by have := tmodN n0 30; rw [hnn] at this; exact this
 have znn : IntKind.i64.wrap ((nn : Nat) : Int) = (nn : Int) := wri _ (by omega)
 obtain ⟨aa, haa⟩ : ∃ x, a0 % 16 = x := ⟨_, rfl⟩
 have baa : aa < 16 := by omega
 have waa : ((a0 : Nat) : Int).tmod 16 = (aa : Int) := by have := tmodN a0 16; rw [haa] at this; exact this
 have zaa : IntKind.i64.wrap ((aa : Nat) : Int) = (aa : Int) := wri _ (by omega)
 obtain ⟨tt, htt⟩ : ∃ x, t0 % 30 = x := ⟨_, rfl⟩
 have btt : tt < 30 := by omega
 have wtt : ((t0 : Nat) : Int).tmod 30 = (tt : Int) := by have := tmodN t0 30; rw [htt] at this; exact this
 have ztt : IntKind.i64.wrap ((tt : Nat) : Int) = (tt : Int) := wri _ (by omega)
 obtain ⟨pp, hpp⟩ : ∃ x, p0 % 30 = x := ⟨_, rfl⟩
 have bpp : pp < 30 := by omega
 have wpp : ((p0 : Nat) : Int).tmod 30 = (pp : Int) := by have := tmodN p0 30; rw [hpp] at this; exact this
 have zpp : IntKind.i64.wrap ((pp : Nat) : Int) = (pp : Int) := wri _ (by omega)
 refine awR [] [none, none, none, none, none, none] ?_
 simp only [(id F_lWM), seval, wnn, repl_mC]
 repeat refine ob ?_
 refine awp_pubc 17 9 3 (by rfl) (by rfl) (by rfl) (by decide) (by show (5 : Nat) ≠ 0; decide) (by show (5 : Nat) ≠ 0; decide) rfl ?_
 simp only [(id F_lWM), seval, repl_mC]
 refine awR [] [none] ?_
 simp only [(id F_lWM), seval]
 repeat refine ob ?_
 refine awp_nilc 9 4 30 _ 50 1 (by decide) (by rfl) (by decide) (by simp) (by rfl) ?_
 simp only [(id F_lWM), seval]
 refine awp_keep [1, 2, 3, 9, 10] [9, 30] ?_
 try unfold Later
 try simp only [(id F_lWM), seval]
 repeat' first|apply awS|apply awB
 refine awp_loopw (fun n st => ∃ j s nx, j ≤ aa ∧ n = aa - j ∧ st = ⟨mkT [(1, one (.int .u8 a0)), (2, one (.int .u8 t0)), (3, one (.int .u8 p0)), (9, .val (.one (.ptr 9 1 0))), (10, one (.int .i64 j))], mkH [(9, ⟨1, 36, 5, 1, [.lit (.bool false), .lit (.string bEmpty), .lit (.string bEmpty), .sh 5 nn (flat cClaim (List.replicate nn mC)), .own 30 s j 1]⟩), (30, ⟨s, 50, 1, j, List.replicate j (C.lit (.slice none 0 0))⟩)], nx, 0⟩) (aa) ⟨0, _, _, by omega, by omega, rfl⟩ ?_
 rintro n0 st ⟨j, s, nx0, hj, rfl, rfl⟩
 by_cases hja : (j : Int) < (aa : Int)
 ·
  refine awR [] [none, none, none, none, none] ?_
  simp only [(id F_lWM), seval, hja, waa, zaa]
  repeat refine ob ?_
  refine awT ?_
  refine awK ?_
  simp only [(id F_lWM), seval]
  refine awR [] [none, none, none, none, none, none, none] ?_
  simp only [(id F_lWM), seval, hja]
  repeat refine ob ?_
  refine awR [] [none, none, none] ?_
  simp only [(id F_lWM), seval, hja]
  repeat refine ob ?_
  repeat refine ob ?_
  refine ⟨_, wk_keep [1, 2, 3, 9, 10] [9, 30], aa - (j + 1), by omega, j + 1, ?_, ?_, by omega, rfl, ?_⟩
  rotate_left 2
  (simp only [(id F_lWM), seval, rep_snoc]; first | rfl | (simp; done))
 refine awR [] [none, none, none, none, none] ?_
 simp only [(id F_lWM), seval, hja, waa, zaa]
 repeat refine ob ?_
 refine awF ?_
 refine awQ ?_
 simp only [(id F_lWM), seval]
 refine awp_cut2 (M := fun st => ∃ lg sa nx, (lg = decide (24 < nn ∨ 12 < aa)) ∧ st = ⟨mkT [(1, one (.int .u8 a0)), (2, one (.int .u8 t0)), (3, one (.int .u8 p0)), (9, .val (.one (.ptr 9 1 0))), (11, one (.bool lg))], mkH [(9, ⟨1, 36, 5, 1, [.lit (.bool false), .lit (.string bEmpty), .lit (.string bEmpty), .sh 5 nn (flat cClaim (List.replicate nn mC)), .own 30 sa aa 1]⟩), (30, ⟨sa, 50, 1, aa, List.replicate aa (C.lit (.slice none 0 0))⟩)], nx, 0⟩) ?_ ?_
 ·
  by_cases h24 : (24 : Int) < (nn : Int)
  ·
   have hje : j = aa := by omega
   simp only [hje]
   refine awR [] [none, none, none, none, none, some (36, false), some (36, false), some (36, false), some (36, false), none, none] ?_
   simp only [(id F_lWM), seval, hja, h24]
   repeat refine ob ?_
   intro zc zQ hM
   refine awp_wk (wk_keep [1, 2, 3, 9, 11] [9, 30]) (hM _ ⟨true, ?_, ?_, (by first | (symm; exact decide_eq_true (by omega)) | (symm; exact decide_eq_false (by omega))), ?cs8⟩)
   case cs8 => (simp only [(id F_lWM), seval]; rfl)
  by_cases h12 : (12 : Int) < (aa : Int)
  ·
   have hje : j = aa := by omega
   simp only [hje]
   refine awR [] [none, none, none, none, none, some (36, false), some (36, false), some (36, false), some (36, false), none, none] ?_
   simp only [(id F_lWM), seval, hja, h24, h12]
   repeat refine ob ?_
   intro zc zQ hM
   refine awp_wk (wk_keep [1, 2, 3, 9, 11] [9, 30]) (hM _ ⟨true, ?_, ?_, (by first | (symm; exact decide_eq_true (by omega)) | (symm; exact decide_eq_false (by omega))), ?cs10⟩)
   case cs10 => (simp only [(id F_lWM), seval]; rfl)
  have hje : j = aa := by omega
  simp only [hje]
  refine awR [] [none, none, none, none, none, some (36, false), some (36, false), some (36, false), some (36, false), none, none] ?_
  simp only [(id F_lWM), seval, hja, h24, h12]
  repeat refine ob ?_
  intro zc zQ hM
  refine awp_wk (wk_keep [1, 2, 3, 9, 11] [9, 30]) (hM _ ⟨false, ?_, ?_, (by first | (symm; exact decide_eq_true (by omega)) | (symm; exact decide_eq_false (by omega))), ?cs12⟩)
  case cs12 => (simp only [(id F_lWM), seval]; rfl)
 rintro st ⟨lg, sa, nxa, hlg, rfl⟩
 refine awp_cut2 (M := fun st => ∃ lg2 nx, (lg2 = mLg nn aa tt pp) ∧ st = ⟨mkT [(9, .val (.one (.ptr 9 1 0))), (11, one (.bool lg2))], mkH [(9, ⟨1, 36, 5, 1, cEst (mE nn aa tt pp)⟩)], nx, 0⟩) ?_ ?_
 ·
  by_cases ha : (0 : Int) < (aa : Int)
  ·
   refine awR [] [none, none, none, none] ?_
   simp only [(id F_lWM), seval, hja, ha]
   repeat refine ob ?_
   refine awT ?_
   refine awR [] [none] ?_
   simp only [(id F_lWM), seval, hja, ha]
   repeat refine ob ?_
   obtain ⟨a1, ha1⟩ : ∃ x, aa = x + 1 := ⟨aa - 1, by omega⟩
   have hrep : List.replicate aa (C.lit (.slice none 0 0)) = (C.lit (.slice none 0 0)) :: List.replicate a1 (C.lit (.slice none 0 0)) := by rw [ha1, List.replicate_succ]
   simp only [hrep]
   refine awp_nilc 30 0 61 _ 47 1 (by decide) (by rfl) (by decide) (by simp) (by rfl) ?_
   simp only [(id F_lWM), seval]
   refine awp_keep [1, 2, 3, 9, 11, 12] [9, 30, 61] ?_
   try unfold Later
   try simp only [(id F_lWM), seval, hja, ha]
   repeat' first|apply awS|apply awB
   refine awp_loopw (fun n st => ∃ j s nx, j ≤ tt ∧ n = tt - j ∧ st = ⟨mkT [(1, one (.int .u8 a0)), (2, one (.int .u8 t0)), (3, one (.int .u8 p0)), (9, .val (.one (.ptr 9 1 0))), (11, one (.bool lg)), (12, one (.int .i64 j))], mkH [(9, ⟨1, 36, 5, 1, [.lit (.bool false), .lit (.string bEmpty), .lit (.string bEmpty), .sh 5 nn (flat cClaim (List.replicate nn mC)), .own 30 sa aa 1]⟩), (30, ⟨sa, 50, 1, aa, .own 61 s j 1 :: List.replicate a1 (C.lit (.slice none 0 0))⟩), (61, ⟨s, 47, 1, j, List.replicate j (C.lit (.slice none 0 0))⟩)], nx, 0⟩) (tt) ⟨0, _, _, by omega, by omega, rfl⟩ ?_
   rintro n1 st ⟨j, sb, nx0, hj, rfl, rfl⟩
   by_cases hjt : (j : Int) < (tt : Int)
   ·
    refine awR [] [none, none, none, none, none] ?_
    simp only [(id F_lWM), seval, hja, ha, hjt, wtt, ztt]
    repeat refine ob ?_
    refine awT ?_
    refine awK ?_
    simp only [(id F_lWM), seval]
    refine awD (scq [1, 5, 7, 9, 11, 13] (.two 1 7 (scq [14, 16, 19, 21, 22] .nil) (.two 1 8 (scq [16, 19, 21, 22] .nil) (scq [3, 19, 21, 22] .nil)))) [none, none, none, none, none, none, none, none, none, none, none, none] ?_
    simp only [(id F_lWM), seval, hja, ha, hjt]
    repeat refine ob ?_
    refine ⟨?_, ?_⟩
    ·
     repeat refine ob ?_
     refine awR [] [none, none, none] ?_
     simp only [(id F_lWM), seval, hja, ha, hjt]
     repeat refine ob ?_
     repeat refine ob ?_
     refine ⟨_, wk_keep [1, 2, 3, 9, 11, 12] [9, 30, 61], tt - (j + 1), by omega, j + 1, ?_, ?_, by omega, rfl, ?_⟩
     rotate_left 2
     (simp only [(id F_lWM), seval, rep_snoc]; first | rfl | (simp; done))
    repeat refine ob ?_
    refine ⟨?_, ?_⟩
    ·
     repeat refine ob ?_
     refine awR [] [none, none, none] ?_
     simp only [(id F_lWM), seval, hja, ha, hjt]
     repeat refine ob ?_
     repeat refine ob ?_
     refine ⟨_, wk_keep [1, 2, 3, 9, 11, 12] [9, 30, 61], tt - (j + 1), by omega, j + 1, ?_, ?_, by omega, rfl, ?_⟩
     rotate_left 2
     (simp only [(id F_lWM), seval, rep_snoc]; first | rfl | (simp; done))
    repeat refine ob ?_
    refine awR [] [none, none, none] ?_
    simp only [(id F_lWM), seval, hja, ha, hjt]
    repeat refine ob ?_
    repeat refine ob ?_
    refine ⟨_, wk_keep [1, 2, 3, 9, 11, 12] [9, 30, 61], tt - (j + 1), by omega, j + 1, ?_, ?_, by omega, rfl, ?_⟩
    rotate_left 2
    (simp only [(id F_lWM), seval, rep_snoc]; first | rfl | (simp; done))
   refine awR [] [none, none, none, none, none] ?_
   simp only [(id F_lWM), seval, hja, ha, hjt, wtt, ztt]
   repeat refine ob ?_
   refine awF ?_
   refine awQ ?_
   simp only [(id F_lWM), seval]
   by_cases ht : (0 : Int) < (tt : Int)
   ·
    have hjt2 : j = tt := by omega
    simp only [hjt2]
    refine awR [] [none, none, none] ?_
    simp only [(id F_lWM), seval, hja, ha, hjt, ht, wtt]
    repeat refine ob ?_
    refine awT ?_
    refine awR [] [none] ?_
    simp only [(id F_lWM), seval, hja, ha, hjt, ht]
    repeat refine ob ?_
    obtain ⟨t1, ht1⟩ : ∃ x, tt = x + 1 := ⟨tt - 1, by omega⟩
    have hrep2 : List.replicate tt (C.lit (.slice none 0 0)) = (C.lit (.slice none 0 0)) :: List.replicate t1 (C.lit (.slice none 0 0)) := by rw [ht1, List.replicate_succ]
    simp only [hrep2]
    refine awp_nilc 61 0 88 _ 46 5 (by decide) (by rfl) (by decide) (by simp) (by rfl) ?_
    simp only [(id F_lWM), seval]
    refine awp_keep [1, 2, 3, 9, 11, 13] [9, 30, 61, 88] ?_
    try unfold Later
    try simp only [(id F_lWM), seval, hja, ha, hjt, ht]
    repeat' first|apply awS|apply awB
    refine awp_loopw (fun n st => ∃ j s nx, j ≤ pp ∧ n = pp - j ∧ st = ⟨mkT [(1, one (.int .u8 a0)), (2, one (.int .u8 t0)), (3, one (.int .u8 p0)), (9, .val (.one (.ptr 9 1 0))), (11, one (.bool lg)), (13, one (.int .i64 j))], mkH [(9, ⟨1, 36, 5, 1, [.lit (.bool false), .lit (.string bEmpty), .lit (.string bEmpty), .sh 5 nn (flat cClaim (List.replicate nn mC)), .own 30 sa aa 1]⟩), (30, ⟨sa, 50, 1, aa, .own 61 sb tt 1 :: List.replicate a1 (C.lit (.slice none 0 0))⟩), (61, ⟨sb, 47, 1, tt, .own 88 s j 5 :: List.replicate t1 (C.lit (.slice none 0 0))⟩), (88, ⟨s, 46, 5, j, flat cPart (List.replicate j mP)⟩)], nx, 0⟩) (pp) ⟨0, _, _, by omega, by omega, rfl⟩ ?_
    rintro n2 st ⟨j, s, nx0, hj, rfl, rfl⟩
    by_cases hjp : (j : Int) < (pp : Int)
    ·
     refine awR [] [none, none, none, none, none] ?_
     simp only [(id F_lWM), seval, hja, ha, hjt, ht, hjp, wpp, zpp]
     repeat refine ob ?_
     refine awT ?_
     refine awK ?_
     simp only [(id F_lWM), seval]
     refine awD (scq [1, 11, 13, 15, 17, 19, 21, 23, 25] (.two 1 13 (scq [5, 7] (.two 4 13 (scq [26, 28, 31, 32] .nil) (.two 4 14 (scq [28, 31, 32] .nil) (scq [9, 31, 32] .nil)))) (.two 1 14 (scq [5, 7] (.two 4 14 (scq [28, 31, 32] .nil) (scq [9, 31, 32] .nil))) (scq [3, 5, 7, 9, 31, 32] .nil)))) [none, none, none, none, none, none, none, none, none, none, none, none, none, none, none, none, none] ?_
     simp only [(id F_lWM), seval, hja, ha, hjt, ht, hjp]
     repeat refine ob ?_
     refine ⟨?_, ?_⟩
     ·
      repeat refine ob ?_
      refine ⟨?_, ?_⟩
      ·
       repeat refine ob ?_
       refine awR [] [none, none, none] ?_
       simp only [(id F_lWM), seval, hja, ha, hjt, ht, hjp]
       repeat refine ob ?_
       repeat refine ob ?_
       refine ⟨_, wk_keep [1, 2, 3, 9, 11, 13] [9, 30, 61, 88], pp - (j + 1), by omega, j + 1, ?_, ?_, by omega, rfl, ?_⟩
       rotate_left 2
       (simp only [(id F_lWM), seval, rep_mP]; first | rfl | (simp; done))
      repeat refine ob ?_
      refine ⟨?_, ?_⟩
      ·
       repeat refine ob ?_
       refine awR [] [none, none, none] ?_
       simp only [(id F_lWM), seval, hja, ha, hjt, ht, hjp]
       repeat refine ob ?_
       repeat refine ob ?_
       refine ⟨_, wk_keep [1, 2, 3, 9, 11, 13] [9, 30, 61, 88], pp - (j + 1), by omega, j + 1, ?_, ?_, by omega, rfl, ?_⟩
       rotate_left 2
       (simp only [(id F_lWM), seval, rep_mP]; first | rfl | (simp; done))
      repeat refine ob ?_
      refine awR [] [none, none, none] ?_
      simp only [(id F_lWM), seval, hja, ha, hjt, ht, hjp]
      repeat refine ob ?_
      repeat refine ob ?_
      refine ⟨_, wk_keep [1, 2, 3, 9, 11, 13] [9, 30, 61, 88], pp - (j + 1), by omega, j + 1, ?_, ?_, by omega, rfl, ?_⟩
      rotate_left 2
      (simp only [(id F_lWM), seval, rep_mP]; first | rfl | (simp; done))
     repeat refine ob ?_
     refine ⟨?_, ?_⟩
     ·
      repeat refine ob ?_
      refine ⟨?_, ?_⟩
      ·
       repeat refine ob ?_
       refine awR [] [none, none, none] ?_
       simp only [(id F_lWM), seval, hja, ha, hjt, ht, hjp]
       repeat refine ob ?_
       repeat refine ob ?_
       refine ⟨_, wk_keep [1, 2, 3, 9, 11, 13] [9, 30, 61, 88], pp - (j + 1), by omega, j + 1, ?_, ?_, by omega, rfl, ?_⟩
       rotate_left 2
       (simp only [(id F_lWM), seval, rep_mP]; first | rfl | (simp; done))
      repeat refine ob ?_
      refine awR [] [none, none, none] ?_
      simp only [(id F_lWM), seval, hja, ha, hjt, ht, hjp]
      repeat refine ob ?_
      repeat refine ob ?_
      refine ⟨_, wk_keep [1, 2, 3, 9, 11, 13] [9, 30, 61, 88], pp - (j + 1), by omega, j + 1, ?_, ?_, by omega, rfl, ?_⟩
      rotate_left 2
      (simp only [(id F_lWM), seval, rep_mP]; first | rfl | (simp; done))
     repeat refine ob ?_
     refine awR [] [none, none, none] ?_
     simp only [(id F_lWM), seval, hja, ha, hjt, ht, hjp]
     repeat refine ob ?_
     repeat refine ob ?_
     refine ⟨_, wk_keep [1, 2, 3, 9, 11, 13] [9, 30, 61, 88], pp - (j + 1), by omega, j + 1, ?_, ?_, by omega, rfl, ?_⟩
     rotate_left 2
     (simp only [(id F_lWM), seval, rep_mP]; first | rfl | (simp; done))
    refine awR [] [none, none, none, none, none] ?_
    simp only [(id F_lWM), seval, hja, ha, hjt, ht, hjp, wpp, zpp]
    repeat refine ob ?_
    refine awF ?_
    refine awQ ?_
    simp only [(id F_lWM), seval]
    by_cases hl : lg = true
    ·
     have hlp : 24 < nn ∨ 12 < aa := by rw [hl] at hlg; exact of_decide_eq_true hlg.symm
     have hjp2 : j = pp := by omega
     simp only [hjp2]
     refine awR [] [none, none, some (91, false), some (91, false), some (91, false), some (91, false), none, none] ?_
     simp only [(id F_lWM), seval, hja, ha, hjt, ht, hjp, hl, wpp, zpp]
     repeat refine ob ?_
     refine awR [] [none, none, some (98, false), some (98, false), some (98, false), some (98, false), none, none] ?_
     simp only [(id F_lWM), seval, hja, ha, hjt, ht, hjp, hl, wtt, ztt]
     repeat refine ob ?_
     intro zc zQ hM
     refine awp_pubc 88 61 0 (by rfl) (by rfl) (by rfl) (by decide) (by show (5 : Nat) ≠ 0; decide) (by show (1 : Nat) ≠ 0; decide) rfl ?_
     simp only [(id F_lWM), seval]
     refine awp_wk (wk_cells 61 (flat cTier (mA tt pp)) (by rfl) (by show (1 : Nat) ≠ 0; decide) (by rw [flat_length cTier_len, mA_len]; simp; omega) (fun κ vs h => by rw [ht1]; exact m_tier t1 pp h)) ?_
     simp only [(id F_lWM), seval]
     refine awp_pubc 61 30 0 (by rfl) (by rfl) (by rfl) (by decide) (by show (1 : Nat) ≠ 0; decide) (by show (1 : Nat) ≠ 0; decide) rfl ?_
     simp only [(id F_lWM), seval]
     refine awp_wk (wk_cells 30 (flat cAgr (mAs aa tt pp)) (by rfl) (by show (1 : Nat) ≠ 0; decide) (by rw [flat_length cAgr_len, mAs_len]; simp; omega) (fun κ vs h => by rw [ha1]; exact m_agr a1 tt pp h)) ?_
     simp only [(id F_lWM), seval]
     refine awp_pubc 30 9 4 (by rfl) (by rfl) (by rfl) (by decide) (by show (1 : Nat) ≠ 0; decide) (by show (5 : Nat) ≠ 0; decide) rfl ?_
     simp only [(id F_lWM), seval]
     refine awp_wk (wk_cells 9 (cEst (mE nn aa tt pp)) (by rfl) (by show (5 : Nat) ≠ 0; decide) (by rfl) (fun κ vs h => m_est nn aa tt pp h)) ?_
     simp only [(id F_lWM), seval]
     refine awp_wk (wk_keep [9, 11] [9]) (hM _ ⟨true, ?_, (by unfold mLg; first | (symm; exact decide_eq_true (by omega)) | (symm; exact decide_eq_false (by omega))), ?cs34⟩)
     case cs34 => (simp only [(id F_lWM), seval]; rfl)
    have hlp : ¬ (24 < nn ∨ 12 < aa) := fun h9 => hl (by rw [hlg]; exact decide_eq_true h9)
    by_cases hp24 : (24 : Int) < (pp : Int)
    ·
     have hjp2 : j = pp := by omega
     simp only [hjp2]
     refine awR [] [none, none, some (91, false), some (91, false), some (91, false), some (91, false), none, none] ?_
     simp only [(id F_lWM), seval, hja, ha, hjt, ht, hjp, hl, hp24, wpp, zpp]
     repeat refine ob ?_
     refine awR [] [none, none, some (98, false), some (98, false), some (98, false), some (98, false), none, none] ?_
     simp only [(id F_lWM), seval, hja, ha, hjt, ht, hjp, hl, hp24, wtt, ztt]
     repeat refine ob ?_
     intro zc zQ hM
     refine awp_pubc 88 61 0 (by rfl) (by rfl) (by rfl) (by decide) (by show (5 : Nat) ≠ 0; decide) (by show (1 : Nat) ≠ 0; decide) rfl ?_
     simp only [(id F_lWM), seval]
     refine awp_wk (wk_cells 61 (flat cTier (mA tt pp)) (by rfl) (by show (1 : Nat) ≠ 0; decide) (by rw [flat_length cTier_len, mA_len]; simp; omega) (fun κ vs h => by rw [ht1]; exact m_tier t1 pp h)) ?_
     simp only [(id F_lWM), seval]
     refine awp_pubc 61 30 0 (by rfl) (by rfl) (by rfl) (by decide) (by show (1 : Nat) ≠ 0; decide) (by show (1 : Nat) ≠ 0; decide) rfl ?_
     simp only [(id F_lWM), seval]
     refine awp_wk (wk_cells 30 (flat cAgr (mAs aa tt pp)) (by rfl) (by show (1 : Nat) ≠ 0; decide) (by rw [flat_length cAgr_len, mAs_len]; simp; omega) (fun κ vs h => by rw [ha1]; exact m_agr a1 tt pp h)) ?_
     simp only [(id F_lWM), seval]
     refine awp_pubc 30 9 4 (by rfl) (by rfl) (by rfl) (by decide) (by show (1 : Nat) ≠ 0; decide) (by show (5 : Nat) ≠ 0; decide) rfl ?_
     simp only [(id F_lWM), seval]
     refine awp_wk (wk_cells 9 (cEst (mE nn aa tt pp)) (by rfl) (by show (5 : Nat) ≠ 0; decide) (by rfl) (fun κ vs h => m_est nn aa tt pp h)) ?_
     simp only [(id F_lWM), seval]
     refine awp_wk (wk_keep [9, 11] [9]) (hM _ ⟨true, ?_, (by unfold mLg; first | (symm; exact decide_eq_true (by omega)) | (symm; exact decide_eq_false (by omega))), ?cs37⟩)
     case cs37 => (simp only [(id F_lWM), seval]; rfl)
    have hjp2 : j = pp := by omega
    simp only [hjp2]
    refine awR [] [none, none, some (91, false), some (91, false), some (91, false), some (91, false), none, none] ?_
    simp only [(id F_lWM), seval, hja, ha, hjt, ht, hjp, hl, hp24, wpp, zpp]
    repeat refine ob ?_
    by_cases ht24 : (24 : Int) < (tt : Int)
    ·
     refine awR [] [none, none, some (98, false), some (98, false), some (98, false), some (98, false), none, none] ?_
     simp only [(id F_lWM), seval, hja, ha, hjt, ht, hjp, hl, hp24, ht24, wtt, ztt]
     repeat refine ob ?_
     intro zc zQ hM
     refine awp_pubc 88 61 0 (by rfl) (by rfl) (by rfl) (by decide) (by show (5 : Nat) ≠ 0; decide) (by show (1 : Nat) ≠ 0; decide) rfl ?_
     simp only [(id F_lWM), seval]
     refine awp_wk (wk_cells 61 (flat cTier (mA tt pp)) (by rfl) (by show (1 : Nat) ≠ 0; decide) (by rw [flat_length cTier_len, mA_len]; simp; omega) (fun κ vs h => by rw [ht1]; exact m_tier t1 pp h)) ?_
     simp only [(id F_lWM), seval]
     refine awp_pubc 61 30 0 (by rfl) (by rfl) (by rfl) (by decide) (by show (1 : Nat) ≠ 0; decide) (by show (1 : Nat) ≠ 0; decide) rfl ?_
     simp only [(id F_lWM), seval]
     refine awp_wk (wk_cells 30 (flat cAgr (mAs aa tt pp)) (by rfl) (by show (1 : Nat) ≠ 0; decide) (by rw [flat_length cAgr_len, mAs_len]; simp; omega) (fun κ vs h => by rw [ha1]; exact m_agr a1 tt pp h)) ?_
     simp only [(id F_lWM), seval]
     refine awp_pubc 30 9 4 (by rfl) (by rfl) (by rfl) (by decide) (by show (1 : Nat) ≠ 0; decide) (by show (5 : Nat) ≠ 0; decide) rfl ?_
     simp only [(id F_lWM), seval]
     refine awp_wk (wk_cells 9 (cEst (mE nn aa tt pp)) (by rfl) (by show (5 : Nat) ≠ 0; decide) (by rfl) (fun κ vs h => m_est nn aa tt pp h)) ?_
     simp only [(id F_lWM), seval]
     refine awp_wk (wk_keep [9, 11] [9]) (hM _ ⟨true, ?_, (by unfold mLg; first | (symm; exact decide_eq_true (by omega)) | (symm; exact decide_eq_false (by omega))), ?cs40⟩)
     case cs40 => (simp only [(id F_lWM), seval]; rfl)
    refine awR [] [none, none, some (98, false), some (98, false), some (98, false), some (98, false), none, none] ?_
    simp only [(id F_lWM), seval, hja, ha, hjt, ht, hjp, hl, hp24, ht24, wtt, ztt]
    repeat refine ob ?_
    intro zc zQ hM
    refine awp_pubc 88 61 0 (by rfl) (by rfl) (by rfl) (by decide) (by show (5 : Nat) ≠ 0; decide) (by show (1 : Nat) ≠ 0; decide) rfl ?_
    simp only [(id F_lWM), seval]
    refine awp_wk (wk_cells 61 (flat cTier (mA tt pp)) (by rfl) (by show (1 : Nat) ≠ 0; decide) (by rw [flat_length cTier_len, mA_len]; simp; omega) (fun κ vs h => by rw [ht1]; exact m_tier t1 pp h)) ?_
    simp only [(id F_lWM), seval]
    refine awp_pubc 61 30 0 (by rfl) (by rfl) (by rfl) (by decide) (by show (1 : Nat) ≠ 0; decide) (by show (1 : Nat) ≠ 0; decide) rfl ?_
    simp only [(id F_lWM), seval]
    refine awp_wk (wk_cells 30 (flat cAgr (mAs aa tt pp)) (by rfl) (by show (1 : Nat) ≠ 0; decide) (by rw [flat_length cAgr_len, mAs_len]; simp; omega) (fun κ vs h => by rw [ha1]; exact m_agr a1 tt pp h)) ?_
    simp only [(id F_lWM), seval]
    refine awp_pubc 30 9 4 (by rfl) (by rfl) (by rfl) (by decide) (by show (1 : Nat) ≠ 0; decide) (by show (5 : Nat) ≠ 0; decide) rfl ?_
    simp only [(id F_lWM), seval]
    refine awp_wk (wk_cells 9 (cEst (mE nn aa tt pp)) (by rfl) (by show (5 : Nat) ≠ 0; decide) (by rfl) (fun κ vs h => m_est nn aa tt pp h)) ?_
    simp only [(id F_lWM), seval]
    refine awp_wk (wk_keep [9, 11] [9]) (hM _ ⟨false, ?_, (by unfold mLg; first | (symm; exact decide_eq_true (by omega)) | (symm; exact decide_eq_false (by omega))), ?cs42⟩)
    case cs42 => (simp only [(id F_lWM), seval]; rfl)
   have hjt2 : j = tt := by omega
   simp only [hjt2]
   refine awR [] [none, none, none] ?_
   simp only [(id F_lWM), seval, hja, ha, hjt, ht, wtt]
   repeat refine ob ?_
   refine awF ?_
   refine awK ?_
   simp only [(id F_lWM), seval]
   by_cases hl : lg = true
   ·
    have hlp : 24 < nn ∨ 12 < aa := by rw [hl] at hlg; exact of_decide_eq_true hlg.symm
    refine awR [] [none, none, some (98, false), some (98, false), some (98, false), some (98, false), none, none] ?_
    simp only [(id F_lWM), seval, hja, ha, hjt, ht, hl, wtt, ztt]
    repeat refine ob ?_
    intro zc zQ hM
    have htz : tt = 0 := by omega
    refine awp_wk (wk_cells 61 (flat cTier (mA tt pp)) (by rfl) (by show (1 : Nat) ≠ 0; decide) (by rw [flat_length cTier_len, mA_len]; simp) (fun κ vs h => by rw [htz] at h ⊢; exact h)) ?_
    simp only [(id F_lWM), seval]
    refine awp_pubc 61 30 0 (by rfl) (by rfl) (by rfl) (by decide) (by show (1 : Nat) ≠ 0; decide) (by show (1 : Nat) ≠ 0; decide) rfl ?_
    simp only [(id F_lWM), seval]
    refine awp_wk (wk_cells 30 (flat cAgr (mAs aa tt pp)) (by rfl) (by show (1 : Nat) ≠ 0; decide) (by rw [flat_length cAgr_len, mAs_len]; simp; omega) (fun κ vs h => by rw [ha1]; exact m_agr a1 tt pp h)) ?_
    simp only [(id F_lWM), seval]
    refine awp_pubc 30 9 4 (by rfl) (by rfl) (by rfl) (by decide) (by show (1 : Nat) ≠ 0; decide) (by show (5 : Nat) ≠ 0; decide) rfl ?_
    simp only [(id F_lWM), seval]
    refine awp_wk (wk_cells 9 (cEst (mE nn aa tt pp)) (by rfl) (by show (5 : Nat) ≠ 0; decide) (by rfl) (fun κ vs h => m_est nn aa tt pp h)) ?_
    simp only [(id F_lWM), seval]
    refine awp_wk (wk_keep [9, 11] [9]) (hM _ ⟨true, ?_, (by unfold mLg; first | (symm; exact decide_eq_true (by omega)) | (symm; exact decide_eq_false (by omega))), ?cs45⟩)
    case cs45 => (simp only [(id F_lWM), seval]; rfl)
   have hlp : ¬ (24 < nn ∨ 12 < aa) := fun h9 => hl (by rw [hlg]; exact decide_eq_true h9)
   by_cases ht24 : (24 : Int) < (tt : Int)
   ·
    refine awR [] [none, none, some (98, false), some (98, false), some (98, false), some (98, false), none, none] ?_
    simp only [(id F_lWM), seval, hja, ha, hjt, ht, hl, ht24, wtt, ztt]
    repeat refine ob ?_
    intro zc zQ hM
    have htz : tt = 0 := by omega
    refine awp_wk (wk_cells 61 (flat cTier (mA tt pp)) (by rfl) (by show (1 : Nat) ≠ 0; decide) (by rw [flat_length cTier_len, mA_len]; simp) (fun κ vs h => by rw [htz] at h ⊢; exact h)) ?_
    simp only [(id F_lWM), seval]
    refine awp_pubc 61 30 0 (by rfl) (by rfl) (by rfl) (by decide) (by show (1 : Nat) ≠ 0; decide) (by show (1 : Nat) ≠ 0; decide) rfl ?_
    simp only [(id F_lWM), seval]
    refine awp_wk (wk_cells 30 (flat cAgr (mAs aa tt pp)) (by rfl) (by show (1 : Nat) ≠ 0; decide) (by rw [flat_length cAgr_len, mAs_len]; simp; omega) (fun κ vs h => by rw [ha1]; exact m_agr a1 tt pp h)) ?_
    simp only [(id F_lWM), seval]
    refine awp_pubc 30 9 4 (by rfl) (by rfl) (by rfl) (by decide) (by show (1 : Nat) ≠ 0; decide) (by show (5 : Nat) ≠ 0; decide) rfl ?_
    simp only [(id F_lWM), seval]
    refine awp_wk (wk_cells 9 (cEst (mE nn aa tt pp)) (by rfl) (by show (5 : Nat) ≠ 0; decide) (by rfl) (fun κ vs h => m_est nn aa tt pp h)) ?_
    simp only [(id F_lWM), seval]
    refine awp_wk (wk_keep [9, 11] [9]) (hM _ ⟨true, ?_, (by unfold mLg; first | (symm; exact decide_eq_true (by omega)) | (symm; exact decide_eq_false (by omega))), ?cs47⟩)
    case cs47 => (simp only [(id F_lWM), seval]; rfl)
   refine awR [] [none, none, some (98, false), some (98, false), some (98, false), some (98, false), none, none] ?_
   simp only [(id F_lWM), seval, hja, ha, hjt, ht, hl, ht24, wtt, ztt]
   repeat refine ob ?_
   intro zc zQ hM
   have htz : tt = 0 := by omega
   refine awp_wk (wk_cells 61 (flat cTier (mA tt pp)) (by rfl) (by show (1 : Nat) ≠ 0; decide) (by rw [flat_length cTier_len, mA_len]; simp) (fun κ vs h => by rw [htz] at h ⊢; exact h)) ?_
   simp only [(id F_lWM), seval]
   refine awp_pubc 61 30 0 (by rfl) (by rfl) (by rfl) (by decide) (by show (1 : Nat) ≠ 0; decide) (by show (1 : Nat) ≠ 0; decide) rfl ?_
   simp only [(id F_lWM), seval]
   refine awp_wk (wk_cells 30 (flat cAgr (mAs aa tt pp)) (by rfl) (by show (1 : Nat) ≠ 0; decide) (by rw [flat_length cAgr_len, mAs_len]; simp; omega) (fun κ vs h => by rw [ha1]; exact m_agr a1 tt pp h)) ?_
   simp only [(id F_lWM), seval]
   refine awp_pubc 30 9 4 (by rfl) (by rfl) (by rfl) (by decide) (by show (1 : Nat) ≠ 0; decide) (by show (5 : Nat) ≠ 0; decide) rfl ?_
   simp only [(id F_lWM), seval]
   refine awp_wk (wk_cells 9 (cEst (mE nn aa tt pp)) (by rfl) (by show (5 : Nat) ≠ 0; decide) (by rfl) (fun κ vs h => m_est nn aa tt pp h)) ?_
   simp only [(id F_lWM), seval]
   refine awp_wk (wk_keep [9, 11] [9]) (hM _ ⟨false, ?_, (by unfold mLg; first | (symm; exact decide_eq_true (by omega)) | (symm; exact decide_eq_false (by omega))), ?cs49⟩)
   case cs49 => (simp only [(id F_lWM), seval]; rfl)
  refine awR [] [none, none, none, none] ?_
  simp only [(id F_lWM), seval, hja, ha]
  repeat refine ob ?_
  refine awF ?_
  refine awK ?_
  simp only [(id F_lWM), seval]
  intro zc zQ hM
  have haz : aa = 0 := by omega
  refine awp_wk (wk_cells 30 (flat cAgr (mAs aa tt pp)) (by rfl) (by show (1 : Nat) ≠ 0; decide) (by rw [flat_length cAgr_len, mAs_len]; simp) (fun κ vs h => by rw [haz] at h ⊢; exact h)) ?_
  simp only [(id F_lWM), seval]
  refine awp_pubc 30 9 4 (by rfl) (by rfl) (by rfl) (by decide) (by show (1 : Nat) ≠ 0; decide) (by show (5 : Nat) ≠ 0; decide) rfl ?_
  simp only [(id F_lWM), seval]
  refine awp_wk (wk_cells 9 (cEst (mE nn aa tt pp)) (by rfl) (by show (5 : Nat) ≠ 0; decide) (by rfl) (fun κ vs h => m_est nn aa tt pp h)) ?_
  simp only [(id F_lWM), seval]
  refine awp_wk (wk_keep [9, 11] [9]) (hM _ ⟨lg, ?_, (by rw [hlg]; unfold mLg; exact decide_eq_decide.2 (by omega)), ?cs51⟩)
  case cs51 => (simp only [(id F_lWM), seval]; rfl)
 rintro st ⟨lg2, nxb, hlg2, rfl⟩
 refine awR [] [none] ?_
 simp only [(id F_lWM), seval, hja]
 repeat refine ob ?_
 by_cases hl2 : lg2 = true
 ·
  refine awR [] [none] ?_
  simp only [(id F_lWM), seval, hja, hl2]
  repeat refine ob ?_
  refine awT ?_
  refine awR [] [none] ?_
  simp only [(id F_lWM), seval, hja, hl2]
  repeat refine ob ?_
  have hC := wCheck_A (mE nn aa tt pp) (m_ok nn aa tt pp (by omega) (by omega) (by omega))
  have hv : wcSpec (mE nn aa tt pp) = 2 := by rw [m_spec, if_pos (by rw [← hlg2]; exact hl2)]
  rw [hv] at hC
  refine awR [] [none, none, some (106, true), some (106, true), some (106, true), some (106, true), none, none] ?_
  simp only [(id F_lWM), seval, hja, hl2, BEq.rfl, decide_true, flat_pure cClaim_pure, flat_pure cAgr_pure, cEst]
  repeat refine ob ?_
  refine ⟨_, awake17_A, rfl, ?_⟩
  try unfold Later
  try simp only [(id F_lWM), seval, hja, hl2, BEq.rfl, decide_true, flat_pure cClaim_pure, flat_pure cAgr_pure, cEst]
  repeat refine ob ?_
  refine ⟨_, hC, rfl, ?_⟩
  try unfold Later
  try simp only [(id F_lWM), seval, hja, hl2, BEq.rfl, decide_true, flat_pure cClaim_pure, flat_pure cAgr_pure, cEst]
  repeat refine ob ?_
  refine awX ?_
  (first | (simp only [(id F_lWM), seval, hja, hl2]; done) | (simp only [(id F_lWM), seval]; first | (simp [hja, hl2]; done)))
 refine awR [] [none] ?_
 simp only [(id F_lWM), seval, hja, hl2]
 repeat refine ob ?_
 refine awF ?_
 refine awK ?_
 simp only [(id F_lWM), seval]
 have hC := wCheck_A (mE nn aa tt pp) (m_ok nn aa tt pp (by omega) (by omega) (by omega))
 have hv : wcSpec (mE nn aa tt pp) = 0 := by rw [m_spec, if_neg (by rw [← hlg2]; exact hl2)]
 rw [hv] at hC
 refine awR [] [none, none, some (106, true), some (106, true), some (106, true), some (106, true), none, none] ?_
 simp only [(id F_lWM), seval, hja, hl2, BEq.rfl, decide_true, flat_pure cClaim_pure, flat_pure cAgr_pure, cEst]
 repeat refine ob ?_
 refine ⟨_, awake17_A, rfl, ?_⟩
 try unfold Later
 try simp only [(id F_lWM), seval, hja, hl2, BEq.rfl, decide_true, flat_pure cClaim_pure, flat_pure cAgr_pure, cEst]
 repeat refine ob ?_
 refine ⟨_, hC, rfl, ?_⟩
 try unfold Later
 try simp only [(id F_lWM), seval, hja, hl2, BEq.rfl, decide_true, flat_pure cClaim_pure, flat_pure cAgr_pure, cEst]
 repeat refine ob ?_
 refine awX ?_
 (first | (simp only [(id F_lWM), seval, hja, hl2]; done) | (simp only [(id F_lWM), seval]; first | (simp [hja, hl2]; done)))
theorem lWM_walk (v0 v1 v2 v3 : Value) (n0 a0 t0 p0 : Nat) (W : World) (o0 : rC (fun n : Nat => [.lit (.int .u8 n)]) (· < 256) W (LT W.heap.size) [v0] n0) (o1 : rC (fun n : Nat => [.lit (.int .u8 n)]) (· < 256) W (LT W.heap.size) [v1] a0) (o2 : rC (fun n : Nat => [.lit (.int .u8 n)]) (· < 256) W (LT W.heap.size) [v2] t0) (o3 : rC (fun n : Nat => [.lit (.int .u8 n)]) (· < 256) W (LT W.heap.size) [v3] p0) :
    Calls Tryz.prog 6 #[v0, v1, v2, v3] W fun e w' => e = .returned (.bool true) ∧ Below W.heap.size W w' := by
  obtain ⟨h0, k0⟩ := den_oneC o0 rfl
  obtain ⟨h1, k1⟩ := den_oneC o1 rfl
  obtain ⟨h2, k2⟩ := den_oneC o2 rfl
  obtain ⟨h3, k3⟩ := den_oneC o3 rfl
  exact acall_law (vs := [v0, v1, v2, v3]) (lWM_A n0 a0 t0 p0 k0 k1 k2 k3) ⟨h0, h1, h2, h3, trivial⟩
end Go.Proofs.YtokmkopihhnggaaGreatDoor
