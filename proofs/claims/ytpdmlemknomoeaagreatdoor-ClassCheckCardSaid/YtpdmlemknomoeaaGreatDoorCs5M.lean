/- Classes: the reference's Form, its classes a row of the caller's own; walked by the abstract machine. -/
import Derived.Test.YtpdmlemknomoeaaGreatDoorCs2M
import Derived.Test.YtpdmlemknomoeaaGreatDoorAbBM
import Derived.Test.YtpdmlemknomoeaaGreatDoorAbYM
set_option linter.unusedVariables false
set_option linter.unusedSimpArgs false
set_option linter.defProp false
set_option linter.unnecessarySimpa false
section
/- Classes: the reference's Form, its classes a row of the caller's own; walked by the abstract machine. -/
namespace Go.Proofs.YtpdmlemknomoeaaGreatDoor
open Go Go.RowKit
theorem onH {H : Hp} {f : Hp} (hb : ∀ x B, H x = some B → x < 1000) (hf : ∀ x, x < 1000 → f x = H x) (l : List Nat) : ∀ x B, H x = some B → hasN l x = true ∨ f x = some B := fun x B hB => .inr (by rw [hf x (hb x B hB)]; exact hB)
def F_rFi := And.intro zS (And.intro tf68 (And.intro tf17 (And.intro tf7 (And.intro tf61 (And.intro tf20 (And.intro tf24 (And.intro tf62 (And.intro tf63 (And.intro tf30 (And.intro tf32 (tf66)))))))))))
set_option maxRecDepth 100000 in
set_option maxHeartbeats 4000000 in
theorem rForms_I (g : GGrp) (lim : GRat) (H : Hp) (ny : Nat) (hbH : ∀ x B, H x = some B → x < 1000) (hg0 : cgSpec g = 0) (hlim : bigOK lim) (hg : grpOK2 g) (hng : g.ests.length ≤ 4) (hcl : ∀ e ∈ g.ests, e.claims.length ≤ 1000000 ∧ ∀ c ∈ e.claims, bigOK c.amount) :
  ACallI Tryz.prog 16 [.agg (cGrp g), .agg (cRat lim)] H ny (fun res H' _ => ∃ s, res = .tup [.one (.own 1046 s (foE lim g.ests 0 []).length 4), .one (.lit (.int .i64 0))] ∧ H' 1046 = some ⟨s, 58, 4, (foE lim g.ests 0 []).length, flat cCls (foE lim g.ests 0 [])⟩ ∧ ∀ x, x < 1000 → H' x = H x) := by
 refine acallI_of 1000 Tryz.func16 rfl (by decide) (N := 51) rfl (by simp) (Rl := [.tmp 4, .tmp 5]) rfl fun en k0 => ?_
 refine awR [] [none, none, none, none] ?_
 simp only [(id F_rFi), seval, cGrp, cRat]
 repeat refine ob ?_
 have hG := rGroup_A g hg
 refine awR [] [none, none, none] ?_
 simp only [(id F_rFi), seval, cGrp, cRat, flat_pure cEst_pure, flat_pure cDebt_pure]
 repeat refine ob ?_
 refine ⟨_, hG, (by first | rfl | simp [allA, pure1, pureCs, pureC, A1.cells, cCls_pure, flat_pure cI_pure]), ?_⟩
 try unfold Later
 try simp only [(id F_rFi), seval, cGrp, cRat, flat_pure cEst_pure, flat_pure cDebt_pure]
 repeat refine ob ?_
 refine awR [] [none, none] ?_
 simp only [(id F_rFi), seval, cGrp, cRat, hg0, decide_true, Bool.not_true]
 repeat refine ob ?_
 refine awF ?_
 refine awK ?_
 simp only [(id F_rFi), seval]
 refine awR [] [none] ?_
 simp only [(id F_rFi), seval, cGrp, cRat]
 repeat refine ob ?_
 refine awR [] [none] ?_
 simp only [(id F_rFi), seval, cGrp, cRat]
 repeat refine ob ?_
 refine awp_nil 7 1046 58 4 (by decide) (by rfl) ?_
 refine awp_on H [2, 3, 7, 8] [1002, 1003, 1046] (onH hbH (fun x h1 => by (try simp only [up_apply]); repeat rw [if_neg (by omega)]) _) ?_
 try unfold Later
 try simp only [(id F_rFi), seval, cGrp, cRat]
 repeat' first|apply awS|apply awB
 refine awp_loopw (fun n st => ∃ i0 out s nx, i0 ≤ g.ests.length ∧ n = g.ests.length - i0 ∧ foE lim (g.ests.drop i0) i0 out = foE lim g.ests 0 [] ∧ out.length ≤ 16 * i0 ∧ st = ⟨mkT [(2, .val (.one (.ptr 1002 ny 0))), (3, .val (.one (.ptr 1003 (ny + 1) 0))), (7, .val (.one (.own 1046 s (out).length 4))), (8, one (.int .i64 i0))], mkOn H [(1002, ⟨ny, 27, 2, 1, cGrp g⟩), (1003, ⟨(ny + 1), 38, 3, 1, cRat lim⟩), (1046, ⟨s, 58, 4, (out).length, flat cCls (out)⟩)], nx, 1000⟩) (g.ests.length) ⟨0, [], _, _, by omega, by omega, by rfl, (by first | omega | assumption | rfl | simp | (simp; omega)), rfl⟩ ?_
 rintro n0 st ⟨i0, out, s, nx0, hk0, rfl, hL0, hV0_1, rfl⟩
 by_cases hlt0 : i0 < g.ests.length
 ·
  have hI0 : (i0 : Int) < (g.ests.length : Int) := by omega
  rw [List.drop_eq_getElem_cons hlt0] at hL0
  have hce := hcl g.ests[i0] (List.getElem_mem hlt0)
  have hr8 := rkN_len g.ests[i0] i0 lim out 8
  have hje : g.ests[i0]? = some g.ests[i0] := List.getElem?_eq_getElem hlt0
  generalize g.ests[i0] = e at *
  simp only [foE] at hL0
  refine awR [] [none, none, none, none, none] ?_
  simp only [(id F_rFi), seval, cGrp, cRat, hI0]
  repeat refine ob ?_
  refine awT ?_
  refine awK ?_
  simp only [(id F_rFi), seval]
  refine awR [] [none] ?_
  simp only [(id F_rFi), seval, cGrp, cRat, hI0]
  repeat refine ob ?_
  refine awp_on H [2, 3, 7, 8, 9] [1002, 1003, 1046] (onH hbH (fun x h1 => by (try simp only [up_apply]); repeat rw [if_neg (by omega)]) _) ?_
  try unfold Later
  try simp only [(id F_rFi), seval, cGrp, cRat, hI0]
  repeat' first|apply awS|apply awB
  refine awp_loopw (fun n st => ∃ r s nx, r ≤ 8 ∧ n = 8 - r ∧ st = ⟨mkT [(2, .val (.one (.ptr 1002 ny 0))), (3, .val (.one (.ptr 1003 (ny + 1) 0))), (7, .val (.one (.own 1046 s (rkN e i0 lim out r).length 4))), (8, one (.int .i64 i0)), (9, one (.int .i64 r))], mkOn H [(1002, ⟨ny, 27, 2, 1, cGrp g⟩), (1003, ⟨(ny + 1), 38, 3, 1, cRat lim⟩), (1046, ⟨s, 58, 4, (rkN e i0 lim out r).length, flat cCls (rkN e i0 lim out r)⟩)], nx, 1000⟩) (8) ⟨0, _, _, by omega, by omega, rfl⟩ ?_
  rintro n1 st ⟨r, s, nx1, hr, rfl, rfl⟩
  by_cases hlt1 : (r : Int) ≤ 7
  ·
   refine awR [] [none, none] ?_
   simp only [(id F_rFi), seval, cGrp, cRat, hI0, hlt1]
   repeat refine ob ?_
   refine awT ?_
   refine awK ?_
   simp only [(id F_rFi), seval]
   refine awR [] [none] ?_
   simp only [(id F_rFi), seval, cGrp, cRat, hI0, hlt1]
   repeat refine ob ?_
   refine awp_on H [2, 3, 7, 8, 9, 10] [1002, 1003, 1046] (onH hbH (fun x h1 => by (try simp only [up_apply]); repeat rw [if_neg (by omega)]) _) ?_
   try unfold Later
   try simp only [(id F_rFi), seval, cGrp, cRat, hI0, hlt1]
   repeat' first|apply awS|apply awB
   refine awp_loopw (fun n st => ∃ q s nx, q ≤ 2 ∧ n = 2 - q ∧ st = ⟨mkT [(2, .val (.one (.ptr 1002 ny 0))), (3, .val (.one (.ptr 1003 (ny + 1) 0))), (7, .val (.one (.own 1046 s (blN e i0 r lim (rkN e i0 lim out r) q).length 4))), (8, one (.int .i64 i0)), (9, one (.int .i64 r)), (10, one (.int .i64 q))], mkOn H [(1002, ⟨ny, 27, 2, 1, cGrp g⟩), (1003, ⟨(ny + 1), 38, 3, 1, cRat lim⟩), (1046, ⟨s, 58, 4, (blN e i0 r lim (rkN e i0 lim out r) q).length, flat cCls (blN e i0 r lim (rkN e i0 lim out r) q)⟩)], nx, 1000⟩) (2) ⟨0, _, _, by omega, by omega, rfl⟩ ?_
   rintro n2 st ⟨q, s, nx2, hq, rfl, rfl⟩
   by_cases hlt2 : (q : Int) < 2
   ·
    refine awR [] [none, none] ?_
    simp only [(id F_rFi), seval, cGrp, cRat, hI0, hlt1, hlt2]
    repeat refine ob ?_
    refine awT ?_
    refine awK ?_
    simp only [(id F_rFi), seval]
    obtain ⟨sm, hsm⟩ : ∃ sm, sm = decide (q = 0) := ⟨_, rfl⟩
    have hq2 : q < 2 := by omega
    have hF := rClass_A g i0 e hje r sm lim hlim hce.1 hce.2
    obtain ⟨c, hcg⟩ : ∃ c, fmS e (i0 : Int) (r : Int) sm lim = c := ⟨_, rfl⟩
    rw [hcg] at hF
    have hbl := blN_len e i0 r lim (rkN e i0 lim out r) q
    have hrl := rkN_len e i0 lim out r
    have hsq : decide ((q : Int) = 0) = sm := by rw [hsm]; simp
    refine awR [] [none, none, none, none, none, none, none, none, none] ?_
    simp only [(id F_rFi), seval, cGrp, cRat, hI0, hlt1, hlt2, cCls, flat_pure cClaim_pure, flat_pure cAgr_pure, flat_pure cI_pure, hsq, flat_pure cEst_pure, flat_pure cDebt_pure]
    repeat refine ob ?_
    refine ⟨_, hF, (by first | rfl | simp [allA, pure1, pureCs, pureC, A1.cells, cCls_pure, flat_pure cI_pure]), ?_⟩
    try unfold Later
    try simp only [(id F_rFi), seval, cGrp, cRat, hI0, hlt1, hlt2, cCls, flat_pure cClaim_pure, flat_pure cAgr_pure, flat_pure cI_pure, hsq, flat_pure cEst_pure, flat_pure cDebt_pure]
    repeat refine ob ?_
    by_cases hp : (0 : Int) < (c.claims.length : Int)
    ·
     refine awR [] [none, none, none, none] ?_
     simp only [(id F_rFi), seval, cGrp, cRat, hI0, hlt1, hlt2, hp]
     repeat refine ob ?_
     refine awT ?_
     refine awR [] [none, none, none, none, none] ?_
     simp only [(id F_rFi), seval, cGrp, cRat, hI0, hlt1, hlt2, hp, cCls]
     repeat refine ob ?_
     refine awR [] [none, none, none] ?_
     simp only [(id F_rFi), seval, cGrp, cRat, hI0, hlt1, hlt2, hp]
     repeat refine ob ?_
     repeat refine ob ?_
     have hb : blN e i0 r lim (rkN e i0 lim out r) (q + 1) = blN e i0 r lim (rkN e i0 lim out r) q ++ [c] := by rw [blN_step e i0 r lim _ q hq2, ← hsm, hcg]; unfold addCl; rw [if_pos hp]
     refine ⟨_, wk_on H [2, 3, 7, 8, 9, 10] [1002, 1003, 1046] (onH hbH (fun x h1 => by (try simp only [up_apply]); repeat rw [if_neg (by omega)]) _), 2 - (q + 1), by omega, q + 1, ?sa15, ?na15, by omega, rfl, ?st15⟩
     case st15 => (simp only [(id F_rFi), seval, hb, flat_snoc, cCls, List.length_append, List.length_cons, List.length_nil]; first | rfl | (simp; done))
    refine awR [] [none, none, none, none] ?_
    simp only [(id F_rFi), seval, cGrp, cRat, hI0, hlt1, hlt2, hp]
    repeat refine ob ?_
    refine awF ?_
    refine awK ?_
    simp only [(id F_rFi), seval]
    refine awR [] [none, none, none] ?_
    simp only [(id F_rFi), seval, cGrp, cRat, hI0, hlt1, hlt2, hp]
    repeat refine ob ?_
    repeat refine ob ?_
    have hb : blN e i0 r lim (rkN e i0 lim out r) (q + 1) = blN e i0 r lim (rkN e i0 lim out r) q := by rw [blN_step e i0 r lim _ q hq2, ← hsm, hcg]; unfold addCl; rw [if_neg hp]
    refine ⟨_, wk_on H [2, 3, 7, 8, 9, 10] [1002, 1003, 1046] (onH hbH (fun x h1 => by (try simp only [up_apply]); repeat rw [if_neg (by omega)]) _), 2 - (q + 1), by omega, q + 1, ?sa18, ?na18, by omega, rfl, ?st18⟩
    case st18 => (simp only [(id F_rFi), seval, hb, flat_snoc, cCls, List.length_append, List.length_cons, List.length_nil]; first | rfl | (simp; done))
   refine awR [] [none, none] ?_
   simp only [(id F_rFi), seval, cGrp, cRat, hI0, hlt1, hlt2]
   repeat refine ob ?_
   refine awF ?_
   refine awQ ?_
   simp only [(id F_rFi), seval]
   obtain rfl : q = 2 := by omega
   refine awR [] [none, none, none] ?_
   simp only [(id F_rFi), seval, cGrp, cRat, hI0, hlt1, hlt2]
   repeat refine ob ?_
   repeat refine ob ?_
   have hr1 : rkN e i0 lim out (r + 1) = blN e i0 r lim (rkN e i0 lim out r) 2 := rfl
   refine ⟨_, wk_on H [2, 3, 7, 8, 9] [1002, 1003, 1046] (onH hbH (fun x h1 => by (try simp only [up_apply]); repeat rw [if_neg (by omega)]) _), 8 - (r + 1), by omega, r + 1, ?sa21, ?na21, by omega, rfl, ?st21⟩
   case st21 => (simp only [(id F_rFi), seval, hr1]; first | rfl | (simp; done))
  refine awR [] [none, none] ?_
  simp only [(id F_rFi), seval, cGrp, cRat, hI0, hlt1]
  repeat refine ob ?_
  refine awF ?_
  refine awQ ?_
  simp only [(id F_rFi), seval]
  obtain rfl : r = 8 := by omega
  refine awR [] [none, none, none] ?_
  simp only [(id F_rFi), seval, cGrp, cRat, hI0, hlt1]
  repeat refine ob ?_
  repeat refine ob ?_
  refine ⟨_, wk_on H [2, 3, 7, 8] [1002, 1003, 1046] (onH hbH (fun x h1 => by (try simp only [up_apply]); repeat rw [if_neg (by omega)]) _), g.ests.length - (i0 + 1), by omega, i0 + 1, (rkN e i0 lim out 8), ?a23_s, ?a23_nx, by omega, rfl, ?i23_0, ?i23_1, ?st23⟩
  case st23 => (simp only [(id F_rFi), seval, cGrp, cRat, hI0, hlt1]; first | rfl | (simp [hI0, hlt1, Nat.add_mul]; done))
  case i23_0 => (first | exact hL0 | (rw [← hL0]; simp only [reduceIte, hI0, hlt1]; done) | (rw [← hL0]; simp [hI0, hlt1]; done) | (simp [hI0, hlt1] at hL0; simpa using hL0) | (rw [← hL0]; simp [*]; done))
  case i23_1 => (first | omega | assumption | (simp; omega) | (simp_all; done))
 obtain rfl : i0 = g.ests.length := by omega
 have hI0 : ¬ (g.ests.length : Int) < (g.ests.length : Int) := by omega
 rw [List.drop_length] at hL0
 simp only [foE] at hL0
 refine awR [] [none, none, none, none, none] ?_
 simp only [(id F_rFi), seval, cGrp, cRat, hI0]
 repeat refine ob ?_
 refine awF ?_
 refine awQ ?_
 simp only [(id F_rFi), seval]
 by_cases h64 : (64 : Int) < (out.length : Int)
 ·
  refine awR [] [none, none, none] ?_
  simp only [(id F_rFi), seval, cGrp, cRat, hI0, h64]
  repeat refine ob ?_
  refine awT ?_
  refine awR [] [none, none] ?_
  simp only [(id F_rFi), seval, cGrp, cRat, hI0, h64]
  repeat refine ob ?_
  exact absurd h64 (by have := foE_len lim g.ests 0 []; rw [← hL0] at this; simp only [List.length_nil] at this; omega)
 refine awR [] [none, none, none] ?_
 simp only [(id F_rFi), seval, cGrp, cRat, hI0, h64]
 repeat refine ob ?_
 refine awF ?_
 refine awK ?_
 simp only [(id F_rFi), seval]
 refine awR [] [none, none, none] ?_
 simp only [(id F_rFi), seval, cGrp, cRat, hI0, h64]
 repeat refine ob ?_
 refine awX ?_
 simp only [(id F_rFi), seval]
 rw [← hL0]
 exact ⟨_, rfl, rfl, fun x h1 => by (try simp only [up_apply]); repeat rw [if_neg (by omega)]⟩
end Go.Proofs.YtpdmlemknomoeaaGreatDoor
end
section
/- Cells of a row put, read and said in other words; parts of a row of records. No program in sight. -/
namespace Go.Proofs.YtpdmlemknomoeaaGreatDoor
open Go Go.RowKit
theorem spl_len1 (cs : List C) (off : Nat) (c : C) (h : off < cs.length) : (spl cs off [c]).length = cs.length := by rw [spl_one cs off c h, List.length_set]
theorem spl_get1 (cs : List C) (off : Nat) (c : C) (h : off < cs.length) : (spl cs off [c])[off]? = some c := by rw [spl_one cs off c h]; simp [h]
theorem spl_set1 (cs : List C) (off : Nat) (c d : C) (h : off < cs.length) : (spl cs off [c]).set off d = spl cs off [d] := by rw [spl_one cs off c h, spl_one cs off d h, List.set_set]
theorem denVs_set {κ : Kx} : ∀ {vs : List Value} {cs : List C} (off : Nat) {c d : C}, cs[off]? = some c → (∀ v, den κ v c → den κ v d) → denVs κ vs cs → denVs κ vs (cs.set off d)
  | [], [], _, _, _, h, _, _ => by simp at h
  | _ :: _, _ :: _, 0, c, d, h, hc, hd => by
    simp only [List.getElem?_cons_zero, Option.some.injEq] at h
    subst h
    exact ⟨hc _ hd.1, hd.2⟩
  | _ :: _, _ :: _, off + 1, c, d, h, hc, hd => ⟨hd.1, denVs_set off (by simpa using h) hc hd.2⟩
  | [], _ :: _, _, _, _, _, _, h => h.elim
  | _ :: _, [], _, _, _, _, _, h => h.elim
theorem denVs_spl1 {κ : Kx} {vs : List Value} {cs : List C} (off : Nat) {c d : C} (h : off < cs.length) (hc : ∀ v, den κ v c → den κ v d) (hd : denVs κ vs (spl cs off [c])) : denVs κ vs (spl cs off [d]) := by
  rw [← spl_set1 cs off c d h]
  exact denVs_set off (spl_get1 cs off c h) hc hd
end Go.Proofs.YtpdmlemknomoeaaGreatDoor
end
