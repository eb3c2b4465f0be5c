/- Cells of a row put, read and said in other words; parts of a row of records. No program in sight. -/
import Derived.Test.YtogeijhepjcbgaaGreatDoorAbBM
import Derived.Test.YtogeijhepjcbgaaGreatDoorBl6M
set_option linter.unusedVariables false
set_option linter.unusedSimpArgs false
set_option linter.defProp false
set_option linter.unnecessarySimpa false
set_option linter.unusedSectionVars false
section
/- Cells of a row put, read and said in other words; parts of a row of records. No program in sight. -/
namespace Go.Proofs.YtogeijhepjcbgaaGreatDoor
open Go Go.RowKit
end Go.Proofs.YtogeijhepjcbgaaGreatDoor
end
section
/- A group whose estates and claims are rows of the caller's own: read by a call that returns plain numbers; boxes that are read from here on. No program in sight. -/
namespace Go.Proofs.YtogeijhepjcbgaaGreatDoor
open Go Go.RowKit
section
variable {e : En} {H : Hp} {nx : Nat} {σ : Nat → Value} {w : World}
theorem kx_all : ∀ b, (kx e H nx σ w).S b → (kAll w).S b ∧ (kAll w).w.heap[b]? = (kx e H nx σ w).w.heap[b]? := fun b hb => ⟨kAll_S hb.2.1, rfl⟩
theorem own_readT (hW : RW e H nx σ w) {v : Value} {nm s n sz : Nat} {B : Blk} (hd : den (kx e H nx σ w) v (.own nm s n sz)) (hB : H nm = some B) (hs : B.st = s) (hsz : B.sz ≠ 0) {cs' : List C}
    (hc : ∀ xs, denVs (kx e H nx σ w) xs B.cs → denVs (kAll w) xs cs') : den (kAll w) v (.sh sz n cs') := own_read hW hB hsz hs hd hc
theorem est_read (hW : RW e H nx σ w) (E : TypeId) : ∀ (ps : List (GEst × Nat)) (i : Nat), (∀ j p, ps[j]? = some p → H (1000 * (i + j + 1) + 103) = some ⟨p.2, E, 5, p.1.claims.length, flat cClaim p.1.claims⟩) → ∀ xs, denVs (kx e H nx σ w) xs (eRw (fOwn 103) ps i) → denVs (kAll w) xs (flat cEst (ps.map (·.1)))
  | [], _, _, xs, h => by
    cases xs with
    | nil => trivial
    | cons v vs => exact h.elim
  | p :: ps, i, ht, xs, h => by
    simp only [eRw, List.cons_append, List.nil_append] at h
    obtain ⟨v1, vs1, rfl, d1, h⟩ := denVs_cons h
    obtain ⟨v2, vs2, rfl, d2, h⟩ := denVs_cons h
    obtain ⟨v3, vs3, rfl, d3, h⟩ := denVs_cons h
    obtain ⟨v4, vs4, rfl, d4, h⟩ := denVs_cons h
    obtain ⟨v5, vs5, rfl, d5, h⟩ := denVs_cons h
    have ih := est_read hW E ps (i + 1) (fun j q hq => by
      have := ht (j + 1) q (by simpa using hq)
      rwa [show i + (j + 1) + 1 = i + 1 + j + 1 by omega] at this) vs5 h
    rw [List.map_cons, flat_cons]
    have h0 := ht 0 p rfl
    rw [Nat.add_zero] at h0
    refine ⟨d1, d2, d3, own_readT hW d4 h0 rfl (by show (5 : Nat) ≠ 0; decide) (fun ys hy => denVs_pure kx_all (flat_pure cClaim_pure _) hy), den_pure kx_all (by simp [pureC, flat_pure cAgr_pure]) d5, ih⟩
theorem grp_read (hW : RW e H nx σ w) {E E2 : TypeId} {er s n : Nat} {ps : List (GEst × Nat)} {ds : List GDebt} (h49 : H er = some ⟨s, E, 5, n, eRw (fOwn 103) ps 0⟩) (hn : n = ps.length)
    (ht : ∀ j p, ps[j]? = some p → H (1000 * (j + 1) + 103) = some ⟨p.2, E2, 5, p.1.claims.length, flat cClaim p.1.claims⟩) {vs : List Value} (hd : denVs (kx e H nx σ w) vs [.own er s n 5, .sh 4 ds.length (flat cDebt ds)]) : denVs (kAll w) vs (cGrp ⟨ps.map (·.1), ds⟩) := by
  obtain ⟨v1, vs1, rfl, d1, hd⟩ := denVs_cons hd
  obtain ⟨v2, vs2, rfl, d2, hd⟩ := denVs_cons hd
  have h1 := own_readT hW d1 h49 rfl (by show (5 : Nat) ≠ 0; decide) (fun xs hx => est_read hW E2 ps 0 (fun j p hp => by rw [Nat.zero_add]; exact ht j p hp) xs hx)
  rw [hn, ← List.length_map (f := fun p : GEst × Nat => p.1)] at h1
  refine ⟨h1, den_pure kx_all (by simp [pureC, flat_pure cDebt_pure]) d2, ?_⟩
  cases vs2 with
  | nil => trivial
  | cons v vs => exact hd.elim
end
theorem onR {H : Hp} {f : Hp} (hn : ∀ x B, H x = some B → x < 500 ∨ x % 1000 = 103) (hf : ∀ x, (x < 500 ∨ x % 1000 = 103) → f x = H x) (l : List Nat) : ∀ x B, H x = some B → hasN l x = true ∨ f x = some B := fun x B hB => .inr (by rw [hf x (hn x B hB)]; exact hB)
theorem eRw_get4 (f : Nat → GEst × Nat → C) (l : List (GEst × Nat)) (j : Nat) (p : GEst × Nat) (h : l[j]? = some p) : (eRw f l 0)[j * 5 + 4]? = some (.sh 1 p.1.agrs.length (flat cAgr p.1.agrs)) := by
  rw [← List.head?_drop, show j * 5 + 4 = j * 5 + 3 + 1 by omega, ← List.drop_drop, eRw_at3 f l j p h]; rfl
theorem eRw_set4 (f : Nat → GEst × Nat → C) (l : List (GEst × Nat)) (j : Nat) (p : GEst × Nat) (a : List GAgr) (h : l[j]? = some p) (hf : f j (⟨p.1.cash, p.1.claims, a⟩, p.2) = f j p) :
    (eRw f l 0).set (j * 5 + 4) (.sh 1 a.length (flat cAgr a)) = eRw f (l.set j (⟨p.1.cash, p.1.claims, a⟩, p.2)) 0 := by
  have hlt : j < l.length := (List.getElem?_eq_some_iff.1 h).1
  have h' : (l.set j (⟨p.1.cash, p.1.claims, a⟩, p.2))[j]? = some (⟨p.1.cash, p.1.claims, a⟩, p.2) := by simp [hlt]
  have e1 : (l.set j (⟨p.1.cash, p.1.claims, a⟩, p.2)).take j = l.take j := by rw [List.take_set]; exact List.set_eq_of_length_le (by rw [List.length_take]; omega)
  have e2 : (l.set j (⟨p.1.cash, p.1.claims, a⟩, p.2)).drop (j + 1) = l.drop (j + 1) := by rw [List.drop_set]; simp
  rw [eRw_split f l j p h, eRw_split f _ j _ h', e1, e2, hf]
  have t := take_lenw f l j hlt
  rw [List.set_append_right _ _ (by omega), t]
  have : j * 5 + 4 - j * 5 = 4 := by omega
  rw [this]; rfl
theorem eRw_same (f : Nat → GEst × Nat → C) (l : List (GEst × Nat)) (j : Nat) (p p' : GEst × Nat) (h : l[j]? = some p) (hc : p'.1.cash = p.1.cash) (ha : p'.1.agrs = p.1.agrs) (hf : f j p' = f j p) : eRw f (l.set j p') 0 = eRw f l 0 := by
  have h1 := eRw_set3 f f l j p p' h hc ha (fun _ _ _ _ => rfl)
  rw [hf] at h1
  obtain ⟨h4, h5⟩ := List.getElem?_eq_some_iff.1 (eRw_get3 f l j p h)
  rw [← h1, ← h5]; exact List.set_getElem_self h4
end Go.Proofs.YtogeijhepjcbgaaGreatDoor
end
section
/- The builder's agreements, the estate's claims a row of the caller's own; walked by the abstract machine. -/
namespace Go.Proofs.YtogeijhepjcbgaaGreatDoor
open Go Go.RowKit
set_option maxRecDepth 100000 in
set_option maxHeartbeats 4000000 in
theorem agree_I (e : GEst) (p : N3) (H : Hp) (ny b9 sc : Nat) (hn : ∀ x B, H x = some B → x < 500 ∨ x % 1000 = 103) (hH : H b9 = some ⟨sc, 69, 5, e.claims.length, flat cClaim e.claims⟩) (h9 : b9 % 1000 = 103) (hp : p.a < 65536 ∧ p.b < 65536 ∧ p.c < 65536) (hc : e.claims.length ≤ 30) (hna : e.agrs.length ≤ 1000000000000) (he : ∀ a ∈ e.agrs, a.length ≤ 1000000000000 ∧ ∀ t ∈ a, t.length ≤ 1000000000000) :
  ACallI Tryz.prog 42 [.agg [.lit (.bool e.cash.neg), .lit (.string e.cash.num), .lit (.string e.cash.den), .own b9 sc e.claims.length 5, .sh 1 e.agrs.length (flat cAgr e.agrs)], .agg (cN3 p)] H ny (fun res H' _ => res = .val (.one (.sh 1 (e.agrs ++ [bgN e p]).length (flat cAgr (e.agrs ++ [bgN e p])))) ∧ H' = H) := by
 have F9 : ∀ c, c % 1000 ≠ 103 → ((b9 = c) = False) := fun c hc => by simp; omega
 refine acallI_of 500 Tryz.func42 rfl (by decide) (N := 99) rfl (by simp) (Rl := [.tmp 4]) rfl fun en k0 => ?_
 refine awR [] [none, none, none] ?_
 simp only [(id F_lAgr), (id zS), seval, cN3, F9, hH]
 repeat refine ob ?_
 refine awR [] [none, none] ?_
 simp only [(id F_lAgr), (id zS), seval, cN3, F9, hH]
 repeat refine ob ?_
 refine awR [] [none, none, none, none] ?_
 simp only [(id F_lAgr), (id zS), seval, cN3, F9, hH]
 repeat refine ob ?_
 refine awR [] [none, none, none, none] ?_
 simp only [(id F_lAgr), (id zS), seval, cN3, F9, hH]
 repeat refine ob ?_
 refine awp_nilc 511 0 1063 _ 81 5 (by decide) (by rfl) (by decide) (by simp) (by rfl) ?_
 refine awp_nilc 511 1 2063 _ 81 5 (by decide) (by rfl) (by decide) (by simp) (by rfl) ?_
 refine awp_nilc 511 2 3063 _ 81 5 (by decide) (by rfl) (by decide) (by simp) (by rfl) ?_
 refine awp_on H [2, 3, 4, 5, 6, 17, 18] [502, 503, 511, 1063, 2063, 3063] (onR hn (fun x h => by (try simp only [up_apply]); repeat rw [if_neg (by omega)]) _) ?_
 try unfold Later
 try simp only [(id F_lAgr), (id zS), seval, cN3, F9, hH, bgS, T3.put, bgP, flat_snoc, cPart, List.length_append, List.length_cons, List.length_nil]
 repeat' first|apply awS|apply awB
 refine awp_loopw (fun n st => ∃ k0 T s1 s2 s3 nx, k0 ≤ e.claims.length ∧ n = e.claims.length - k0 ∧ bgL e.agrs p (e.claims.drop k0) k0 T = bgL e.agrs p e.claims 0 ⟨[], [], []⟩ ∧ T.a.length ≤ k0 ∧ T.b.length ≤ k0 ∧ T.c.length ≤ k0 ∧ st = ⟨mkT [(2, .val (.one (.ptr 502 ny 0))), (3, .val (.one (.ptr 503 (ny + 1) 0))), (4, .val (.one (.lit (.slice none 0 0)))), (5, .val (.one (.own 511 (ny + 2) 3 1))), (6, one (.int .i64 p.b)), (17, one (.int .i64 e.claims.length)), (18, one (.int .i64 k0))], mkOn H [(502, ⟨ny, 67, 5, 1, [.lit (.bool e.cash.neg), .lit (.string e.cash.num), .lit (.string e.cash.den), .own b9 sc e.claims.length 5, .sh 1 e.agrs.length (flat cAgr e.agrs)]⟩), (503, ⟨ny + 1, 107, 3, 1, cN3 p⟩), (511, ⟨ny + 2, 82, 1, 3, [.own 1063 s1 T.a.length 5, .own 2063 s2 T.b.length 5, .own 3063 s3 T.c.length 5]⟩), (1063, ⟨s1, 81, 5, T.a.length, flat cPart T.a⟩), (2063, ⟨s2, 81, 5, T.b.length, flat cPart T.b⟩), (3063, ⟨s3, 81, 5, T.c.length, flat cPart T.c⟩)], nx, 500⟩) (e.claims.length) ⟨0, ⟨[], [], []⟩, _, _, _, _, by omega, by omega, by rfl, (by first | omega | assumption | rfl | simp | (simp; omega)), (by first | omega | assumption | rfl | simp | (simp; omega)), (by first | omega | assumption | rfl | simp | (simp; omega)), rfl⟩ ?_
 rintro n0 st ⟨k0, T, s1, s2, s3, nx0, hk0, rfl, hL0, hV0_1, hV0_2, hV0_3, rfl⟩
 by_cases hlt0 : k0 < e.claims.length
 ·
  have hI0 : (k0 : Int) < (e.claims.length : Int) := by omega
  rw [List.drop_eq_getElem_cons hlt0] at hL0
  have aL := bgS_len e.agrs p k0 T
  simp only [bgL] at hL0
  refine awR [] [none] ?_
  simp only [(id F_lAgr), (id zS), seval, cN3, F9, hH, hI0]
  repeat refine ob ?_
  refine awT ?_
  refine awK ?_
  simp only [(id F_lAgr), (id zS), seval]
  refine awR [] [none, none] ?_
  simp only [(id F_lAgr), (id zS), seval, cN3, F9, hH, hI0]
  repeat refine ob ?_
  have w2 : IntKind.u64.wrap (2 * (k0 : Int)) = ((2 * k0 : Nat) : Int) := by have := wr64 (2 * k0) (by omega); rw [← this]; norm_cast
  have w3 := shr3 p.b (2 * k0) hp.2.1 (by omega)
  rw [four_pow] at w3
  change _ = ((bgB p k0 : Nat) : Int) at w3
  refine awR [] [none, none, none, none, none, none, none] ?_
  simp only [(id F_lAgr), (id zS), seval, cN3, F9, hH, hI0, w2, w3]
  repeat refine ob ?_
  by_cases hx : ((bgB p k0 : Nat) : Int) = 0
  ·
   have yhx : bgB p k0 = 0 := by omega
   refine awR [] [none, none, none, some (29, false), some (29, false), some (29, false), some (29, false), none] ?_
   simp only [(id F_lAgr), (id zS), seval, cN3, F9, hH, hI0, hx, yhx, hH, flat_pure cClaim_pure, flat_pure cAgr_pure]
   repeat refine ob ?_
   refine awT ?_
   refine awQ ?_
   simp only [(id F_lAgr), (id zS), seval]
   refine awR [] [none, none] ?_
   simp only [(id F_lAgr), (id zS), seval, cN3, F9, hH, hI0, hx, yhx]
   repeat refine ob ?_
   repeat refine ob ?_
   refine ⟨_, wk_on H [2, 3, 4, 5, 6, 17, 18] [502, 503, 511, 1063, 2063, 3063] (onR hn (fun x h => by (try simp only [up_apply]); repeat rw [if_neg (by omega)]) _), e.claims.length - (k0 + 1), by omega, k0 + 1, (bgS e.agrs p k0 T), ?a9_s1, ?a9_s2, ?a9_s3, ?a9_nx, by omega, rfl, ?i9_0, ?i9_1, ?i9_2, ?i9_3, ?st9⟩
   case st9 => (simp only [(id F_lAgr), (id zS), seval, bgS, T3.put, bgP, flat_snoc, cPart, List.length_append, List.length_cons, List.length_nil, cN3, F9, hH, hI0, hx, yhx]; first | rfl | (simp [bgS, T3.put, bgP, flat_snoc, cPart, List.length_append, List.length_cons, List.length_nil, hI0, hx, yhx, Nat.add_mul]; done))
   case i9_0 => (first | exact hL0 | (rw [← hL0]; simp only [reduceIte, hI0, hx, yhx]; done) | (rw [← hL0]; simp [hI0, hx, yhx]; done) | (simp [hI0, hx, yhx] at hL0; simpa using hL0) | (rw [← hL0]; simp [*]; done))
   case i9_1 => (first | omega | assumption | (simp; omega) | (simp_all; done))
   case i9_2 => (first | omega | assumption | (simp; omega) | (simp_all; done))
   case i9_3 => (first | omega | assumption | (simp; omega) | (simp_all; done))
  have yhx : ¬ bgB p k0 = 0 := by omega
  by_cases hfr : frA k0 e.agrs = true
  ·
   refine awR [] [none, none, none, some (29, false), some (29, false), some (29, false), some (29, false), none] ?_
   simp only [(id F_lAgr), (id zS), seval, cN3, F9, hH, hI0, hx, yhx, hfr, hH, flat_pure cClaim_pure, flat_pure cAgr_pure]
   repeat refine ob ?_
   refine ⟨_, (free_A e k0 hna he), rfl, ?_⟩
   try unfold Later
   try simp only [(id F_lAgr), (id zS), seval, cN3, F9, hH, hI0, hx, yhx, hfr, hH, flat_pure cClaim_pure, flat_pure cAgr_pure]
   repeat refine ob ?_
   refine awF ?_
   refine awK ?_
   simp only [(id F_lAgr), (id zS), seval]
   refine awR [] [none, none, none, none] ?_
   simp only [(id F_lAgr), (id zS), seval, cN3, F9, hH, hI0, hx, yhx, hfr]
   repeat refine ob ?_
   by_cases hb : ((p.c / 2 ^ k0 % 2 : Nat) : Int) = 1
   ·
    have yhb : p.c / 2 ^ k0 % 2 = 1 := by omega
    have w4 := wr64 k0 (by omega)
    have w5 := shr1 p.c k0 hp.2.2 (by omega)
    refine awR [] [none, none, none, none, none, none, none, none] ?_
    simp only [(id F_lAgr), (id zS), seval, cN3, F9, hH, hI0, hx, yhx, hfr, hb, yhb, w4, w5]
    repeat refine ob ?_
    refine awT ?_
    refine awR [] [none, none] ?_
    simp only [(id F_lAgr), (id zS), seval, cN3, F9, hH, hI0, hx, yhx, hfr, hb, yhb]
    repeat refine ob ?_
    have w6 : ((p.c : Nat) : Int).fdiv (2 ^ min 6 IntKind.u16.bits) = ((p.c / 64 : Nat) : Int) := by show ((p.c : Nat) : Int).fdiv 64 = _; rw [Int.fdiv_eq_ediv_of_nonneg _ (by decide)]; norm_cast
    have w7 : ((p.c / 64 : Nat) : Int).tmod 9 = ((p.c / 64 % 9 : Nat) : Int) := by norm_cast
    refine awR [] [none, none, none, none, none, none, none, none] ?_
    simp only [(id F_lAgr), (id zS), seval, cN3, F9, hH, hI0, hx, yhx, hfr, hb, yhb, w6, w7, cRat]
    repeat refine ob ?_
    refine ⟨_, (aWhole ((p.c / 64 % 9 : Nat) : Int) (by omega) (by omega)), rfl, ?_⟩
    try unfold Later
    try simp only [(id F_lAgr), (id zS), seval, cN3, F9, hH, hI0, hx, yhx, hfr, hb, yhb, w6, w7, cRat]
    repeat refine ob ?_
    by_cases x1 : ((bgB p k0 : Nat) : Int) = 1
    ·
     have yx1 : bgB p k0 = 1 := by omega
     refine awp_nb 1000 ?_
     dsimp only
     refine awD (scq [1, 3, 5, 7, 9, 11, 13, 15, 17, 18, 20, 23, 24] .nil) [none, none, none, none, none, none, none, none, none, none, none, none, none] ?_
     simp only [(id F_lAgr), (id zS), seval, cN3, F9, hH, hI0, hx, yhx, hfr, hb, yhb, x1, yx1]
     repeat refine ob ?_
     refine awp_nb 500 ?_
     dsimp only
     refine awR [] [none, none] ?_
     simp only [(id F_lAgr), (id zS), seval, cN3, F9, hH, hI0, hx, yhx, hfr, hb, yhb, x1, yx1]
     repeat refine ob ?_
     repeat refine ob ?_
     refine ⟨_, wk_on H [2, 3, 4, 5, 6, 17, 18] [502, 503, 511, 1063, 2063, 3063] (onR hn (fun x h => by (try simp only [up_apply]); repeat rw [if_neg (by omega)]) _), e.claims.length - (k0 + 1), by omega, k0 + 1, (bgS e.agrs p k0 T), ?a17_s1, ?a17_s2, ?a17_s3, ?a17_nx, by omega, rfl, ?i17_0, ?i17_1, ?i17_2, ?i17_3, ?st17⟩
     case st17 => (simp only [(id F_lAgr), (id zS), seval, bgS, T3.put, bgP, flat_snoc, cPart, List.length_append, List.length_cons, List.length_nil, cN3, F9, hH, hI0, hx, yhx, hfr, hb, yhb, x1, yx1]; first | rfl | (simp [bgS, T3.put, bgP, flat_snoc, cPart, List.length_append, List.length_cons, List.length_nil, hI0, hx, yhx, hfr, hb, yhb, x1, yx1, Nat.add_mul]; done))
     case i17_0 => (first | exact hL0 | (rw [← hL0]; simp only [reduceIte, hI0, hx, yhx, hfr, hb, yhb, x1, yx1]; done) | (rw [← hL0]; simp [hI0, hx, yhx, hfr, hb, yhb, x1, yx1]; done) | (simp [hI0, hx, yhx, hfr, hb, yhb, x1, yx1] at hL0; simpa using hL0) | (rw [← hL0]; simp [*]; done))
     case i17_1 => (first | omega | assumption | (simp; omega) | (simp_all; done))
     case i17_2 => (first | omega | assumption | (simp; omega) | (simp_all; done))
     case i17_3 => (first | omega | assumption | (simp; omega) | (simp_all; done))
    have yx1 : ¬ bgB p k0 = 1 := by omega
    by_cases x2 : ((bgB p k0 : Nat) : Int) = 2
    ·
     have yx2 : bgB p k0 = 2 := by omega
     refine awp_nb 2000 ?_
     dsimp only
     refine awD (scq [1, 3, 5, 7, 9, 11, 13, 15, 17, 18, 20, 23, 24] .nil) [none, none, none, none, none, none, none, none, none, none, none, none, none] ?_
     simp only [(id F_lAgr), (id zS), seval, cN3, F9, hH, hI0, hx, yhx, hfr, hb, yhb, x1, yx1, x2, yx2]
     repeat refine ob ?_
     refine awp_nb 500 ?_
     dsimp only
     refine awR [] [none, none] ?_
     simp only [(id F_lAgr), (id zS), seval, cN3, F9, hH, hI0, hx, yhx, hfr, hb, yhb, x1, yx1, x2, yx2]
     repeat refine ob ?_
     repeat refine ob ?_
     refine ⟨_, wk_on H [2, 3, 4, 5, 6, 17, 18] [502, 503, 511, 1063, 2063, 3063] (onR hn (fun x h => by (try simp only [up_apply]); repeat rw [if_neg (by omega)]) _), e.claims.length - (k0 + 1), by omega, k0 + 1, (bgS e.agrs p k0 T), ?a20_s1, ?a20_s2, ?a20_s3, ?a20_nx, by omega, rfl, ?i20_0, ?i20_1, ?i20_2, ?i20_3, ?st20⟩
     case st20 => (simp only [(id F_lAgr), (id zS), seval, bgS, T3.put, bgP, flat_snoc, cPart, List.length_append, List.length_cons, List.length_nil, cN3, F9, hH, hI0, hx, yhx, hfr, hb, yhb, x1, yx1, x2, yx2]; first | rfl | (simp [bgS, T3.put, bgP, flat_snoc, cPart, List.length_append, List.length_cons, List.length_nil, hI0, hx, yhx, hfr, hb, yhb, x1, yx1, x2, yx2, Nat.add_mul]; done))
     case i20_0 => (first | exact hL0 | (rw [← hL0]; simp only [reduceIte, hI0, hx, yhx, hfr, hb, yhb, x1, yx1, x2, yx2]; done) | (rw [← hL0]; simp [hI0, hx, yhx, hfr, hb, yhb, x1, yx1, x2, yx2]; done) | (simp [hI0, hx, yhx, hfr, hb, yhb, x1, yx1, x2, yx2] at hL0; simpa using hL0) | (rw [← hL0]; simp [*]; done))
     case i20_1 => (first | omega | assumption | (simp; omega) | (simp_all; done))
     case i20_2 => (first | omega | assumption | (simp; omega) | (simp_all; done))
     case i20_3 => (first | omega | assumption | (simp; omega) | (simp_all; done))
    have yx3 : bgB p k0 = 3 := by unfold bgB at *; omega
    have xi3 : ((bgB p k0 : Nat) : Int) = 3 := by omega
    refine awp_nb 3000 ?_
    dsimp only
    refine awD (scq [1, 3, 5, 7, 9, 11, 13, 15, 17, 18, 20, 23, 24] .nil) [none, none, none, none, none, none, none, none, none, none, none, none, none] ?_
    simp only [(id F_lAgr), (id zS), seval, cN3, F9, hH, hI0, hx, yhx, hfr, hb, yhb, x1, yx1, x2, yx3, xi3]
    repeat refine ob ?_
    refine awp_nb 500 ?_
    dsimp only
    refine awR [] [none, none] ?_
    simp only [(id F_lAgr), (id zS), seval, cN3, F9, hH, hI0, hx, yhx, hfr, hb, yhb, x1, yx1, x2, yx3, xi3]
    repeat refine ob ?_
    repeat refine ob ?_
    refine ⟨_, wk_on H [2, 3, 4, 5, 6, 17, 18] [502, 503, 511, 1063, 2063, 3063] (onR hn (fun x h => by (try simp only [up_apply]); repeat rw [if_neg (by omega)]) _), e.claims.length - (k0 + 1), by omega, k0 + 1, (bgS e.agrs p k0 T), ?a23_s1, ?a23_s2, ?a23_s3, ?a23_nx, by omega, rfl, ?i23_0, ?i23_1, ?i23_2, ?i23_3, ?st23⟩
    case st23 => (simp only [(id F_lAgr), (id zS), seval, bgS, T3.put, bgP, flat_snoc, cPart, List.length_append, List.length_cons, List.length_nil, cN3, F9, hH, hI0, hx, yhx, hfr, hb, yhb, x1, yx1, x2, yx3, xi3]; first | rfl | (simp [bgS, T3.put, bgP, flat_snoc, cPart, List.length_append, List.length_cons, List.length_nil, hI0, hx, yhx, hfr, hb, yhb, x1, yx1, x2, yx3, xi3, Nat.add_mul]; done))
    case i23_0 => (first | exact hL0 | (rw [← hL0]; simp only [reduceIte, hI0, hx, yhx, hfr, hb, yhb, x1, yx1, x2, yx3, xi3]; done) | (rw [← hL0]; simp [hI0, hx, yhx, hfr, hb, yhb, x1, yx1, x2, yx3, xi3]; done) | (simp [hI0, hx, yhx, hfr, hb, yhb, x1, yx1, x2, yx3, xi3] at hL0; simpa using hL0) | (rw [← hL0]; simp [*]; done))
    case i23_1 => (first | omega | assumption | (simp; omega) | (simp_all; done))
    case i23_2 => (first | omega | assumption | (simp; omega) | (simp_all; done))
    case i23_3 => (first | omega | assumption | (simp; omega) | (simp_all; done))
   have yhb : ¬ p.c / 2 ^ k0 % 2 = 1 := by omega
   have w4 := wr64 k0 (by omega)
   have w5 := shr1 p.c k0 hp.2.2 (by omega)
   refine awR [] [none, none, none, none, none, none, none, none] ?_
   simp only [(id F_lAgr), (id zS), seval, cN3, F9, hH, hI0, hx, yhx, hfr, hb, yhb, w4, w5]
   repeat refine ob ?_
   refine awF ?_
   refine awK ?_
   simp only [(id F_lAgr), (id zS), seval]
   by_cases x1 : ((bgB p k0 : Nat) : Int) = 1
   ·
    have yx1 : bgB p k0 = 1 := by omega
    refine awp_nb 1000 ?_
    dsimp only
    refine awD (scq [1, 3, 5, 7, 9, 11, 13, 15, 17, 18, 20, 23, 24] .nil) [none, none, none, none, none, none, none, none, none, none, none, none, none] ?_
    simp only [(id F_lAgr), (id zS), seval, cN3, F9, hH, hI0, hx, yhx, hfr, hb, yhb, x1, yx1]
    repeat refine ob ?_
    refine awp_nb 500 ?_
    dsimp only
    refine awR [] [none, none] ?_
    simp only [(id F_lAgr), (id zS), seval, cN3, F9, hH, hI0, hx, yhx, hfr, hb, yhb, x1, yx1]
    repeat refine ob ?_
    repeat refine ob ?_
    refine ⟨_, wk_on H [2, 3, 4, 5, 6, 17, 18] [502, 503, 511, 1063, 2063, 3063] (onR hn (fun x h => by (try simp only [up_apply]); repeat rw [if_neg (by omega)]) _), e.claims.length - (k0 + 1), by omega, k0 + 1, (bgS e.agrs p k0 T), ?a27_s1, ?a27_s2, ?a27_s3, ?a27_nx, by omega, rfl, ?i27_0, ?i27_1, ?i27_2, ?i27_3, ?st27⟩
    case st27 => (simp only [(id F_lAgr), (id zS), seval, bgS, T3.put, bgP, flat_snoc, cPart, List.length_append, List.length_cons, List.length_nil, cN3, F9, hH, hI0, hx, yhx, hfr, hb, yhb, x1, yx1]; first | rfl | (simp [bgS, T3.put, bgP, flat_snoc, cPart, List.length_append, List.length_cons, List.length_nil, hI0, hx, yhx, hfr, hb, yhb, x1, yx1, Nat.add_mul]; done))
    case i27_0 => (first | exact hL0 | (rw [← hL0]; simp only [reduceIte, hI0, hx, yhx, hfr, hb, yhb, x1, yx1]; done) | (rw [← hL0]; simp [hI0, hx, yhx, hfr, hb, yhb, x1, yx1]; done) | (simp [hI0, hx, yhx, hfr, hb, yhb, x1, yx1] at hL0; simpa using hL0) | (rw [← hL0]; simp [*]; done))
    case i27_1 => (first | omega | assumption | (simp; omega) | (simp_all; done))
    case i27_2 => (first | omega | assumption | (simp; omega) | (simp_all; done))
    case i27_3 => (first | omega | assumption | (simp; omega) | (simp_all; done))
   have yx1 : ¬ bgB p k0 = 1 := by omega
   by_cases x2 : ((bgB p k0 : Nat) : Int) = 2
   ·
    have yx2 : bgB p k0 = 2 := by omega
    refine awp_nb 2000 ?_
    dsimp only
    refine awD (scq [1, 3, 5, 7, 9, 11, 13, 15, 17, 18, 20, 23, 24] .nil) [none, none, none, none, none, none, none, none, none, none, none, none, none] ?_
    simp only [(id F_lAgr), (id zS), seval, cN3, F9, hH, hI0, hx, yhx, hfr, hb, yhb, x1, yx1, x2, yx2]
    repeat refine ob ?_
    refine awp_nb 500 ?_
    dsimp only
    refine awR [] [none, none] ?_
    simp only [(id F_lAgr), (id zS), seval, cN3, F9, hH, hI0, hx, yhx, hfr, hb, yhb, x1, yx1, x2, yx2]
    repeat refine ob ?_
    repeat refine ob ?_
    refine ⟨_, wk_on H [2, 3, 4, 5, 6, 17, 18] [502, 503, 511, 1063, 2063, 3063] (onR hn (fun x h => by (try simp only [up_apply]); repeat rw [if_neg (by omega)]) _), e.claims.length - (k0 + 1), by omega, k0 + 1, (bgS e.agrs p k0 T), ?a30_s1, ?a30_s2, ?a30_s3, ?a30_nx, by omega, rfl, ?i30_0, ?i30_1, ?i30_2, ?i30_3, ?st30⟩
    case st30 => (simp only [(id F_lAgr), (id zS), seval, bgS, T3.put, bgP, flat_snoc, cPart, List.length_append, List.length_cons, List.length_nil, cN3, F9, hH, hI0, hx, yhx, hfr, hb, yhb, x1, yx1, x2, yx2]; first | rfl | (simp [bgS, T3.put, bgP, flat_snoc, cPart, List.length_append, List.length_cons, List.length_nil, hI0, hx, yhx, hfr, hb, yhb, x1, yx1, x2, yx2, Nat.add_mul]; done))
    case i30_0 => (first | exact hL0 | (rw [← hL0]; simp only [reduceIte, hI0, hx, yhx, hfr, hb, yhb, x1, yx1, x2, yx2]; done) | (rw [← hL0]; simp [hI0, hx, yhx, hfr, hb, yhb, x1, yx1, x2, yx2]; done) | (simp [hI0, hx, yhx, hfr, hb, yhb, x1, yx1, x2, yx2] at hL0; simpa using hL0) | (rw [← hL0]; simp [*]; done))
    case i30_1 => (first | omega | assumption | (simp; omega) | (simp_all; done))
    case i30_2 => (first | omega | assumption | (simp; omega) | (simp_all; done))
    case i30_3 => (first | omega | assumption | (simp; omega) | (simp_all; done))
   have yx3 : bgB p k0 = 3 := by unfold bgB at *; omega
   have xi3 : ((bgB p k0 : Nat) : Int) = 3 := by omega
   refine awp_nb 3000 ?_
   dsimp only
   refine awD (scq [1, 3, 5, 7, 9, 11, 13, 15, 17, 18, 20, 23, 24] .nil) [none, none, none, none, none, none, none, none, none, none, none, none, none] ?_
   simp only [(id F_lAgr), (id zS), seval, cN3, F9, hH, hI0, hx, yhx, hfr, hb, yhb, x1, yx1, x2, yx3, xi3]
   repeat refine ob ?_
   refine awp_nb 500 ?_
   dsimp only
   refine awR [] [none, none] ?_
   simp only [(id F_lAgr), (id zS), seval, cN3, F9, hH, hI0, hx, yhx, hfr, hb, yhb, x1, yx1, x2, yx3, xi3]
   repeat refine ob ?_
   repeat refine ob ?_
   refine ⟨_, wk_on H [2, 3, 4, 5, 6, 17, 18] [502, 503, 511, 1063, 2063, 3063] (onR hn (fun x h => by (try simp only [up_apply]); repeat rw [if_neg (by omega)]) _), e.claims.length - (k0 + 1), by omega, k0 + 1, (bgS e.agrs p k0 T), ?a33_s1, ?a33_s2, ?a33_s3, ?a33_nx, by omega, rfl, ?i33_0, ?i33_1, ?i33_2, ?i33_3, ?st33⟩
   case st33 => (simp only [(id F_lAgr), (id zS), seval, bgS, T3.put, bgP, flat_snoc, cPart, List.length_append, List.length_cons, List.length_nil, cN3, F9, hH, hI0, hx, yhx, hfr, hb, yhb, x1, yx1, x2, yx3, xi3]; first | rfl | (simp [bgS, T3.put, bgP, flat_snoc, cPart, List.length_append, List.length_cons, List.length_nil, hI0, hx, yhx, hfr, hb, yhb, x1, yx1, x2, yx3, xi3, Nat.add_mul]; done))
   case i33_0 => (first | exact hL0 | (rw [← hL0]; simp only [reduceIte, hI0, hx, yhx, hfr, hb, yhb, x1, yx1, x2, yx3, xi3]; done) | (rw [← hL0]; simp [hI0, hx, yhx, hfr, hb, yhb, x1, yx1, x2, yx3, xi3]; done) | (simp [hI0, hx, yhx, hfr, hb, yhb, x1, yx1, x2, yx3, xi3] at hL0; simpa using hL0) | (rw [← hL0]; simp [*]; done))
   case i33_1 => (first | omega | assumption | (simp; omega) | (simp_all; done))
   case i33_2 => (first | omega | assumption | (simp; omega) | (simp_all; done))
   case i33_3 => (first | omega | assumption | (simp; omega) | (simp_all; done))
  refine awR [] [none, none, none, some (29, false), some (29, false), some (29, false), some (29, false), none] ?_
  simp only [(id F_lAgr), (id zS), seval, cN3, F9, hH, hI0, hx, yhx, hfr, hH, flat_pure cClaim_pure, flat_pure cAgr_pure]
  repeat refine ob ?_
  refine ⟨_, (free_A e k0 hna he), rfl, ?_⟩
  try unfold Later
  try simp only [(id F_lAgr), (id zS), seval, cN3, F9, hH, hI0, hx, yhx, hfr, hH, flat_pure cClaim_pure, flat_pure cAgr_pure]
  repeat refine ob ?_
  refine awT ?_
  refine awQ ?_
  simp only [(id F_lAgr), (id zS), seval]
  refine awR [] [none, none] ?_
  simp only [(id F_lAgr), (id zS), seval, cN3, F9, hH, hI0, hx, yhx, hfr]
  repeat refine ob ?_
  repeat refine ob ?_
  refine ⟨_, wk_on H [2, 3, 4, 5, 6, 17, 18] [502, 503, 511, 1063, 2063, 3063] (onR hn (fun x h => by (try simp only [up_apply]); repeat rw [if_neg (by omega)]) _), e.claims.length - (k0 + 1), by omega, k0 + 1, (bgS e.agrs p k0 T), ?a36_s1, ?a36_s2, ?a36_s3, ?a36_nx, by omega, rfl, ?i36_0, ?i36_1, ?i36_2, ?i36_3, ?st36⟩
  case st36 => (simp only [(id F_lAgr), (id zS), seval, bgS, T3.put, bgP, flat_snoc, cPart, List.length_append, List.length_cons, List.length_nil, cN3, F9, hH, hI0, hx, yhx, hfr]; first | rfl | (simp [bgS, T3.put, bgP, flat_snoc, cPart, List.length_append, List.length_cons, List.length_nil, hI0, hx, yhx, hfr, Nat.add_mul]; done))
  case i36_0 => (first | exact hL0 | (rw [← hL0]; simp only [reduceIte, hI0, hx, yhx, hfr]; done) | (rw [← hL0]; simp [hI0, hx, yhx, hfr]; done) | (simp [hI0, hx, yhx, hfr] at hL0; simpa using hL0) | (rw [← hL0]; simp [*]; done))
  case i36_1 => (first | omega | assumption | (simp; omega) | (simp_all; done))
  case i36_2 => (first | omega | assumption | (simp; omega) | (simp_all; done))
  case i36_3 => (first | omega | assumption | (simp; omega) | (simp_all; done))
 obtain rfl : k0 = e.claims.length := by omega
 have hI0 : ¬ (e.claims.length : Int) < (e.claims.length : Int) := by omega
 rw [List.drop_length] at hL0
 simp only [bgL] at hL0
 refine awR [] [none] ?_
 simp only [(id F_lAgr), (id zS), seval, cN3, F9, hH, hI0]
 repeat refine ob ?_
 refine awF ?_
 refine awQ ?_
 simp only [(id F_lAgr), (id zS), seval]
 by_cases hr : ((p.a / 8 % 4 : Nat) : Int) = 0
 ·
  have yhr : p.a / 8 % 4 = 0 := by omega
  have w8 : IntKind.u16.wrap ((p.a : Int).tdiv 8) = ((p.a / 8 : Nat) : Int) := by have := wr16 (p.a / 8) (by omega); rw [← this]; norm_cast
  have w9 : ((p.a / 8 : Nat) : Int).tmod 4 = ((p.a / 8 % 4 : Nat) : Int) := by norm_cast
  refine awR [] [none, none, none, none, none] ?_
  simp only [(id F_lAgr), (id zS), seval, cN3, F9, hH, hI0, hr, yhr, w8, w9]
  repeat refine ob ?_
  refine awT ?_
  have wa : IntKind.u16.wrap ((p.a : Int).tdiv 32) = ((p.a / 32 : Nat) : Int) := by have := wr16 (p.a / 32) (by omega); rw [← this]; norm_cast
  have wb : ((p.a / 32 : Nat) : Int).tmod 3 = ((p.a / 32 % 3 : Nat) : Int) := by norm_cast
  refine awR [] [none, none, none, none, none, none] ?_
  simp only [(id F_lAgr), (id zS), seval, cN3, F9, hH, hI0, hr, yhr, wa, wb]
  repeat refine ob ?_
  by_cases z0 : ((p.a / 32 % 3 : Nat) : Int) = 0
  ·
   have yz0 : p.a / 32 % 3 = 0 := by omega
   have wc : IntKind.u16.wrap ((p.a : Int).tdiv 96) = ((p.a / 96 : Nat) : Int) := by have := wr16 (p.a / 96) (by omega); rw [← this]; norm_cast
   have wd : ((p.a / 96 : Nat) : Int).tmod 7 = ((p.a / 96 % 7 : Nat) : Int) := by norm_cast
   refine awD (scq [1, 3, 5, 7, 9, 11, 13, 15, 17, 19, 21, 22, 25, 26, 28, 31, 32] .nil) [none, none, none, none, none, none, none, none, none, none, none, none, none, none, none, none, none] ?_
   simp only [(id F_lAgr), (id zS), seval, cN3, F9, hH, hI0, hr, yhr, z0, yz0, wc, wd, cRat]
   repeat refine ob ?_
   refine ⟨_, (aWhole ((p.a / 96 % 7 : Nat) : Int) (by omega) (by omega)), rfl, ?_⟩
   try unfold Later
   try simp only [(id F_lAgr), (id zS), seval, cN3, F9, hH, hI0, hr, yhr, z0, yz0, wc, wd, cRat]
   repeat refine ob ?_
   refine awp_pubc 590 511 0 (by rfl) (by rfl) (by rfl) (by decide) (by show (5 : Nat) ≠ 0; decide) (by show (1 : Nat) ≠ 0; decide) rfl ?_
   refine awp_pubc 2063 511 1 (by rfl) (by rfl) (by rfl) (by decide) (by show (5 : Nat) ≠ 0; decide) (by show (1 : Nat) ≠ 0; decide) rfl ?_
   refine awp_pubc 3063 511 2 (by rfl) (by rfl) (by rfl) (by decide) (by show (5 : Nat) ≠ 0; decide) (by show (1 : Nat) ≠ 0; decide) rfl ?_
   refine awp_pub (t := 5) (by rfl) (by rfl) (by decide) (by rfl) ?_
   simp only [(id F_lAgr), (id zS), seval]
   refine awR [] [none, none, none, none, none, none, none, none] ?_
   simp only [(id F_lAgr), (id zS), seval, cN3, F9, hH, hI0, hr, yhr, z0, yz0, flat_pure cAgr_pure, flat_pure cPart_pure]
   repeat refine ob ?_
   refine awp_pub (t := 4) (by rfl) (by rfl) (by decide) (by rfl) ?_
   refine awp_on H [4] [] (onR hn (fun x h => by (try simp only [up_apply]); repeat rw [if_neg (by omega)]) _) ?_
   simp only [(id F_lAgr), (id zS), seval, flat_pure cAgr_pure, flat_pure cPart_pure]
   refine awX ?_
   simp only [(id F_lAgr), (id zS), seval, flat_pure cAgr_pure, flat_pure cPart_pure]
   simp [bgN, ← hL0, bgT, T3.put, cAgr, flat_append, flat_cons, flat_nil, cTier, cPart, cRat, pure_append, pureCs, pureC, flat_pure cAgr_pure, flat_pure cPart_pure, yhr, yz0]
  have yz0 : ¬ p.a / 32 % 3 = 0 := by omega
  by_cases z1 : ((p.a / 32 % 3 : Nat) : Int) = 1
  ·
   have yz1 : p.a / 32 % 3 = 1 := by omega
   have wc : IntKind.u16.wrap ((p.a : Int).tdiv 96) = ((p.a / 96 : Nat) : Int) := by have := wr16 (p.a / 96) (by omega); rw [← this]; norm_cast
   have wd : ((p.a / 96 : Nat) : Int).tmod 7 = ((p.a / 96 % 7 : Nat) : Int) := by norm_cast
   refine awD (scq [1, 3, 5, 7, 9, 11, 13, 15, 17, 19, 21, 22, 25, 26, 28, 31, 32] .nil) [none, none, none, none, none, none, none, none, none, none, none, none, none, none, none, none, none] ?_
   simp only [(id F_lAgr), (id zS), seval, cN3, F9, hH, hI0, hr, yhr, z0, yz0, z1, yz1, wc, wd, cRat]
   repeat refine ob ?_
   refine ⟨_, (aWhole ((p.a / 96 % 7 : Nat) : Int) (by omega) (by omega)), rfl, ?_⟩
   try unfold Later
   try simp only [(id F_lAgr), (id zS), seval, cN3, F9, hH, hI0, hr, yhr, z0, yz0, z1, yz1, wc, wd, cRat]
   repeat refine ob ?_
   refine awp_pubc 1063 511 0 (by rfl) (by rfl) (by rfl) (by decide) (by show (5 : Nat) ≠ 0; decide) (by show (1 : Nat) ≠ 0; decide) rfl ?_
   refine awp_pubc 590 511 1 (by rfl) (by rfl) (by rfl) (by decide) (by show (5 : Nat) ≠ 0; decide) (by show (1 : Nat) ≠ 0; decide) rfl ?_
   refine awp_pubc 3063 511 2 (by rfl) (by rfl) (by rfl) (by decide) (by show (5 : Nat) ≠ 0; decide) (by show (1 : Nat) ≠ 0; decide) rfl ?_
   refine awp_pub (t := 5) (by rfl) (by rfl) (by decide) (by rfl) ?_
   simp only [(id F_lAgr), (id zS), seval]
   refine awR [] [none, none, none, none, none, none, none, none] ?_
   simp only [(id F_lAgr), (id zS), seval, cN3, F9, hH, hI0, hr, yhr, z0, yz0, z1, yz1, flat_pure cAgr_pure, flat_pure cPart_pure]
   repeat refine ob ?_
   refine awp_pub (t := 4) (by rfl) (by rfl) (by decide) (by rfl) ?_
   refine awp_on H [4] [] (onR hn (fun x h => by (try simp only [up_apply]); repeat rw [if_neg (by omega)]) _) ?_
   simp only [(id F_lAgr), (id zS), seval, flat_pure cAgr_pure, flat_pure cPart_pure]
   refine awX ?_
   simp only [(id F_lAgr), (id zS), seval, flat_pure cAgr_pure, flat_pure cPart_pure]
   simp [bgN, ← hL0, bgT, T3.put, cAgr, flat_append, flat_cons, flat_nil, cTier, cPart, cRat, pure_append, pureCs, pureC, flat_pure cAgr_pure, flat_pure cPart_pure, yhr, yz0, yz1]
  have yz2 : p.a / 32 % 3 = 2 := by omega
  have zi2 : ((p.a / 32 % 3 : Nat) : Int) = 2 := by omega
  have wc : IntKind.u16.wrap ((p.a : Int).tdiv 96) = ((p.a / 96 : Nat) : Int) := by have := wr16 (p.a / 96) (by omega); rw [← this]; norm_cast
  have wd : ((p.a / 96 : Nat) : Int).tmod 7 = ((p.a / 96 % 7 : Nat) : Int) := by norm_cast
  refine awD (scq [1, 3, 5, 7, 9, 11, 13, 15, 17, 19, 21, 22, 25, 26, 28, 31, 32] .nil) [none, none, none, none, none, none, none, none, none, none, none, none, none, none, none, none, none] ?_
  simp only [(id F_lAgr), (id zS), seval, cN3, F9, hH, hI0, hr, yhr, z0, yz0, z1, yz2, zi2, wc, wd, cRat]
  repeat refine ob ?_
  refine ⟨_, (aWhole ((p.a / 96 % 7 : Nat) : Int) (by omega) (by omega)), rfl, ?_⟩
  try unfold Later
  try simp only [(id F_lAgr), (id zS), seval, cN3, F9, hH, hI0, hr, yhr, z0, yz0, z1, yz2, zi2, wc, wd, cRat]
  repeat refine ob ?_
  refine awp_pubc 1063 511 0 (by rfl) (by rfl) (by rfl) (by decide) (by show (5 : Nat) ≠ 0; decide) (by show (1 : Nat) ≠ 0; decide) rfl ?_
  refine awp_pubc 2063 511 1 (by rfl) (by rfl) (by rfl) (by decide) (by show (5 : Nat) ≠ 0; decide) (by show (1 : Nat) ≠ 0; decide) rfl ?_
  refine awp_pubc 590 511 2 (by rfl) (by rfl) (by rfl) (by decide) (by show (5 : Nat) ≠ 0; decide) (by show (1 : Nat) ≠ 0; decide) rfl ?_
  refine awp_pub (t := 5) (by rfl) (by rfl) (by decide) (by rfl) ?_
  simp only [(id F_lAgr), (id zS), seval]
  refine awR [] [none, none, none, none, none, none, none, none] ?_
  simp only [(id F_lAgr), (id zS), seval, cN3, F9, hH, hI0, hr, yhr, z0, yz0, z1, yz2, zi2, flat_pure cAgr_pure, flat_pure cPart_pure]
  repeat refine ob ?_
  refine awp_pub (t := 4) (by rfl) (by rfl) (by decide) (by rfl) ?_
  refine awp_on H [4] [] (onR hn (fun x h => by (try simp only [up_apply]); repeat rw [if_neg (by omega)]) _) ?_
  simp only [(id F_lAgr), (id zS), seval, flat_pure cAgr_pure, flat_pure cPart_pure]
  refine awX ?_
  simp only [(id F_lAgr), (id zS), seval, flat_pure cAgr_pure, flat_pure cPart_pure]
  simp [bgN, ← hL0, bgT, T3.put, cAgr, flat_append, flat_cons, flat_nil, cTier, cPart, cRat, pure_append, pureCs, pureC, flat_pure cAgr_pure, flat_pure cPart_pure, yhr, yz0, yz2]
 have yhr : ¬ p.a / 8 % 4 = 0 := by omega
 have w8 : IntKind.u16.wrap ((p.a : Int).tdiv 8) = ((p.a / 8 : Nat) : Int) := by have := wr16 (p.a / 8) (by omega); rw [← this]; norm_cast
 have w9 : ((p.a / 8 : Nat) : Int).tmod 4 = ((p.a / 8 % 4 : Nat) : Int) := by norm_cast
 refine awR [] [none, none, none, none, none] ?_
 simp only [(id F_lAgr), (id zS), seval, cN3, F9, hH, hI0, hr, yhr, w8, w9]
 repeat refine ob ?_
 refine awF ?_
 refine awK ?_
 simp only [(id F_lAgr), (id zS), seval]
 refine awp_pubc 1063 511 0 (by rfl) (by rfl) (by rfl) (by decide) (by show (5 : Nat) ≠ 0; decide) (by show (1 : Nat) ≠ 0; decide) rfl ?_
 refine awp_pubc 2063 511 1 (by rfl) (by rfl) (by rfl) (by decide) (by show (5 : Nat) ≠ 0; decide) (by show (1 : Nat) ≠ 0; decide) rfl ?_
 refine awp_pubc 3063 511 2 (by rfl) (by rfl) (by rfl) (by decide) (by show (5 : Nat) ≠ 0; decide) (by show (1 : Nat) ≠ 0; decide) rfl ?_
 refine awp_pub (t := 5) (by rfl) (by rfl) (by decide) (by rfl) ?_
 simp only [(id F_lAgr), (id zS), seval]
 refine awR [] [none, none, none, none, none, none, none, none] ?_
 simp only [(id F_lAgr), (id zS), seval, cN3, F9, hH, hI0, hr, yhr, flat_pure cAgr_pure, flat_pure cPart_pure]
 repeat refine ob ?_
 refine awp_pub (t := 4) (by rfl) (by rfl) (by decide) (by rfl) ?_
 refine awp_on H [4] [] (onR hn (fun x h => by (try simp only [up_apply]); repeat rw [if_neg (by omega)]) _) ?_
 simp only [(id F_lAgr), (id zS), seval, flat_pure cAgr_pure, flat_pure cPart_pure]
 refine awX ?_
 simp only [(id F_lAgr), (id zS), seval, flat_pure cAgr_pure, flat_pure cPart_pure]
 simp [bgN, ← hL0, bgT, T3.put, cAgr, flat_append, flat_cons, flat_nil, cTier, cPart, cRat, pure_append, pureCs, pureC, flat_pure cAgr_pure, flat_pure cPart_pure, yhr]
end Go.Proofs.YtogeijhepjcbgaaGreatDoor
end
